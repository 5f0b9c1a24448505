/- Facts on types, and which functions can be called. -/
import Derived.Test.YtgkacglpjmndbaaMy
import Derived.Test.YtgkacglpjmndbaaRows
namespace Go.Proofs.Ytgkacglpjmndbaa
open Go.RowKit
theorem tKnown_3 : tKnown Try.prog 3 = true := by kernel_rfl
theorem tSize_3 : tSize Try.prog 3 = 1 := by kernel_rfl
theorem tAgg_3 : tAgg Try.prog 3 = false := by kernel_rfl
theorem tZok_3 : tZok Try.prog 3 = true := by kernel_rfl
theorem tZ_3 : tZ Try.prog 3 = [.int .i64 0] := by kernel_rfl
theorem tCS_3 : tCS Try.prog 3 = [0] := by kernel_rfl
theorem tBytes_3 : tBytes Try.prog 3 = 8 := by kernel_rfl
theorem tKnown_4 : tKnown Try.prog 4 = true := by kernel_rfl
theorem tSize_4 : tSize Try.prog 4 = 1 := by kernel_rfl
theorem tAgg_4 : tAgg Try.prog 4 = false := by kernel_rfl
theorem tCS_4 : tCS Try.prog 4 = [0] := by kernel_rfl
theorem tKnown_5 : tKnown Try.prog 5 = true := by kernel_rfl
theorem tSize_5 : tSize Try.prog 5 = 1 := by kernel_rfl
theorem tAgg_5 : tAgg Try.prog 5 = false := by kernel_rfl
theorem tZok_5 : tZok Try.prog 5 = true := by kernel_rfl
theorem tZ_5 : tZ Try.prog 5 = [.int .u8 0] := by kernel_rfl
theorem tCS_5 : tCS Try.prog 5 = [0] := by kernel_rfl
theorem tBytes_5 : tBytes Try.prog 5 = 1 := by kernel_rfl
theorem tKnown_9 : tKnown Try.prog 9 = true := by kernel_rfl
theorem tSize_9 : tSize Try.prog 9 = 1 := by kernel_rfl
theorem tAgg_9 : tAgg Try.prog 9 = false := by kernel_rfl
theorem tZok_9 : tZok Try.prog 9 = true := by kernel_rfl
theorem tZ_9 : tZ Try.prog 9 = [str []] := by kernel_rfl
theorem tCS_9 : tCS Try.prog 9 = [0] := by kernel_rfl
theorem tBytes_9 : tBytes Try.prog 9 = 16 := by kernel_rfl
theorem tKnown_22 : tKnown Try.prog 22 = true := by kernel_rfl
theorem tSize_22 : tSize Try.prog 22 = 1 := by kernel_rfl
theorem tAgg_22 : tAgg Try.prog 22 = false := by kernel_rfl
theorem tCS_22 : tCS Try.prog 22 = [1] := by kernel_rfl
theorem tSlice_22 : tSlice Try.prog 22 = true := by kernel_rfl
theorem tElem_22 : tElem Try.prog 22 = 3 := by kernel_rfl
theorem arrTy_22 : arrTy 22 = false := by kernel_rfl
theorem tKnown_24 : tKnown Try.prog 24 = true := by kernel_rfl
theorem tSize_24 : tSize Try.prog 24 = 2 := by kernel_rfl
theorem tAgg_24 : tAgg Try.prog 24 = true := by kernel_rfl
theorem tZok_24 : tZok Try.prog 24 = true := by kernel_rfl
theorem tZ_24 : tZ Try.prog 24 = [str [], .slice none 0 0] := by kernel_rfl
theorem tCS_24 : tCS Try.prog 24 = [0, 1] := by kernel_rfl
theorem tPlain_24 : tPlain Try.prog 24 = true := by kernel_rfl
theorem tStruct_24_0 : tStruct Try.prog 24 0 = true := by kernel_rfl
theorem tOff_24_0 : tOff Try.prog 24 0 = 0 := by kernel_rfl
theorem tFld_24_0 : tFld Try.prog 24 0 = 9 := by kernel_rfl
theorem tStruct_24_1 : tStruct Try.prog 24 1 = true := by kernel_rfl
theorem tOff_24_1 : tOff Try.prog 24 1 = 1 := by kernel_rfl
theorem tFld_24_1 : tFld Try.prog 24 1 = 22 := by kernel_rfl
theorem tSlice_32 : tSlice Try.prog 32 = true := by kernel_rfl
theorem tElem_32 : tElem Try.prog 32 = 79 := by kernel_rfl
theorem tKnown_33 : tKnown Try.prog 33 = true := by kernel_rfl
theorem tSize_33 : tSize Try.prog 33 = 1 := by kernel_rfl
theorem tAgg_33 : tAgg Try.prog 33 = false := by kernel_rfl
theorem tZok_33 : tZok Try.prog 33 = true := by kernel_rfl
theorem tZ_33 : tZ Try.prog 33 = [.slice none 0 0] := by kernel_rfl
theorem tCS_33 : tCS Try.prog 33 = [11] := by kernel_rfl
theorem tBytes_33 : tBytes Try.prog 33 = 24 := by kernel_rfl
theorem tSlice_33 : tSlice Try.prog 33 = true := by kernel_rfl
theorem tElem_33 : tElem Try.prog 33 = 37 := by kernel_rfl
theorem arrTy_33 : arrTy 33 = false := by kernel_rfl
theorem tKnown_34 : tKnown Try.prog 34 = true := by kernel_rfl
theorem tSize_34 : tSize Try.prog 34 = 1 := by kernel_rfl
theorem tAgg_34 : tAgg Try.prog 34 = false := by kernel_rfl
theorem tZok_34 : tZok Try.prog 34 = true := by kernel_rfl
theorem tZ_34 : tZ Try.prog 34 = [.slice none 0 0] := by kernel_rfl
theorem tCS_34 : tCS Try.prog 34 = [1] := by kernel_rfl
theorem tBytes_34 : tBytes Try.prog 34 = 24 := by kernel_rfl
theorem tSlice_34 : tSlice Try.prog 34 = true := by kernel_rfl
theorem tElem_34 : tElem Try.prog 34 = 9 := by kernel_rfl
theorem tKnown_35 : tKnown Try.prog 35 = true := by kernel_rfl
theorem tSize_35 : tSize Try.prog 35 = 1 := by kernel_rfl
theorem tAgg_35 : tAgg Try.prog 35 = false := by kernel_rfl
theorem tCS_35 : tCS Try.prog 35 = [3] := by kernel_rfl
theorem tSlice_35 : tSlice Try.prog 35 = true := by kernel_rfl
theorem tElem_35 : tElem Try.prog 35 = 44 := by kernel_rfl
theorem tKnown_37 : tKnown Try.prog 37 = true := by kernel_rfl
theorem tSize_37 : tSize Try.prog 37 = 11 := by kernel_rfl
theorem tAgg_37 : tAgg Try.prog 37 = true := by kernel_rfl
theorem tZok_37 : tZok Try.prog 37 = true := by kernel_rfl
theorem tZ_37 : tZ Try.prog 37 = [.int .i64 0, str [], .bool false, .bool false, .int .i64 0, .int .i64 0, .int .i64 0, .int .i64 0, .slice none 0 0, .slice none 0 0, .int .i64 0] := by kernel_rfl
theorem tCS_37 : tCS Try.prog 37 = [0, 0, 0, 0, 0, 0, 0, 0, 1, 3, 0] := by kernel_rfl
theorem tBytes_37 : tBytes Try.prog 37 = 120 := by kernel_rfl
theorem tPlain_37 : tPlain Try.prog 37 = true := by kernel_rfl
theorem tStruct_37_0 : tStruct Try.prog 37 0 = true := by kernel_rfl
theorem tOff_37_0 : tOff Try.prog 37 0 = 0 := by kernel_rfl
theorem tFld_37_0 : tFld Try.prog 37 0 = 3 := by kernel_rfl
theorem tStruct_37_1 : tStruct Try.prog 37 1 = true := by kernel_rfl
theorem tOff_37_1 : tOff Try.prog 37 1 = 1 := by kernel_rfl
theorem tFld_37_1 : tFld Try.prog 37 1 = 9 := by kernel_rfl
theorem tStruct_37_2 : tStruct Try.prog 37 2 = true := by kernel_rfl
theorem tOff_37_2 : tOff Try.prog 37 2 = 2 := by kernel_rfl
theorem tFld_37_2 : tFld Try.prog 37 2 = 4 := by kernel_rfl
theorem tStruct_37_3 : tStruct Try.prog 37 3 = true := by kernel_rfl
theorem tOff_37_3 : tOff Try.prog 37 3 = 3 := by kernel_rfl
theorem tFld_37_3 : tFld Try.prog 37 3 = 4 := by kernel_rfl
theorem tStruct_37_4 : tStruct Try.prog 37 4 = true := by kernel_rfl
theorem tOff_37_4 : tOff Try.prog 37 4 = 4 := by kernel_rfl
theorem tFld_37_4 : tFld Try.prog 37 4 = 3 := by kernel_rfl
theorem tStruct_37_5 : tStruct Try.prog 37 5 = true := by kernel_rfl
theorem tOff_37_5 : tOff Try.prog 37 5 = 5 := by kernel_rfl
theorem tFld_37_5 : tFld Try.prog 37 5 = 3 := by kernel_rfl
theorem tStruct_37_6 : tStruct Try.prog 37 6 = true := by kernel_rfl
theorem tOff_37_6 : tOff Try.prog 37 6 = 6 := by kernel_rfl
theorem tFld_37_6 : tFld Try.prog 37 6 = 3 := by kernel_rfl
theorem tStruct_37_7 : tStruct Try.prog 37 7 = true := by kernel_rfl
theorem tOff_37_7 : tOff Try.prog 37 7 = 7 := by kernel_rfl
theorem tFld_37_7 : tFld Try.prog 37 7 = 3 := by kernel_rfl
theorem tStruct_37_8 : tStruct Try.prog 37 8 = true := by kernel_rfl
theorem tOff_37_8 : tOff Try.prog 37 8 = 8 := by kernel_rfl
theorem tFld_37_8 : tFld Try.prog 37 8 = 34 := by kernel_rfl
theorem tStruct_37_9 : tStruct Try.prog 37 9 = true := by kernel_rfl
theorem tOff_37_9 : tOff Try.prog 37 9 = 9 := by kernel_rfl
theorem tFld_37_9 : tFld Try.prog 37 9 = 35 := by kernel_rfl
theorem tStruct_37_10 : tStruct Try.prog 37 10 = true := by kernel_rfl
theorem tOff_37_10 : tOff Try.prog 37 10 = 10 := by kernel_rfl
theorem tFld_37_10 : tFld Try.prog 37 10 = 3 := by kernel_rfl
theorem tKnown_44 : tKnown Try.prog 44 = true := by kernel_rfl
theorem tSize_44 : tSize Try.prog 44 = 3 := by kernel_rfl
theorem tAgg_44 : tAgg Try.prog 44 = true := by kernel_rfl
theorem tZok_44 : tZok Try.prog 44 = true := by kernel_rfl
theorem tZ_44 : tZ Try.prog 44 = [str [], .int .i64 0, .int .i64 0] := by kernel_rfl
theorem tCS_44 : tCS Try.prog 44 = [0, 0, 0] := by kernel_rfl
theorem tBytes_44 : tBytes Try.prog 44 = 32 := by kernel_rfl
theorem tFlat_44 : tFlat Try.prog 44 = true := by kernel_rfl
theorem tKinds_44 : tKinds Try.prog 44 = [2, 1, 1] := by kernel_rfl
theorem tStruct_44_0 : tStruct Try.prog 44 0 = true := by kernel_rfl
theorem tOff_44_0 : tOff Try.prog 44 0 = 0 := by kernel_rfl
theorem tFld_44_0 : tFld Try.prog 44 0 = 9 := by kernel_rfl
theorem tStruct_44_1 : tStruct Try.prog 44 1 = true := by kernel_rfl
theorem tOff_44_1 : tOff Try.prog 44 1 = 1 := by kernel_rfl
theorem tFld_44_1 : tFld Try.prog 44 1 = 3 := by kernel_rfl
theorem tStruct_44_2 : tStruct Try.prog 44 2 = true := by kernel_rfl
theorem tOff_44_2 : tOff Try.prog 44 2 = 2 := by kernel_rfl
theorem tFld_44_2 : tFld Try.prog 44 2 = 3 := by kernel_rfl
theorem tKnown_49 : tKnown Try.prog 49 = true := by kernel_rfl
theorem tSize_49 : tSize Try.prog 49 = 1 := by kernel_rfl
theorem tAgg_49 : tAgg Try.prog 49 = false := by kernel_rfl
theorem tCS_49 : tCS Try.prog 49 = [0] := by kernel_rfl
theorem tKnown_51 : tKnown Try.prog 51 = true := by kernel_rfl
theorem tSize_51 : tSize Try.prog 51 = 3 := by kernel_rfl
theorem tAgg_51 : tAgg Try.prog 51 = true := by kernel_rfl
theorem tZok_51 : tZok Try.prog 51 = true := by kernel_rfl
theorem tZ_51 : tZ Try.prog 51 = [.int .i64 0, .int .i64 0, .int .i64 0] := by kernel_rfl
theorem tCS_51 : tCS Try.prog 51 = [0, 0, 0] := by kernel_rfl
theorem tPlain_51 : tPlain Try.prog 51 = true := by kernel_rfl
theorem tFlat_51 : tFlat Try.prog 51 = true := by kernel_rfl
theorem tKinds_51 : tKinds Try.prog 51 = [1, 1, 1] := by kernel_rfl
theorem tStruct_51_0 : tStruct Try.prog 51 0 = true := by kernel_rfl
theorem tOff_51_0 : tOff Try.prog 51 0 = 0 := by kernel_rfl
theorem tFld_51_0 : tFld Try.prog 51 0 = 49 := by kernel_rfl
theorem tStruct_51_1 : tStruct Try.prog 51 1 = true := by kernel_rfl
theorem tOff_51_1 : tOff Try.prog 51 1 = 1 := by kernel_rfl
theorem tFld_51_1 : tFld Try.prog 51 1 = 3 := by kernel_rfl
theorem tStruct_51_2 : tStruct Try.prog 51 2 = true := by kernel_rfl
theorem tOff_51_2 : tOff Try.prog 51 2 = 2 := by kernel_rfl
theorem tFld_51_2 : tFld Try.prog 51 2 = 3 := by kernel_rfl
theorem tSlice_57 : tSlice Try.prog 57 = true := by kernel_rfl
theorem tElem_57 : tElem Try.prog 57 = 33 := by kernel_rfl
theorem arrTy_57 : arrTy 57 = true := by kernel_rfl
theorem tKnown_63 : tKnown Try.prog 63 = true := by kernel_rfl
theorem tSize_63 : tSize Try.prog 63 = 1 := by kernel_rfl
theorem tAgg_63 : tAgg Try.prog 63 = false := by kernel_rfl
theorem tCS_63 : tCS Try.prog 63 = [3] := by kernel_rfl
theorem tSlice_63 : tSlice Try.prog 63 = true := by kernel_rfl
theorem tElem_63 : tElem Try.prog 63 = 65 := by kernel_rfl
theorem arrTy_63 : arrTy 63 = false := by kernel_rfl
theorem tKnown_65 : tKnown Try.prog 65 = true := by kernel_rfl
theorem tSize_65 : tSize Try.prog 65 = 3 := by kernel_rfl
theorem tAgg_65 : tAgg Try.prog 65 = true := by kernel_rfl
theorem tZok_65 : tZok Try.prog 65 = true := by kernel_rfl
theorem tZ_65 : tZ Try.prog 65 = [.int .i64 0, .int .i64 0, .slice none 0 0] := by kernel_rfl
theorem tCS_65 : tCS Try.prog 65 = [0, 0, 3] := by kernel_rfl
theorem tBytes_65 : tBytes Try.prog 65 = 40 := by kernel_rfl
theorem tPlain_65 : tPlain Try.prog 65 = true := by kernel_rfl
theorem tStruct_65_0 : tStruct Try.prog 65 0 = true := by kernel_rfl
theorem tOff_65_0 : tOff Try.prog 65 0 = 0 := by kernel_rfl
theorem tFld_65_0 : tFld Try.prog 65 0 = 3 := by kernel_rfl
theorem tStruct_65_1 : tStruct Try.prog 65 1 = true := by kernel_rfl
theorem tOff_65_1 : tOff Try.prog 65 1 = 1 := by kernel_rfl
theorem tFld_65_1 : tFld Try.prog 65 1 = 3 := by kernel_rfl
theorem tStruct_65_2 : tStruct Try.prog 65 2 = true := by kernel_rfl
theorem tOff_65_2 : tOff Try.prog 65 2 = 2 := by kernel_rfl
theorem tFld_65_2 : tFld Try.prog 65 2 = 63 := by kernel_rfl
theorem tKnown_74 : tKnown Try.prog 74 = true := by kernel_rfl
theorem tSize_74 : tSize Try.prog 74 = 1 := by kernel_rfl
theorem tAgg_74 : tAgg Try.prog 74 = false := by kernel_rfl
theorem tCS_74 : tCS Try.prog 74 = [1] := by kernel_rfl
theorem tSlice_74 : tSlice Try.prog 74 = true := by kernel_rfl
theorem tElem_74 : tElem Try.prog 74 = 5 := by kernel_rfl
theorem arrTy_74 : arrTy 74 = false := by kernel_rfl
theorem tKnown_79 : tKnown Try.prog 79 = true := by kernel_rfl
theorem tSize_79 : tSize Try.prog 79 = 2 := by kernel_rfl
theorem tAgg_79 : tAgg Try.prog 79 = true := by kernel_rfl
theorem tZok_79 : tZok Try.prog 79 = true := by kernel_rfl
theorem tZ_79 : tZ Try.prog 79 = [str [], str []] := by kernel_rfl
theorem tCS_79 : tCS Try.prog 79 = [0, 0] := by kernel_rfl
theorem tBytes_79 : tBytes Try.prog 79 = 32 := by kernel_rfl
theorem tStruct_79_1 : tStruct Try.prog 79 1 = true := by kernel_rfl
theorem tOff_79_1 : tOff Try.prog 79 1 = 1 := by kernel_rfl
theorem tFld_79_1 : tFld Try.prog 79 1 = 9 := by kernel_rfl
theorem tZok_84 : tZok Try.prog 84 = true := by kernel_rfl
theorem tZ_84 : tZ Try.prog 84 = [str [], .slice none 0 0, str [], .int .i64 0, .int .i64 0, .slice none 0 0] := by kernel_rfl
theorem tCS_84 : tCS Try.prog 84 = [0, 1, 0, 0, 0, 11] := by kernel_rfl
theorem tPlain_84 : tPlain Try.prog 84 = true := by kernel_rfl
theorem tStruct_84_0 : tStruct Try.prog 84 0 = true := by kernel_rfl
theorem tOff_84_0 : tOff Try.prog 84 0 = 0 := by kernel_rfl
theorem tFld_84_0 : tFld Try.prog 84 0 = 24 := by kernel_rfl
theorem tStruct_84_1 : tStruct Try.prog 84 1 = true := by kernel_rfl
theorem tOff_84_1 : tOff Try.prog 84 1 = 2 := by kernel_rfl
theorem tFld_84_1 : tFld Try.prog 84 1 = 9 := by kernel_rfl
theorem tStruct_84_2 : tStruct Try.prog 84 2 = true := by kernel_rfl
theorem tOff_84_2 : tOff Try.prog 84 2 = 3 := by kernel_rfl
theorem tFld_84_2 : tFld Try.prog 84 2 = 3 := by kernel_rfl
theorem tStruct_84_3 : tStruct Try.prog 84 3 = true := by kernel_rfl
theorem tOff_84_3 : tOff Try.prog 84 3 = 4 := by kernel_rfl
theorem tFld_84_3 : tFld Try.prog 84 3 = 3 := by kernel_rfl
theorem tStruct_84_4 : tStruct Try.prog 84 4 = true := by kernel_rfl
theorem tOff_84_4 : tOff Try.prog 84 4 = 5 := by kernel_rfl
theorem tFld_84_4 : tFld Try.prog 84 4 = 33 := by kernel_rfl
theorem tKnown_93 : tKnown Try.prog 93 = true := by kernel_rfl
theorem tSize_93 : tSize Try.prog 93 = 3 := by kernel_rfl
theorem tAgg_93 : tAgg Try.prog 93 = true := by kernel_rfl
theorem tZok_93 : tZok Try.prog 93 = true := by kernel_rfl
theorem tZ_93 : tZ Try.prog 93 = [.int .i64 0, .int .i64 0, .int .i64 0] := by kernel_rfl
theorem tCS_93 : tCS Try.prog 93 = [0, 0, 0] := by kernel_rfl
theorem tPlain_93 : tPlain Try.prog 93 = true := by kernel_rfl
theorem tStruct_93_0 : tStruct Try.prog 93 0 = true := by kernel_rfl
theorem tOff_93_0 : tOff Try.prog 93 0 = 0 := by kernel_rfl
theorem tFld_93_0 : tFld Try.prog 93 0 = 51 := by kernel_rfl
theorem tKnown_94 : tKnown Try.prog 94 = true := by kernel_rfl
theorem tSize_94 : tSize Try.prog 94 = 1 := by kernel_rfl
theorem tAgg_94 : tAgg Try.prog 94 = false := by kernel_rfl
theorem tCS_94 : tCS Try.prog 94 = [0] := by kernel_rfl
theorem tKnown_95 : tKnown Try.prog 95 = true := by kernel_rfl
theorem tSize_95 : tSize Try.prog 95 = 1 := by kernel_rfl
theorem tAgg_95 : tAgg Try.prog 95 = false := by kernel_rfl
theorem tZok_95 : tZok Try.prog 95 = true := by kernel_rfl
theorem tZ_95 : tZ Try.prog 95 = [.map none] := by kernel_rfl
theorem tCS_95 : tCS Try.prog 95 = [0] := by kernel_rfl
theorem tBytes_95 : tBytes Try.prog 95 = 8 := by kernel_rfl
theorem tKnown_96 : tKnown Try.prog 96 = true := by kernel_rfl
theorem tSize_96 : tSize Try.prog 96 = 1 := by kernel_rfl
theorem tAgg_96 : tAgg Try.prog 96 = false := by kernel_rfl
theorem tCS_96 : tCS Try.prog 96 = [1] := by kernel_rfl
theorem tSlice_96 : tSlice Try.prog 96 = true := by kernel_rfl
theorem tElem_96 : tElem Try.prog 96 = 95 := by kernel_rfl
theorem arrTy_96 : arrTy 96 = false := by kernel_rfl
theorem tZok_98 : tZok Try.prog 98 = true := by kernel_rfl
theorem tZ_98 : tZ Try.prog 98 = [.slice none 0 0, .int .i64 0, .int .i64 0, .slice none 0 0] := by kernel_rfl
theorem tCS_98 : tCS Try.prog 98 = [11, 0, 0, 1] := by kernel_rfl
theorem tPlain_98 : tPlain Try.prog 98 = true := by kernel_rfl
theorem tStruct_98_0 : tStruct Try.prog 98 0 = true := by kernel_rfl
theorem tOff_98_0 : tOff Try.prog 98 0 = 0 := by kernel_rfl
theorem tFld_98_0 : tFld Try.prog 98 0 = 33 := by kernel_rfl
theorem tStruct_98_1 : tStruct Try.prog 98 1 = true := by kernel_rfl
theorem tOff_98_1 : tOff Try.prog 98 1 = 1 := by kernel_rfl
theorem tFld_98_1 : tFld Try.prog 98 1 = 3 := by kernel_rfl
theorem tStruct_98_2 : tStruct Try.prog 98 2 = true := by kernel_rfl
theorem tOff_98_2 : tOff Try.prog 98 2 = 2 := by kernel_rfl
theorem tFld_98_2 : tFld Try.prog 98 2 = 3 := by kernel_rfl
theorem tStruct_98_3 : tStruct Try.prog 98 3 = true := by kernel_rfl
theorem tOff_98_3 : tOff Try.prog 98 3 = 3 := by kernel_rfl
theorem tFld_98_3 : tFld Try.prog 98 3 = 96 := by kernel_rfl
theorem tZok_102 : tZok Try.prog 102 = true := by kernel_rfl
theorem tZ_102 : tZ Try.prog 102 = [.slice none 0 0, .int .i64 0, .int .i64 0, .int .i64 0, .int .i64 0] := by kernel_rfl
theorem tCS_102 : tCS Try.prog 102 = [11, 0, 0, 0, 0] := by kernel_rfl
theorem tPlain_102 : tPlain Try.prog 102 = true := by kernel_rfl
theorem tStruct_102_0 : tStruct Try.prog 102 0 = true := by kernel_rfl
theorem tOff_102_0 : tOff Try.prog 102 0 = 0 := by kernel_rfl
theorem tFld_102_0 : tFld Try.prog 102 0 = 33 := by kernel_rfl
theorem tStruct_102_1 : tStruct Try.prog 102 1 = true := by kernel_rfl
theorem tOff_102_1 : tOff Try.prog 102 1 = 1 := by kernel_rfl
theorem tFld_102_1 : tFld Try.prog 102 1 = 51 := by kernel_rfl
theorem tStruct_102_2 : tStruct Try.prog 102 2 = true := by kernel_rfl
theorem tOff_102_2 : tOff Try.prog 102 2 = 4 := by kernel_rfl
theorem tFld_102_2 : tFld Try.prog 102 2 = 3 := by kernel_rfl
theorem tKnown_107 : tKnown Try.prog 107 = true := by kernel_rfl
theorem tSize_107 : tSize Try.prog 107 = 1 := by kernel_rfl
theorem tAgg_107 : tAgg Try.prog 107 = false := by kernel_rfl
theorem tCS_107 : tCS Try.prog 107 = [0] := by kernel_rfl
theorem tZok_109 : tZok Try.prog 109 = true := by kernel_rfl
theorem tZ_109 : tZ Try.prog 109 = [.pointer none, .slice none 0 0] := by kernel_rfl
theorem tCS_109 : tCS Try.prog 109 = [0, 1] := by kernel_rfl
theorem tStruct_109_0 : tStruct Try.prog 109 0 = true := by kernel_rfl
theorem tOff_109_0 : tOff Try.prog 109 0 = 0 := by kernel_rfl
theorem tFld_109_0 : tFld Try.prog 109 0 = 107 := by kernel_rfl
theorem tStruct_109_1 : tStruct Try.prog 109 1 = true := by kernel_rfl
theorem tOff_109_1 : tOff Try.prog 109 1 = 1 := by kernel_rfl
theorem tFld_109_1 : tFld Try.prog 109 1 = 74 := by kernel_rfl
theorem tSlice_157 : tSlice Try.prog 157 = true := by kernel_rfl
theorem tElem_157 : tElem Try.prog 157 = 34 := by kernel_rfl
theorem y_3 : ((((type_of% @Try.underlying3) ∧ (type_of% @tAgg_3)) ∧ ((type_of% @tBytes_3) ∧ (type_of% @tCS_3))) ∧ (((type_of% @tKnown_3) ∧ (type_of% @tSize_3)) ∧ ((type_of% @tZ_3) ∧ (type_of% @tZok_3)))) := ⟨⟨⟨@Try.underlying3, @tAgg_3⟩, ⟨@tBytes_3, @tCS_3⟩⟩, ⟨⟨@tKnown_3, @tSize_3⟩, ⟨@tZ_3, @tZok_3⟩⟩⟩
theorem y_4 : (((type_of% @Try.underlying4) ∧ (type_of% @tAgg_4)) ∧ ((type_of% @tCS_4) ∧ ((type_of% @tKnown_4) ∧ (type_of% @tSize_4)))) := ⟨⟨@Try.underlying4, @tAgg_4⟩, ⟨@tCS_4, ⟨@tKnown_4, @tSize_4⟩⟩⟩
theorem y_5 : ((((type_of% @Try.underlying5) ∧ (type_of% @tAgg_5)) ∧ ((type_of% @tBytes_5) ∧ (type_of% @tCS_5))) ∧ (((type_of% @tKnown_5) ∧ (type_of% @tSize_5)) ∧ ((type_of% @tZ_5) ∧ (type_of% @tZok_5)))) := ⟨⟨⟨@Try.underlying5, @tAgg_5⟩, ⟨@tBytes_5, @tCS_5⟩⟩, ⟨⟨@tKnown_5, @tSize_5⟩, ⟨@tZ_5, @tZok_5⟩⟩⟩
theorem y_9 : ((((type_of% @Try.underlying9) ∧ (type_of% @tAgg_9)) ∧ ((type_of% @tBytes_9) ∧ (type_of% @tCS_9))) ∧ (((type_of% @tKnown_9) ∧ (type_of% @tSize_9)) ∧ ((type_of% @tZ_9) ∧ (type_of% @tZok_9)))) := ⟨⟨⟨@Try.underlying9, @tAgg_9⟩, ⟨@tBytes_9, @tCS_9⟩⟩, ⟨⟨@tKnown_9, @tSize_9⟩, ⟨@tZ_9, @tZok_9⟩⟩⟩
theorem y_22 : (((type_of% @arrTy_22) ∧ ((type_of% @tAgg_22) ∧ (type_of% @tCS_22))) ∧ (((type_of% @tElem_22) ∧ (type_of% @tKnown_22)) ∧ ((type_of% @tSize_22) ∧ (type_of% @tSlice_22)))) := ⟨⟨@arrTy_22, ⟨@tAgg_22, @tCS_22⟩⟩, ⟨⟨@tElem_22, @tKnown_22⟩, ⟨@tSize_22, @tSlice_22⟩⟩⟩
theorem y_24 : ((((type_of% @tAgg_24) ∧ ((type_of% @tCS_24) ∧ (type_of% @tFld_24_0))) ∧ ((type_of% @tFld_24_1) ∧ ((type_of% @tKnown_24) ∧ (type_of% @tOff_24_0)))) ∧ (((type_of% @tOff_24_1) ∧ ((type_of% @tPlain_24) ∧ (type_of% @tSize_24))) ∧ (((type_of% @tStruct_24_0) ∧ (type_of% @tStruct_24_1)) ∧ ((type_of% @tZ_24) ∧ (type_of% @tZok_24))))) := ⟨⟨⟨@tAgg_24, ⟨@tCS_24, @tFld_24_0⟩⟩, ⟨@tFld_24_1, ⟨@tKnown_24, @tOff_24_0⟩⟩⟩, ⟨⟨@tOff_24_1, ⟨@tPlain_24, @tSize_24⟩⟩, ⟨⟨@tStruct_24_0, @tStruct_24_1⟩, ⟨@tZ_24, @tZok_24⟩⟩⟩⟩
theorem y_32 : ((type_of% @tElem_32) ∧ (type_of% @tSlice_32)) := ⟨@tElem_32, @tSlice_32⟩
theorem y_33 : ((((type_of% @arrTy_33) ∧ (type_of% @tAgg_33)) ∧ ((type_of% @tBytes_33) ∧ ((type_of% @tCS_33) ∧ (type_of% @tElem_33)))) ∧ (((type_of% @tKnown_33) ∧ (type_of% @tSize_33)) ∧ ((type_of% @tSlice_33) ∧ ((type_of% @tZ_33) ∧ (type_of% @tZok_33))))) := ⟨⟨⟨@arrTy_33, @tAgg_33⟩, ⟨@tBytes_33, ⟨@tCS_33, @tElem_33⟩⟩⟩, ⟨⟨@tKnown_33, @tSize_33⟩, ⟨@tSlice_33, ⟨@tZ_33, @tZok_33⟩⟩⟩⟩
theorem y_34 : ((((type_of% @tAgg_34) ∧ (type_of% @tBytes_34)) ∧ ((type_of% @tCS_34) ∧ (type_of% @tElem_34))) ∧ (((type_of% @tKnown_34) ∧ (type_of% @tSize_34)) ∧ ((type_of% @tSlice_34) ∧ ((type_of% @tZ_34) ∧ (type_of% @tZok_34))))) := ⟨⟨⟨@tAgg_34, @tBytes_34⟩, ⟨@tCS_34, @tElem_34⟩⟩, ⟨⟨@tKnown_34, @tSize_34⟩, ⟨@tSlice_34, ⟨@tZ_34, @tZok_34⟩⟩⟩⟩
theorem y_35 : (((type_of% @tAgg_35) ∧ ((type_of% @tCS_35) ∧ (type_of% @tElem_35))) ∧ ((type_of% @tKnown_35) ∧ ((type_of% @tSize_35) ∧ (type_of% @tSlice_35)))) := ⟨⟨@tAgg_35, ⟨@tCS_35, @tElem_35⟩⟩, ⟨@tKnown_35, ⟨@tSize_35, @tSlice_35⟩⟩⟩
theorem y_37 : ((((((type_of% @tAgg_37) ∧ (type_of% @tBytes_37)) ∧ ((type_of% @tCS_37) ∧ ((type_of% @tFld_37_0) ∧ (type_of% @tFld_37_1)))) ∧ (((type_of% @tFld_37_10) ∧ (type_of% @tFld_37_2)) ∧ ((type_of% @tFld_37_3) ∧ ((type_of% @tFld_37_4) ∧ (type_of% @tFld_37_5))))) ∧ ((((type_of% @tFld_37_6) ∧ (type_of% @tFld_37_7)) ∧ ((type_of% @tFld_37_8) ∧ ((type_of% @tFld_37_9) ∧ (type_of% @tKnown_37)))) ∧ (((type_of% @tOff_37_0) ∧ (type_of% @tOff_37_1)) ∧ ((type_of% @tOff_37_10) ∧ ((type_of% @tOff_37_2) ∧ (type_of% @tOff_37_3)))))) ∧ (((((type_of% @tOff_37_4) ∧ (type_of% @tOff_37_5)) ∧ ((type_of% @tOff_37_6) ∧ ((type_of% @tOff_37_7) ∧ (type_of% @tOff_37_8)))) ∧ (((type_of% @tOff_37_9) ∧ (type_of% @tPlain_37)) ∧ ((type_of% @tSize_37) ∧ ((type_of% @tStruct_37_0) ∧ (type_of% @tStruct_37_1))))) ∧ ((((type_of% @tStruct_37_10) ∧ (type_of% @tStruct_37_2)) ∧ ((type_of% @tStruct_37_3) ∧ ((type_of% @tStruct_37_4) ∧ (type_of% @tStruct_37_5)))) ∧ (((type_of% @tStruct_37_6) ∧ ((type_of% @tStruct_37_7) ∧ (type_of% @tStruct_37_8))) ∧ ((type_of% @tStruct_37_9) ∧ ((type_of% @tZ_37) ∧ (type_of% @tZok_37))))))) := ⟨⟨⟨⟨⟨@tAgg_37, @tBytes_37⟩, ⟨@tCS_37, ⟨@tFld_37_0, @tFld_37_1⟩⟩⟩, ⟨⟨@tFld_37_10, @tFld_37_2⟩, ⟨@tFld_37_3, ⟨@tFld_37_4, @tFld_37_5⟩⟩⟩⟩, ⟨⟨⟨@tFld_37_6, @tFld_37_7⟩, ⟨@tFld_37_8, ⟨@tFld_37_9, @tKnown_37⟩⟩⟩, ⟨⟨@tOff_37_0, @tOff_37_1⟩, ⟨@tOff_37_10, ⟨@tOff_37_2, @tOff_37_3⟩⟩⟩⟩⟩, ⟨⟨⟨⟨@tOff_37_4, @tOff_37_5⟩, ⟨@tOff_37_6, ⟨@tOff_37_7, @tOff_37_8⟩⟩⟩, ⟨⟨@tOff_37_9, @tPlain_37⟩, ⟨@tSize_37, ⟨@tStruct_37_0, @tStruct_37_1⟩⟩⟩⟩, ⟨⟨⟨@tStruct_37_10, @tStruct_37_2⟩, ⟨@tStruct_37_3, ⟨@tStruct_37_4, @tStruct_37_5⟩⟩⟩, ⟨⟨@tStruct_37_6, ⟨@tStruct_37_7, @tStruct_37_8⟩⟩, ⟨@tStruct_37_9, ⟨@tZ_37, @tZok_37⟩⟩⟩⟩⟩⟩
theorem y_44 : (((((type_of% @tAgg_44) ∧ (type_of% @tBytes_44)) ∧ ((type_of% @tCS_44) ∧ (type_of% @tFlat_44))) ∧ (((type_of% @tFld_44_0) ∧ (type_of% @tFld_44_1)) ∧ ((type_of% @tFld_44_2) ∧ ((type_of% @tKinds_44) ∧ (type_of% @tKnown_44))))) ∧ ((((type_of% @tOff_44_0) ∧ (type_of% @tOff_44_1)) ∧ ((type_of% @tOff_44_2) ∧ (type_of% @tSize_44))) ∧ (((type_of% @tStruct_44_0) ∧ (type_of% @tStruct_44_1)) ∧ ((type_of% @tStruct_44_2) ∧ ((type_of% @tZ_44) ∧ (type_of% @tZok_44)))))) := ⟨⟨⟨⟨@tAgg_44, @tBytes_44⟩, ⟨@tCS_44, @tFlat_44⟩⟩, ⟨⟨@tFld_44_0, @tFld_44_1⟩, ⟨@tFld_44_2, ⟨@tKinds_44, @tKnown_44⟩⟩⟩⟩, ⟨⟨⟨@tOff_44_0, @tOff_44_1⟩, ⟨@tOff_44_2, @tSize_44⟩⟩, ⟨⟨@tStruct_44_0, @tStruct_44_1⟩, ⟨@tStruct_44_2, ⟨@tZ_44, @tZok_44⟩⟩⟩⟩⟩
theorem y_49 : (((type_of% @tAgg_49) ∧ (type_of% @tCS_49)) ∧ ((type_of% @tKnown_49) ∧ (type_of% @tSize_49))) := ⟨⟨@tAgg_49, @tCS_49⟩, ⟨@tKnown_49, @tSize_49⟩⟩
theorem y_51 : (((((type_of% @tAgg_51) ∧ (type_of% @tCS_51)) ∧ ((type_of% @tFlat_51) ∧ (type_of% @tFld_51_0))) ∧ (((type_of% @tFld_51_1) ∧ (type_of% @tFld_51_2)) ∧ ((type_of% @tKinds_51) ∧ ((type_of% @tKnown_51) ∧ (type_of% @tOff_51_0))))) ∧ ((((type_of% @tOff_51_1) ∧ (type_of% @tOff_51_2)) ∧ ((type_of% @tPlain_51) ∧ (type_of% @tSize_51))) ∧ (((type_of% @tStruct_51_0) ∧ (type_of% @tStruct_51_1)) ∧ ((type_of% @tStruct_51_2) ∧ ((type_of% @tZ_51) ∧ (type_of% @tZok_51)))))) := ⟨⟨⟨⟨@tAgg_51, @tCS_51⟩, ⟨@tFlat_51, @tFld_51_0⟩⟩, ⟨⟨@tFld_51_1, @tFld_51_2⟩, ⟨@tKinds_51, ⟨@tKnown_51, @tOff_51_0⟩⟩⟩⟩, ⟨⟨⟨@tOff_51_1, @tOff_51_2⟩, ⟨@tPlain_51, @tSize_51⟩⟩, ⟨⟨@tStruct_51_0, @tStruct_51_1⟩, ⟨@tStruct_51_2, ⟨@tZ_51, @tZok_51⟩⟩⟩⟩⟩
theorem y_57 : ((type_of% @arrTy_57) ∧ ((type_of% @tElem_57) ∧ (type_of% @tSlice_57))) := ⟨@arrTy_57, ⟨@tElem_57, @tSlice_57⟩⟩
theorem y_63 : (((type_of% @arrTy_63) ∧ ((type_of% @tAgg_63) ∧ (type_of% @tCS_63))) ∧ (((type_of% @tElem_63) ∧ (type_of% @tKnown_63)) ∧ ((type_of% @tSize_63) ∧ (type_of% @tSlice_63)))) := ⟨⟨@arrTy_63, ⟨@tAgg_63, @tCS_63⟩⟩, ⟨⟨@tElem_63, @tKnown_63⟩, ⟨@tSize_63, @tSlice_63⟩⟩⟩
theorem y_65 : (((((type_of% @tAgg_65) ∧ (type_of% @tBytes_65)) ∧ ((type_of% @tCS_65) ∧ (type_of% @tFld_65_0))) ∧ (((type_of% @tFld_65_1) ∧ (type_of% @tFld_65_2)) ∧ ((type_of% @tKnown_65) ∧ (type_of% @tOff_65_0)))) ∧ ((((type_of% @tOff_65_1) ∧ (type_of% @tOff_65_2)) ∧ ((type_of% @tPlain_65) ∧ (type_of% @tSize_65))) ∧ (((type_of% @tStruct_65_0) ∧ (type_of% @tStruct_65_1)) ∧ ((type_of% @tStruct_65_2) ∧ ((type_of% @tZ_65) ∧ (type_of% @tZok_65)))))) := ⟨⟨⟨⟨@tAgg_65, @tBytes_65⟩, ⟨@tCS_65, @tFld_65_0⟩⟩, ⟨⟨@tFld_65_1, @tFld_65_2⟩, ⟨@tKnown_65, @tOff_65_0⟩⟩⟩, ⟨⟨⟨@tOff_65_1, @tOff_65_2⟩, ⟨@tPlain_65, @tSize_65⟩⟩, ⟨⟨@tStruct_65_0, @tStruct_65_1⟩, ⟨@tStruct_65_2, ⟨@tZ_65, @tZok_65⟩⟩⟩⟩⟩
theorem y_74 : ((((type_of% @Try.underlying74) ∧ (type_of% @arrTy_74)) ∧ ((type_of% @tAgg_74) ∧ (type_of% @tCS_74))) ∧ (((type_of% @tElem_74) ∧ (type_of% @tKnown_74)) ∧ ((type_of% @tSize_74) ∧ (type_of% @tSlice_74)))) := ⟨⟨⟨@Try.underlying74, @arrTy_74⟩, ⟨@tAgg_74, @tCS_74⟩⟩, ⟨⟨@tElem_74, @tKnown_74⟩, ⟨@tSize_74, @tSlice_74⟩⟩⟩
theorem y_79 : ((((type_of% @tAgg_79) ∧ (type_of% @tBytes_79)) ∧ ((type_of% @tCS_79) ∧ ((type_of% @tFld_79_1) ∧ (type_of% @tKnown_79)))) ∧ (((type_of% @tOff_79_1) ∧ (type_of% @tSize_79)) ∧ ((type_of% @tStruct_79_1) ∧ ((type_of% @tZ_79) ∧ (type_of% @tZok_79))))) := ⟨⟨⟨@tAgg_79, @tBytes_79⟩, ⟨@tCS_79, ⟨@tFld_79_1, @tKnown_79⟩⟩⟩, ⟨⟨@tOff_79_1, @tSize_79⟩, ⟨@tStruct_79_1, ⟨@tZ_79, @tZok_79⟩⟩⟩⟩
theorem y_84 : (((((type_of% @tCS_84) ∧ (type_of% @tFld_84_0)) ∧ ((type_of% @tFld_84_1) ∧ (type_of% @tFld_84_2))) ∧ (((type_of% @tFld_84_3) ∧ (type_of% @tFld_84_4)) ∧ ((type_of% @tOff_84_0) ∧ ((type_of% @tOff_84_1) ∧ (type_of% @tOff_84_2))))) ∧ ((((type_of% @tOff_84_3) ∧ (type_of% @tOff_84_4)) ∧ ((type_of% @tPlain_84) ∧ ((type_of% @tStruct_84_0) ∧ (type_of% @tStruct_84_1)))) ∧ (((type_of% @tStruct_84_2) ∧ (type_of% @tStruct_84_3)) ∧ ((type_of% @tStruct_84_4) ∧ ((type_of% @tZ_84) ∧ (type_of% @tZok_84)))))) := ⟨⟨⟨⟨@tCS_84, @tFld_84_0⟩, ⟨@tFld_84_1, @tFld_84_2⟩⟩, ⟨⟨@tFld_84_3, @tFld_84_4⟩, ⟨@tOff_84_0, ⟨@tOff_84_1, @tOff_84_2⟩⟩⟩⟩, ⟨⟨⟨@tOff_84_3, @tOff_84_4⟩, ⟨@tPlain_84, ⟨@tStruct_84_0, @tStruct_84_1⟩⟩⟩, ⟨⟨@tStruct_84_2, @tStruct_84_3⟩, ⟨@tStruct_84_4, ⟨@tZ_84, @tZok_84⟩⟩⟩⟩⟩
theorem y_93 : ((((type_of% @tAgg_93) ∧ (type_of% @tCS_93)) ∧ ((type_of% @tFld_93_0) ∧ ((type_of% @tKnown_93) ∧ (type_of% @tOff_93_0)))) ∧ (((type_of% @tPlain_93) ∧ (type_of% @tSize_93)) ∧ ((type_of% @tStruct_93_0) ∧ ((type_of% @tZ_93) ∧ (type_of% @tZok_93))))) := ⟨⟨⟨@tAgg_93, @tCS_93⟩, ⟨@tFld_93_0, ⟨@tKnown_93, @tOff_93_0⟩⟩⟩, ⟨⟨@tPlain_93, @tSize_93⟩, ⟨@tStruct_93_0, ⟨@tZ_93, @tZok_93⟩⟩⟩⟩
theorem y_94 : (((type_of% @tAgg_94) ∧ (type_of% @tCS_94)) ∧ ((type_of% @tKnown_94) ∧ (type_of% @tSize_94))) := ⟨⟨@tAgg_94, @tCS_94⟩, ⟨@tKnown_94, @tSize_94⟩⟩
theorem y_95 : (((type_of% @tAgg_95) ∧ ((type_of% @tBytes_95) ∧ (type_of% @tCS_95))) ∧ (((type_of% @tKnown_95) ∧ (type_of% @tSize_95)) ∧ ((type_of% @tZ_95) ∧ (type_of% @tZok_95)))) := ⟨⟨@tAgg_95, ⟨@tBytes_95, @tCS_95⟩⟩, ⟨⟨@tKnown_95, @tSize_95⟩, ⟨@tZ_95, @tZok_95⟩⟩⟩
theorem y_96 : (((type_of% @arrTy_96) ∧ ((type_of% @tAgg_96) ∧ (type_of% @tCS_96))) ∧ (((type_of% @tElem_96) ∧ (type_of% @tKnown_96)) ∧ ((type_of% @tSize_96) ∧ (type_of% @tSlice_96)))) := ⟨⟨@arrTy_96, ⟨@tAgg_96, @tCS_96⟩⟩, ⟨⟨@tElem_96, @tKnown_96⟩, ⟨@tSize_96, @tSlice_96⟩⟩⟩
theorem y_98 : (((((type_of% @tCS_98) ∧ (type_of% @tFld_98_0)) ∧ ((type_of% @tFld_98_1) ∧ (type_of% @tFld_98_2))) ∧ (((type_of% @tFld_98_3) ∧ (type_of% @tOff_98_0)) ∧ ((type_of% @tOff_98_1) ∧ (type_of% @tOff_98_2)))) ∧ ((((type_of% @tOff_98_3) ∧ (type_of% @tPlain_98)) ∧ ((type_of% @tStruct_98_0) ∧ (type_of% @tStruct_98_1))) ∧ (((type_of% @tStruct_98_2) ∧ (type_of% @tStruct_98_3)) ∧ ((type_of% @tZ_98) ∧ (type_of% @tZok_98))))) := ⟨⟨⟨⟨@tCS_98, @tFld_98_0⟩, ⟨@tFld_98_1, @tFld_98_2⟩⟩, ⟨⟨@tFld_98_3, @tOff_98_0⟩, ⟨@tOff_98_1, @tOff_98_2⟩⟩⟩, ⟨⟨⟨@tOff_98_3, @tPlain_98⟩, ⟨@tStruct_98_0, @tStruct_98_1⟩⟩, ⟨⟨@tStruct_98_2, @tStruct_98_3⟩, ⟨@tZ_98, @tZok_98⟩⟩⟩⟩
theorem y_102 : ((((type_of% @tCS_102) ∧ ((type_of% @tFld_102_0) ∧ (type_of% @tFld_102_1))) ∧ ((type_of% @tFld_102_2) ∧ ((type_of% @tOff_102_0) ∧ (type_of% @tOff_102_1)))) ∧ (((type_of% @tOff_102_2) ∧ ((type_of% @tPlain_102) ∧ (type_of% @tStruct_102_0))) ∧ (((type_of% @tStruct_102_1) ∧ (type_of% @tStruct_102_2)) ∧ ((type_of% @tZ_102) ∧ (type_of% @tZok_102))))) := ⟨⟨⟨@tCS_102, ⟨@tFld_102_0, @tFld_102_1⟩⟩, ⟨@tFld_102_2, ⟨@tOff_102_0, @tOff_102_1⟩⟩⟩, ⟨⟨@tOff_102_2, ⟨@tPlain_102, @tStruct_102_0⟩⟩, ⟨⟨@tStruct_102_1, @tStruct_102_2⟩, ⟨@tZ_102, @tZok_102⟩⟩⟩⟩
theorem y_107 : (((type_of% @Try.underlying107) ∧ (type_of% @tAgg_107)) ∧ ((type_of% @tCS_107) ∧ ((type_of% @tKnown_107) ∧ (type_of% @tSize_107)))) := ⟨⟨@Try.underlying107, @tAgg_107⟩, ⟨@tCS_107, ⟨@tKnown_107, @tSize_107⟩⟩⟩
theorem y_109 : ((((type_of% @Try.underlying109) ∧ (type_of% @tCS_109)) ∧ ((type_of% @tFld_109_0) ∧ ((type_of% @tFld_109_1) ∧ (type_of% @tOff_109_0)))) ∧ (((type_of% @tOff_109_1) ∧ (type_of% @tStruct_109_0)) ∧ ((type_of% @tStruct_109_1) ∧ ((type_of% @tZ_109) ∧ (type_of% @tZok_109))))) := ⟨⟨⟨@Try.underlying109, @tCS_109⟩, ⟨@tFld_109_0, ⟨@tFld_109_1, @tOff_109_0⟩⟩⟩, ⟨⟨@tOff_109_1, @tStruct_109_0⟩, ⟨@tStruct_109_1, ⟨@tZ_109, @tZok_109⟩⟩⟩⟩
theorem y_118 : (type_of% @Try.underlying118) := @Try.underlying118
theorem y_144 : (type_of% @Try.underlying144) := @Try.underlying144
theorem y_146 : (type_of% @Try.underlying146) := @Try.underlying146
theorem y_149 : (type_of% @Try.underlying149) := @Try.underlying149
theorem y_157 : ((type_of% @tElem_157) ∧ (type_of% @tSlice_157)) := ⟨@tElem_157, @tSlice_157⟩
theorem call_15 : Callable Try.prog 15 := callable_of Try.func15 (by kernel_rfl) (by kernel_rfl)
theorem call_16 : Callable Try.prog 16 := callable_of Try.func16 (by kernel_rfl) (by kernel_rfl)
theorem call_17 : Callable Try.prog 17 := callable_of Try.func17 (by kernel_rfl) (by kernel_rfl)
theorem call_18 : Callable Try.prog 18 := callable_of Try.func18 (by kernel_rfl) (by kernel_rfl)
theorem call_19 : Callable Try.prog 19 := callable_of Try.func19 (by kernel_rfl) (by kernel_rfl)
theorem call_20 : Callable Try.prog 20 := callable_of Try.func20 (by kernel_rfl) (by kernel_rfl)
theorem call_21 : Callable Try.prog 21 := callable_of Try.func21 (by kernel_rfl) (by kernel_rfl)
theorem call_22 : Callable Try.prog 22 := callable_of Try.func22 (by kernel_rfl) (by kernel_rfl)
theorem call_23 : Callable Try.prog 23 := callable_of Try.func23 (by kernel_rfl) (by kernel_rfl)
theorem call_24 : Callable Try.prog 24 := callable_of Try.func24 (by kernel_rfl) (by kernel_rfl)
theorem call_25 : Callable Try.prog 25 := callable_of Try.func25 (by kernel_rfl) (by kernel_rfl)
theorem call_26 : Callable Try.prog 26 := callable_of Try.func26 (by kernel_rfl) (by kernel_rfl)
theorem call_27 : Callable Try.prog 27 := callable_of Try.func27 (by kernel_rfl) (by kernel_rfl)
theorem call_28 : Callable Try.prog 28 := callable_of Try.func28 (by kernel_rfl) (by kernel_rfl)
theorem call_29 : Callable Try.prog 29 := callable_of Try.func29 (by kernel_rfl) (by kernel_rfl)
theorem call_30 : Callable Try.prog 30 := callable_of Try.func30 (by kernel_rfl) (by kernel_rfl)
theorem call_31 : Callable Try.prog 31 := callable_of Try.func31 (by kernel_rfl) (by kernel_rfl)
theorem call_32 : Callable Try.prog 32 := callable_of Try.func32 (by kernel_rfl) (by kernel_rfl)
theorem call_33 : Callable Try.prog 33 := callable_of Try.func33 (by kernel_rfl) (by kernel_rfl)
theorem call_34 : Callable Try.prog 34 := callable_of Try.func34 (by kernel_rfl) (by kernel_rfl)
theorem call_35 : Callable Try.prog 35 := callable_of Try.func35 (by kernel_rfl) (by kernel_rfl)
theorem call_36 : Callable Try.prog 36 := callable_of Try.func36 (by kernel_rfl) (by kernel_rfl)
theorem call_37 : Callable Try.prog 37 := callable_of Try.func37 (by kernel_rfl) (by kernel_rfl)
theorem call_38 : Callable Try.prog 38 := callable_of Try.func38 (by kernel_rfl) (by kernel_rfl)
theorem call_39 : Callable Try.prog 39 := callable_of Try.func39 (by kernel_rfl) (by kernel_rfl)
theorem call_40 : Callable Try.prog 40 := callable_of Try.func40 (by kernel_rfl) (by kernel_rfl)
theorem call_41 : Callable Try.prog 41 := callable_of Try.func41 (by kernel_rfl) (by kernel_rfl)
theorem call_42 : Callable Try.prog 42 := callable_of Try.func42 (by kernel_rfl) (by kernel_rfl)
theorem call_43 : Callable Try.prog 43 := callable_of Try.func43 (by kernel_rfl) (by kernel_rfl)
theorem call_44 : Callable Try.prog 44 := callable_of Try.func44 (by kernel_rfl) (by kernel_rfl)
theorem call_45 : Callable Try.prog 45 := callable_of Try.func45 (by kernel_rfl) (by kernel_rfl)
theorem call_46 : Callable Try.prog 46 := callable_of Try.func46 (by kernel_rfl) (by kernel_rfl)
theorem call_47 : Callable Try.prog 47 := callable_of Try.func47 (by kernel_rfl) (by kernel_rfl)
theorem call_58 : Callable Try.prog 58 := callable_of Try.func58 (by kernel_rfl) (by kernel_rfl)
theorem call_59 : Callable Try.prog 59 := callable_of Try.func59 (by kernel_rfl) (by kernel_rfl)
theorem call_60 : Callable Try.prog 60 := callable_of Try.func60 (by kernel_rfl) (by kernel_rfl)
theorem call_61 : Callable Try.prog 61 := callable_of Try.func61 (by kernel_rfl) (by kernel_rfl)
theorem call_62 : Callable Try.prog 62 := callable_of Try.func62 (by kernel_rfl) (by kernel_rfl)
theorem call_63 : Callable Try.prog 63 := callable_of Try.func63 (by kernel_rfl) (by kernel_rfl)
theorem call_64 : Callable Try.prog 64 := callable_of Try.func64 (by kernel_rfl) (by kernel_rfl)
theorem call_65 : Callable Try.prog 65 := callable_of Try.func65 (by kernel_rfl) (by kernel_rfl)
theorem call_66 : Callable Try.prog 66 := callable_of Try.func66 (by kernel_rfl) (by kernel_rfl)
theorem call_71 : Callable Try.prog 71 := callable_of Try.func71 (by kernel_rfl) (by kernel_rfl)
theorem call_77 : Callable Try.prog 77 := callable_of Try.func77 (by kernel_rfl) (by kernel_rfl)
theorem call_78 : Callable Try.prog 78 := callable_of Try.func78 (by kernel_rfl) (by kernel_rfl)
theorem call_79 : Callable Try.prog 79 := callable_of Try.func79 (by kernel_rfl) (by kernel_rfl)
theorem call_80 : Callable Try.prog 80 := callable_of Try.func80 (by kernel_rfl) (by kernel_rfl)
theorem call_81 : Callable Try.prog 81 := callable_of Try.func81 (by kernel_rfl) (by kernel_rfl)
theorem call_82 : Callable Try.prog 82 := callable_of Try.func82 (by kernel_rfl) (by kernel_rfl)
theorem call_83 : Callable Try.prog 83 := callable_of Try.func83 (by kernel_rfl) (by kernel_rfl)
theorem call_84 : Callable Try.prog 84 := callable_of Try.func84 (by kernel_rfl) (by kernel_rfl)
theorem call_85 : Callable Try.prog 85 := callable_of Try.func85 (by kernel_rfl) (by kernel_rfl)
theorem call_86 : Callable Try.prog 86 := callable_of Try.func86 (by kernel_rfl) (by kernel_rfl)
theorem call_87 : Callable Try.prog 87 := callable_of Try.func87 (by kernel_rfl) (by kernel_rfl)
theorem call_88 : Callable Try.prog 88 := callable_of Try.func88 (by kernel_rfl) (by kernel_rfl)
theorem call_108 : Callable Try.prog 108 := callable_of Try.func108 (by kernel_rfl) (by kernel_rfl)
theorem call_109 : Callable Try.prog 109 := callable_of Try.func109 (by kernel_rfl) (by kernel_rfl)
theorem mixed : Try.prog.follows .mixedOrders = true := Try.checked.mixed
theorem upd_at {α : Type} (σ : Nat → α) (d : Nat) (x : α) (i : Nat) : upd σ d x i = if i = d then x else σ i := rfl
theorem take_drop_all {α : Type} (l : List α) (i : Nat) : (l.drop i).take (l.length - i) = l.drop i := List.take_of_length_le (by simp)
theorem drop_map0 {α β : Type} (f : α → β) (l : List α) (i : Nat) : (l.map f).drop i = (l.drop i).map f := List.map_drop.symm
theorem take_map0 {α β : Type} (f : α → β) (l : List α) (i : Nat) : (l.map f).take i = (l.take i).map f := List.map_take.symm
theorem inrO_fin {S R : Type} {b : S → Option (S ⊕ R)} {n : Nat} {x : Option R} {o : S ⊕ R} {out : R} (h : inrO x = some o) (hF : Fin' b n o out) : x = some out := by
  obtain ⟨r, h1, rfl⟩ := inrO_some h
  cases hF
  exact h1
theorem inl_fin {S R : Type} {b : S → Option (S ⊕ R)} {n : Nat} {s : S} {o : S ⊕ R} {out : R} (h : (some (.inl s) : Option (S ⊕ R)) = some o) (hF : Fin' b n o out) : Fin' b n (.inl s) out := by
  obtain rfl := Option.some.inj h
  exact hF
end Go.Proofs.Ytgkacglpjmndbaa
