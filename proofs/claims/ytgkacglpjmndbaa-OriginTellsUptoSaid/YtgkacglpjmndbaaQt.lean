/- Facts on types, and which functions can be called. -/
import Derived.Test.YtgkacglpjmndbaaMx
import Derived.Test.YtgkacglpjmndbaaRows
namespace Go.Proofs.Ytgkacglpjmndbaa
open Go.RowKit
theorem tKnown_3 : tKnown Try.prog 3 = true := by kernel_rfl
theorem tSize_3 : tSize Try.prog 3 = 1 := by kernel_rfl
theorem tAgg_3 : tAgg Try.prog 3 = false := by kernel_rfl
theorem tZok_3 : tZok Try.prog 3 = true := by kernel_rfl
theorem tZ_3 : tZ Try.prog 3 = [.int .i64 0] := by kernel_rfl
theorem tCS_3 : tCS Try.prog 3 = [0] := by kernel_rfl
theorem tBytes_3 : tBytes Try.prog 3 = 8 := by kernel_rfl
theorem tKnown_4 : tKnown Try.prog 4 = true := by kernel_rfl
theorem tSize_4 : tSize Try.prog 4 = 1 := by kernel_rfl
theorem tAgg_4 : tAgg Try.prog 4 = false := by kernel_rfl
theorem tCS_4 : tCS Try.prog 4 = [0] := by kernel_rfl
theorem tKnown_5 : tKnown Try.prog 5 = true := by kernel_rfl
theorem tSize_5 : tSize Try.prog 5 = 1 := by kernel_rfl
theorem tAgg_5 : tAgg Try.prog 5 = false := by kernel_rfl
theorem tZok_5 : tZok Try.prog 5 = true := by kernel_rfl
theorem tZ_5 : tZ Try.prog 5 = [.int .u8 0] := by kernel_rfl
theorem tCS_5 : tCS Try.prog 5 = [0] := by kernel_rfl
theorem tBytes_5 : tBytes Try.prog 5 = 1 := by kernel_rfl
theorem tKnown_9 : tKnown Try.prog 9 = true := by kernel_rfl
theorem tSize_9 : tSize Try.prog 9 = 1 := by kernel_rfl
theorem tAgg_9 : tAgg Try.prog 9 = false := by kernel_rfl
theorem tZok_9 : tZok Try.prog 9 = true := by kernel_rfl
theorem tZ_9 : tZ Try.prog 9 = [str []] := by kernel_rfl
theorem tCS_9 : tCS Try.prog 9 = [0] := by kernel_rfl
theorem tBytes_9 : tBytes Try.prog 9 = 16 := by kernel_rfl
theorem tKnown_22 : tKnown Try.prog 22 = true := by kernel_rfl
theorem tSize_22 : tSize Try.prog 22 = 1 := by kernel_rfl
theorem tAgg_22 : tAgg Try.prog 22 = false := by kernel_rfl
theorem tCS_22 : tCS Try.prog 22 = [1] := by kernel_rfl
theorem tSlice_22 : tSlice Try.prog 22 = true := by kernel_rfl
theorem tElem_22 : tElem Try.prog 22 = 3 := by kernel_rfl
theorem tKnown_24 : tKnown Try.prog 24 = true := by kernel_rfl
theorem tSize_24 : tSize Try.prog 24 = 2 := by kernel_rfl
theorem tAgg_24 : tAgg Try.prog 24 = true := by kernel_rfl
theorem tZok_24 : tZok Try.prog 24 = true := by kernel_rfl
theorem tZ_24 : tZ Try.prog 24 = [str [], .slice none 0 0] := by kernel_rfl
theorem tCS_24 : tCS Try.prog 24 = [0, 1] := by kernel_rfl
theorem tPlain_24 : tPlain Try.prog 24 = true := by kernel_rfl
theorem tStruct_24_0 : tStruct Try.prog 24 0 = true := by kernel_rfl
theorem tOff_24_0 : tOff Try.prog 24 0 = 0 := by kernel_rfl
theorem tFld_24_0 : tFld Try.prog 24 0 = 9 := by kernel_rfl
theorem tStruct_24_1 : tStruct Try.prog 24 1 = true := by kernel_rfl
theorem tOff_24_1 : tOff Try.prog 24 1 = 1 := by kernel_rfl
theorem tFld_24_1 : tFld Try.prog 24 1 = 22 := by kernel_rfl
theorem tSlice_32 : tSlice Try.prog 32 = true := by kernel_rfl
theorem tElem_32 : tElem Try.prog 32 = 79 := by kernel_rfl
theorem tKnown_33 : tKnown Try.prog 33 = true := by kernel_rfl
theorem tSize_33 : tSize Try.prog 33 = 1 := by kernel_rfl
theorem tAgg_33 : tAgg Try.prog 33 = false := by kernel_rfl
theorem tZok_33 : tZok Try.prog 33 = true := by kernel_rfl
theorem tZ_33 : tZ Try.prog 33 = [.slice none 0 0] := by kernel_rfl
theorem tCS_33 : tCS Try.prog 33 = [11] := by kernel_rfl
theorem tBytes_33 : tBytes Try.prog 33 = 24 := by kernel_rfl
theorem tSlice_33 : tSlice Try.prog 33 = true := by kernel_rfl
theorem tElem_33 : tElem Try.prog 33 = 37 := by kernel_rfl
theorem tKnown_34 : tKnown Try.prog 34 = true := by kernel_rfl
theorem tSize_34 : tSize Try.prog 34 = 1 := by kernel_rfl
theorem tAgg_34 : tAgg Try.prog 34 = false := by kernel_rfl
theorem tZok_34 : tZok Try.prog 34 = true := by kernel_rfl
theorem tZ_34 : tZ Try.prog 34 = [.slice none 0 0] := by kernel_rfl
theorem tCS_34 : tCS Try.prog 34 = [1] := by kernel_rfl
theorem tBytes_34 : tBytes Try.prog 34 = 24 := by kernel_rfl
theorem tSlice_34 : tSlice Try.prog 34 = true := by kernel_rfl
theorem tElem_34 : tElem Try.prog 34 = 9 := by kernel_rfl
theorem tKnown_35 : tKnown Try.prog 35 = true := by kernel_rfl
theorem tSize_35 : tSize Try.prog 35 = 1 := by kernel_rfl
theorem tAgg_35 : tAgg Try.prog 35 = false := by kernel_rfl
theorem tCS_35 : tCS Try.prog 35 = [3] := by kernel_rfl
theorem tSlice_35 : tSlice Try.prog 35 = true := by kernel_rfl
theorem tElem_35 : tElem Try.prog 35 = 44 := by kernel_rfl
theorem tKnown_37 : tKnown Try.prog 37 = true := by kernel_rfl
theorem tSize_37 : tSize Try.prog 37 = 11 := by kernel_rfl
theorem tAgg_37 : tAgg Try.prog 37 = true := by kernel_rfl
theorem tZok_37 : tZok Try.prog 37 = true := by kernel_rfl
theorem tZ_37 : tZ Try.prog 37 = [.int .i64 0, str [], .bool false, .bool false, .int .i64 0, .int .i64 0, .int .i64 0, .int .i64 0, .slice none 0 0, .slice none 0 0, .int .i64 0] := by kernel_rfl
theorem tCS_37 : tCS Try.prog 37 = [0, 0, 0, 0, 0, 0, 0, 0, 1, 3, 0] := by kernel_rfl
theorem tBytes_37 : tBytes Try.prog 37 = 120 := by kernel_rfl
theorem tPlain_37 : tPlain Try.prog 37 = true := by kernel_rfl
theorem tStruct_37_0 : tStruct Try.prog 37 0 = true := by kernel_rfl
theorem tOff_37_0 : tOff Try.prog 37 0 = 0 := by kernel_rfl
theorem tFld_37_0 : tFld Try.prog 37 0 = 3 := by kernel_rfl
theorem tStruct_37_1 : tStruct Try.prog 37 1 = true := by kernel_rfl
theorem tOff_37_1 : tOff Try.prog 37 1 = 1 := by kernel_rfl
theorem tFld_37_1 : tFld Try.prog 37 1 = 9 := by kernel_rfl
theorem tStruct_37_2 : tStruct Try.prog 37 2 = true := by kernel_rfl
theorem tOff_37_2 : tOff Try.prog 37 2 = 2 := by kernel_rfl
theorem tFld_37_2 : tFld Try.prog 37 2 = 4 := by kernel_rfl
theorem tStruct_37_3 : tStruct Try.prog 37 3 = true := by kernel_rfl
theorem tOff_37_3 : tOff Try.prog 37 3 = 3 := by kernel_rfl
theorem tFld_37_3 : tFld Try.prog 37 3 = 4 := by kernel_rfl
theorem tStruct_37_4 : tStruct Try.prog 37 4 = true := by kernel_rfl
theorem tOff_37_4 : tOff Try.prog 37 4 = 4 := by kernel_rfl
theorem tFld_37_4 : tFld Try.prog 37 4 = 3 := by kernel_rfl
theorem tStruct_37_5 : tStruct Try.prog 37 5 = true := by kernel_rfl
theorem tOff_37_5 : tOff Try.prog 37 5 = 5 := by kernel_rfl
theorem tFld_37_5 : tFld Try.prog 37 5 = 3 := by kernel_rfl
theorem tStruct_37_6 : tStruct Try.prog 37 6 = true := by kernel_rfl
theorem tOff_37_6 : tOff Try.prog 37 6 = 6 := by kernel_rfl
theorem tFld_37_6 : tFld Try.prog 37 6 = 3 := by kernel_rfl
theorem tStruct_37_7 : tStruct Try.prog 37 7 = true := by kernel_rfl
theorem tOff_37_7 : tOff Try.prog 37 7 = 7 := by kernel_rfl
theorem tFld_37_7 : tFld Try.prog 37 7 = 3 := by kernel_rfl
theorem tStruct_37_8 : tStruct Try.prog 37 8 = true := by kernel_rfl
theorem tOff_37_8 : tOff Try.prog 37 8 = 8 := by kernel_rfl
theorem tFld_37_8 : tFld Try.prog 37 8 = 34 := by kernel_rfl
theorem tStruct_37_9 : tStruct Try.prog 37 9 = true := by kernel_rfl
theorem tOff_37_9 : tOff Try.prog 37 9 = 9 := by kernel_rfl
theorem tFld_37_9 : tFld Try.prog 37 9 = 35 := by kernel_rfl
theorem tStruct_37_10 : tStruct Try.prog 37 10 = true := by kernel_rfl
theorem tOff_37_10 : tOff Try.prog 37 10 = 10 := by kernel_rfl
theorem tFld_37_10 : tFld Try.prog 37 10 = 3 := by kernel_rfl
theorem tKnown_44 : tKnown Try.prog 44 = true := by kernel_rfl
theorem tSize_44 : tSize Try.prog 44 = 3 := by kernel_rfl
theorem tAgg_44 : tAgg Try.prog 44 = true := by kernel_rfl
theorem tZok_44 : tZok Try.prog 44 = true := by kernel_rfl
theorem tZ_44 : tZ Try.prog 44 = [str [], .int .i64 0, .int .i64 0] := by kernel_rfl
theorem tCS_44 : tCS Try.prog 44 = [0, 0, 0] := by kernel_rfl
theorem tBytes_44 : tBytes Try.prog 44 = 32 := by kernel_rfl
theorem tFlat_44 : tFlat Try.prog 44 = true := by kernel_rfl
theorem tKinds_44 : tKinds Try.prog 44 = [2, 1, 1] := by kernel_rfl
theorem tStruct_44_0 : tStruct Try.prog 44 0 = true := by kernel_rfl
theorem tOff_44_0 : tOff Try.prog 44 0 = 0 := by kernel_rfl
theorem tFld_44_0 : tFld Try.prog 44 0 = 9 := by kernel_rfl
theorem tStruct_44_1 : tStruct Try.prog 44 1 = true := by kernel_rfl
theorem tOff_44_1 : tOff Try.prog 44 1 = 1 := by kernel_rfl
theorem tFld_44_1 : tFld Try.prog 44 1 = 3 := by kernel_rfl
theorem tStruct_44_2 : tStruct Try.prog 44 2 = true := by kernel_rfl
theorem tOff_44_2 : tOff Try.prog 44 2 = 2 := by kernel_rfl
theorem tFld_44_2 : tFld Try.prog 44 2 = 3 := by kernel_rfl
theorem tKnown_49 : tKnown Try.prog 49 = true := by kernel_rfl
theorem tSize_49 : tSize Try.prog 49 = 1 := by kernel_rfl
theorem tAgg_49 : tAgg Try.prog 49 = false := by kernel_rfl
theorem tCS_49 : tCS Try.prog 49 = [0] := by kernel_rfl
theorem tKnown_51 : tKnown Try.prog 51 = true := by kernel_rfl
theorem tSize_51 : tSize Try.prog 51 = 3 := by kernel_rfl
theorem tAgg_51 : tAgg Try.prog 51 = true := by kernel_rfl
theorem tZok_51 : tZok Try.prog 51 = true := by kernel_rfl
theorem tZ_51 : tZ Try.prog 51 = [.int .i64 0, .int .i64 0, .int .i64 0] := by kernel_rfl
theorem tCS_51 : tCS Try.prog 51 = [0, 0, 0] := by kernel_rfl
theorem tPlain_51 : tPlain Try.prog 51 = true := by kernel_rfl
theorem tFlat_51 : tFlat Try.prog 51 = true := by kernel_rfl
theorem tKinds_51 : tKinds Try.prog 51 = [1, 1, 1] := by kernel_rfl
theorem tStruct_51_0 : tStruct Try.prog 51 0 = true := by kernel_rfl
theorem tOff_51_0 : tOff Try.prog 51 0 = 0 := by kernel_rfl
theorem tFld_51_0 : tFld Try.prog 51 0 = 49 := by kernel_rfl
theorem tStruct_51_1 : tStruct Try.prog 51 1 = true := by kernel_rfl
theorem tOff_51_1 : tOff Try.prog 51 1 = 1 := by kernel_rfl
theorem tFld_51_1 : tFld Try.prog 51 1 = 3 := by kernel_rfl
theorem tStruct_51_2 : tStruct Try.prog 51 2 = true := by kernel_rfl
theorem tOff_51_2 : tOff Try.prog 51 2 = 2 := by kernel_rfl
theorem tFld_51_2 : tFld Try.prog 51 2 = 3 := by kernel_rfl
theorem tSlice_57 : tSlice Try.prog 57 = true := by kernel_rfl
theorem tElem_57 : tElem Try.prog 57 = 33 := by kernel_rfl
theorem tKnown_63 : tKnown Try.prog 63 = true := by kernel_rfl
theorem tSize_63 : tSize Try.prog 63 = 1 := by kernel_rfl
theorem tAgg_63 : tAgg Try.prog 63 = false := by kernel_rfl
theorem tCS_63 : tCS Try.prog 63 = [3] := by kernel_rfl
theorem tSlice_63 : tSlice Try.prog 63 = true := by kernel_rfl
theorem tElem_63 : tElem Try.prog 63 = 65 := by kernel_rfl
theorem tKnown_65 : tKnown Try.prog 65 = true := by kernel_rfl
theorem tSize_65 : tSize Try.prog 65 = 3 := by kernel_rfl
theorem tAgg_65 : tAgg Try.prog 65 = true := by kernel_rfl
theorem tZok_65 : tZok Try.prog 65 = true := by kernel_rfl
theorem tZ_65 : tZ Try.prog 65 = [.int .i64 0, .int .i64 0, .slice none 0 0] := by kernel_rfl
theorem tCS_65 : tCS Try.prog 65 = [0, 0, 3] := by kernel_rfl
theorem tBytes_65 : tBytes Try.prog 65 = 40 := by kernel_rfl
theorem tPlain_65 : tPlain Try.prog 65 = true := by kernel_rfl
theorem tStruct_65_0 : tStruct Try.prog 65 0 = true := by kernel_rfl
theorem tOff_65_0 : tOff Try.prog 65 0 = 0 := by kernel_rfl
theorem tFld_65_0 : tFld Try.prog 65 0 = 3 := by kernel_rfl
theorem tStruct_65_1 : tStruct Try.prog 65 1 = true := by kernel_rfl
theorem tOff_65_1 : tOff Try.prog 65 1 = 1 := by kernel_rfl
theorem tFld_65_1 : tFld Try.prog 65 1 = 3 := by kernel_rfl
theorem tStruct_65_2 : tStruct Try.prog 65 2 = true := by kernel_rfl
theorem tOff_65_2 : tOff Try.prog 65 2 = 2 := by kernel_rfl
theorem tFld_65_2 : tFld Try.prog 65 2 = 63 := by kernel_rfl
theorem tKnown_74 : tKnown Try.prog 74 = true := by kernel_rfl
theorem tSize_74 : tSize Try.prog 74 = 1 := by kernel_rfl
theorem tAgg_74 : tAgg Try.prog 74 = false := by kernel_rfl
theorem tCS_74 : tCS Try.prog 74 = [1] := by kernel_rfl
theorem tSlice_74 : tSlice Try.prog 74 = true := by kernel_rfl
theorem tElem_74 : tElem Try.prog 74 = 5 := by kernel_rfl
theorem tKnown_79 : tKnown Try.prog 79 = true := by kernel_rfl
theorem tSize_79 : tSize Try.prog 79 = 2 := by kernel_rfl
theorem tAgg_79 : tAgg Try.prog 79 = true := by kernel_rfl
theorem tZok_79 : tZok Try.prog 79 = true := by kernel_rfl
theorem tZ_79 : tZ Try.prog 79 = [str [], str []] := by kernel_rfl
theorem tCS_79 : tCS Try.prog 79 = [0, 0] := by kernel_rfl
theorem tBytes_79 : tBytes Try.prog 79 = 32 := by kernel_rfl
theorem tStruct_79_1 : tStruct Try.prog 79 1 = true := by kernel_rfl
theorem tOff_79_1 : tOff Try.prog 79 1 = 1 := by kernel_rfl
theorem tFld_79_1 : tFld Try.prog 79 1 = 9 := by kernel_rfl
theorem tZok_84 : tZok Try.prog 84 = true := by kernel_rfl
theorem tZ_84 : tZ Try.prog 84 = [str [], .slice none 0 0, str [], .int .i64 0, .int .i64 0, .slice none 0 0] := by kernel_rfl
theorem tCS_84 : tCS Try.prog 84 = [0, 1, 0, 0, 0, 11] := by kernel_rfl
theorem tPlain_84 : tPlain Try.prog 84 = true := by kernel_rfl
theorem tStruct_84_0 : tStruct Try.prog 84 0 = true := by kernel_rfl
theorem tOff_84_0 : tOff Try.prog 84 0 = 0 := by kernel_rfl
theorem tFld_84_0 : tFld Try.prog 84 0 = 24 := by kernel_rfl
theorem tStruct_84_1 : tStruct Try.prog 84 1 = true := by kernel_rfl
theorem tOff_84_1 : tOff Try.prog 84 1 = 2 := by kernel_rfl
theorem tFld_84_1 : tFld Try.prog 84 1 = 9 := by kernel_rfl
theorem tStruct_84_2 : tStruct Try.prog 84 2 = true := by kernel_rfl
theorem tOff_84_2 : tOff Try.prog 84 2 = 3 := by kernel_rfl
theorem tFld_84_2 : tFld Try.prog 84 2 = 3 := by kernel_rfl
theorem tStruct_84_3 : tStruct Try.prog 84 3 = true := by kernel_rfl
theorem tOff_84_3 : tOff Try.prog 84 3 = 4 := by kernel_rfl
theorem tFld_84_3 : tFld Try.prog 84 3 = 3 := by kernel_rfl
theorem tStruct_84_4 : tStruct Try.prog 84 4 = true := by kernel_rfl
theorem tOff_84_4 : tOff Try.prog 84 4 = 5 := by kernel_rfl
theorem tFld_84_4 : tFld Try.prog 84 4 = 33 := by kernel_rfl
theorem tKnown_93 : tKnown Try.prog 93 = true := by kernel_rfl
theorem tSize_93 : tSize Try.prog 93 = 3 := by kernel_rfl
theorem tAgg_93 : tAgg Try.prog 93 = true := by kernel_rfl
theorem tZok_93 : tZok Try.prog 93 = true := by kernel_rfl
theorem tZ_93 : tZ Try.prog 93 = [.int .i64 0, .int .i64 0, .int .i64 0] := by kernel_rfl
theorem tCS_93 : tCS Try.prog 93 = [0, 0, 0] := by kernel_rfl
theorem tPlain_93 : tPlain Try.prog 93 = true := by kernel_rfl
theorem tStruct_93_0 : tStruct Try.prog 93 0 = true := by kernel_rfl
theorem tOff_93_0 : tOff Try.prog 93 0 = 0 := by kernel_rfl
theorem tFld_93_0 : tFld Try.prog 93 0 = 51 := by kernel_rfl
theorem tKnown_94 : tKnown Try.prog 94 = true := by kernel_rfl
theorem tSize_94 : tSize Try.prog 94 = 1 := by kernel_rfl
theorem tAgg_94 : tAgg Try.prog 94 = false := by kernel_rfl
theorem tCS_94 : tCS Try.prog 94 = [0] := by kernel_rfl
theorem tKnown_95 : tKnown Try.prog 95 = true := by kernel_rfl
theorem tSize_95 : tSize Try.prog 95 = 1 := by kernel_rfl
theorem tAgg_95 : tAgg Try.prog 95 = false := by kernel_rfl
theorem tZok_95 : tZok Try.prog 95 = true := by kernel_rfl
theorem tZ_95 : tZ Try.prog 95 = [.map none] := by kernel_rfl
theorem tCS_95 : tCS Try.prog 95 = [0] := by kernel_rfl
theorem tBytes_95 : tBytes Try.prog 95 = 8 := by kernel_rfl
theorem tKnown_96 : tKnown Try.prog 96 = true := by kernel_rfl
theorem tSize_96 : tSize Try.prog 96 = 1 := by kernel_rfl
theorem tAgg_96 : tAgg Try.prog 96 = false := by kernel_rfl
theorem tCS_96 : tCS Try.prog 96 = [1] := by kernel_rfl
theorem tSlice_96 : tSlice Try.prog 96 = true := by kernel_rfl
theorem tElem_96 : tElem Try.prog 96 = 95 := by kernel_rfl
theorem tZok_98 : tZok Try.prog 98 = true := by kernel_rfl
theorem tZ_98 : tZ Try.prog 98 = [.slice none 0 0, .int .i64 0, .int .i64 0, .slice none 0 0] := by kernel_rfl
theorem tCS_98 : tCS Try.prog 98 = [11, 0, 0, 1] := by kernel_rfl
theorem tPlain_98 : tPlain Try.prog 98 = true := by kernel_rfl
theorem tStruct_98_0 : tStruct Try.prog 98 0 = true := by kernel_rfl
theorem tOff_98_0 : tOff Try.prog 98 0 = 0 := by kernel_rfl
theorem tFld_98_0 : tFld Try.prog 98 0 = 33 := by kernel_rfl
theorem tStruct_98_1 : tStruct Try.prog 98 1 = true := by kernel_rfl
theorem tOff_98_1 : tOff Try.prog 98 1 = 1 := by kernel_rfl
theorem tFld_98_1 : tFld Try.prog 98 1 = 3 := by kernel_rfl
theorem tStruct_98_2 : tStruct Try.prog 98 2 = true := by kernel_rfl
theorem tOff_98_2 : tOff Try.prog 98 2 = 2 := by kernel_rfl
theorem tFld_98_2 : tFld Try.prog 98 2 = 3 := by kernel_rfl
theorem tStruct_98_3 : tStruct Try.prog 98 3 = true := by kernel_rfl
theorem tOff_98_3 : tOff Try.prog 98 3 = 3 := by kernel_rfl
theorem tFld_98_3 : tFld Try.prog 98 3 = 96 := by kernel_rfl
theorem tZok_102 : tZok Try.prog 102 = true := by kernel_rfl
theorem tZ_102 : tZ Try.prog 102 = [.slice none 0 0, .int .i64 0, .int .i64 0, .int .i64 0, .int .i64 0] := by kernel_rfl
theorem tCS_102 : tCS Try.prog 102 = [11, 0, 0, 0, 0] := by kernel_rfl
theorem tPlain_102 : tPlain Try.prog 102 = true := by kernel_rfl
theorem tStruct_102_0 : tStruct Try.prog 102 0 = true := by kernel_rfl
theorem tOff_102_0 : tOff Try.prog 102 0 = 0 := by kernel_rfl
theorem tFld_102_0 : tFld Try.prog 102 0 = 33 := by kernel_rfl
theorem tStruct_102_1 : tStruct Try.prog 102 1 = true := by kernel_rfl
theorem tOff_102_1 : tOff Try.prog 102 1 = 1 := by kernel_rfl
theorem tFld_102_1 : tFld Try.prog 102 1 = 51 := by kernel_rfl
theorem tStruct_102_2 : tStruct Try.prog 102 2 = true := by kernel_rfl
theorem tOff_102_2 : tOff Try.prog 102 2 = 4 := by kernel_rfl
theorem tFld_102_2 : tFld Try.prog 102 2 = 3 := by kernel_rfl
theorem tKnown_107 : tKnown Try.prog 107 = true := by kernel_rfl
theorem tSize_107 : tSize Try.prog 107 = 1 := by kernel_rfl
theorem tAgg_107 : tAgg Try.prog 107 = false := by kernel_rfl
theorem tCS_107 : tCS Try.prog 107 = [0] := by kernel_rfl
theorem tZok_109 : tZok Try.prog 109 = true := by kernel_rfl
theorem tZ_109 : tZ Try.prog 109 = [.pointer none, .slice none 0 0] := by kernel_rfl
theorem tCS_109 : tCS Try.prog 109 = [0, 1] := by kernel_rfl
theorem tStruct_109_0 : tStruct Try.prog 109 0 = true := by kernel_rfl
theorem tOff_109_0 : tOff Try.prog 109 0 = 0 := by kernel_rfl
theorem tFld_109_0 : tFld Try.prog 109 0 = 107 := by kernel_rfl
theorem tStruct_109_1 : tStruct Try.prog 109 1 = true := by kernel_rfl
theorem tOff_109_1 : tOff Try.prog 109 1 = 1 := by kernel_rfl
theorem tFld_109_1 : tFld Try.prog 109 1 = 74 := by kernel_rfl
theorem tSlice_157 : tSlice Try.prog 157 = true := by kernel_rfl
theorem tElem_157 : tElem Try.prog 157 = 34 := by kernel_rfl
theorem call_15 : Callable Try.prog 15 := callable_of Try.func15 (by kernel_rfl) (by kernel_rfl)
theorem call_16 : Callable Try.prog 16 := callable_of Try.func16 (by kernel_rfl) (by kernel_rfl)
theorem call_17 : Callable Try.prog 17 := callable_of Try.func17 (by kernel_rfl) (by kernel_rfl)
theorem call_18 : Callable Try.prog 18 := callable_of Try.func18 (by kernel_rfl) (by kernel_rfl)
theorem call_19 : Callable Try.prog 19 := callable_of Try.func19 (by kernel_rfl) (by kernel_rfl)
theorem call_20 : Callable Try.prog 20 := callable_of Try.func20 (by kernel_rfl) (by kernel_rfl)
theorem call_21 : Callable Try.prog 21 := callable_of Try.func21 (by kernel_rfl) (by kernel_rfl)
theorem call_22 : Callable Try.prog 22 := callable_of Try.func22 (by kernel_rfl) (by kernel_rfl)
theorem call_23 : Callable Try.prog 23 := callable_of Try.func23 (by kernel_rfl) (by kernel_rfl)
theorem call_24 : Callable Try.prog 24 := callable_of Try.func24 (by kernel_rfl) (by kernel_rfl)
theorem call_25 : Callable Try.prog 25 := callable_of Try.func25 (by kernel_rfl) (by kernel_rfl)
theorem call_26 : Callable Try.prog 26 := callable_of Try.func26 (by kernel_rfl) (by kernel_rfl)
theorem call_27 : Callable Try.prog 27 := callable_of Try.func27 (by kernel_rfl) (by kernel_rfl)
theorem call_28 : Callable Try.prog 28 := callable_of Try.func28 (by kernel_rfl) (by kernel_rfl)
theorem call_29 : Callable Try.prog 29 := callable_of Try.func29 (by kernel_rfl) (by kernel_rfl)
theorem call_30 : Callable Try.prog 30 := callable_of Try.func30 (by kernel_rfl) (by kernel_rfl)
theorem call_31 : Callable Try.prog 31 := callable_of Try.func31 (by kernel_rfl) (by kernel_rfl)
theorem call_32 : Callable Try.prog 32 := callable_of Try.func32 (by kernel_rfl) (by kernel_rfl)
theorem call_33 : Callable Try.prog 33 := callable_of Try.func33 (by kernel_rfl) (by kernel_rfl)
theorem call_34 : Callable Try.prog 34 := callable_of Try.func34 (by kernel_rfl) (by kernel_rfl)
theorem call_35 : Callable Try.prog 35 := callable_of Try.func35 (by kernel_rfl) (by kernel_rfl)
theorem call_36 : Callable Try.prog 36 := callable_of Try.func36 (by kernel_rfl) (by kernel_rfl)
theorem call_37 : Callable Try.prog 37 := callable_of Try.func37 (by kernel_rfl) (by kernel_rfl)
theorem call_38 : Callable Try.prog 38 := callable_of Try.func38 (by kernel_rfl) (by kernel_rfl)
theorem call_39 : Callable Try.prog 39 := callable_of Try.func39 (by kernel_rfl) (by kernel_rfl)
theorem call_40 : Callable Try.prog 40 := callable_of Try.func40 (by kernel_rfl) (by kernel_rfl)
theorem call_41 : Callable Try.prog 41 := callable_of Try.func41 (by kernel_rfl) (by kernel_rfl)
theorem call_42 : Callable Try.prog 42 := callable_of Try.func42 (by kernel_rfl) (by kernel_rfl)
theorem call_43 : Callable Try.prog 43 := callable_of Try.func43 (by kernel_rfl) (by kernel_rfl)
theorem call_44 : Callable Try.prog 44 := callable_of Try.func44 (by kernel_rfl) (by kernel_rfl)
theorem call_45 : Callable Try.prog 45 := callable_of Try.func45 (by kernel_rfl) (by kernel_rfl)
theorem call_46 : Callable Try.prog 46 := callable_of Try.func46 (by kernel_rfl) (by kernel_rfl)
theorem call_47 : Callable Try.prog 47 := callable_of Try.func47 (by kernel_rfl) (by kernel_rfl)
theorem call_58 : Callable Try.prog 58 := callable_of Try.func58 (by kernel_rfl) (by kernel_rfl)
theorem call_59 : Callable Try.prog 59 := callable_of Try.func59 (by kernel_rfl) (by kernel_rfl)
theorem call_60 : Callable Try.prog 60 := callable_of Try.func60 (by kernel_rfl) (by kernel_rfl)
theorem call_61 : Callable Try.prog 61 := callable_of Try.func61 (by kernel_rfl) (by kernel_rfl)
theorem call_62 : Callable Try.prog 62 := callable_of Try.func62 (by kernel_rfl) (by kernel_rfl)
theorem call_63 : Callable Try.prog 63 := callable_of Try.func63 (by kernel_rfl) (by kernel_rfl)
theorem call_64 : Callable Try.prog 64 := callable_of Try.func64 (by kernel_rfl) (by kernel_rfl)
theorem call_65 : Callable Try.prog 65 := callable_of Try.func65 (by kernel_rfl) (by kernel_rfl)
theorem call_66 : Callable Try.prog 66 := callable_of Try.func66 (by kernel_rfl) (by kernel_rfl)
theorem call_71 : Callable Try.prog 71 := callable_of Try.func71 (by kernel_rfl) (by kernel_rfl)
theorem call_77 : Callable Try.prog 77 := callable_of Try.func77 (by kernel_rfl) (by kernel_rfl)
theorem call_78 : Callable Try.prog 78 := callable_of Try.func78 (by kernel_rfl) (by kernel_rfl)
theorem call_79 : Callable Try.prog 79 := callable_of Try.func79 (by kernel_rfl) (by kernel_rfl)
theorem call_80 : Callable Try.prog 80 := callable_of Try.func80 (by kernel_rfl) (by kernel_rfl)
theorem call_81 : Callable Try.prog 81 := callable_of Try.func81 (by kernel_rfl) (by kernel_rfl)
theorem call_82 : Callable Try.prog 82 := callable_of Try.func82 (by kernel_rfl) (by kernel_rfl)
theorem call_83 : Callable Try.prog 83 := callable_of Try.func83 (by kernel_rfl) (by kernel_rfl)
theorem call_84 : Callable Try.prog 84 := callable_of Try.func84 (by kernel_rfl) (by kernel_rfl)
theorem call_85 : Callable Try.prog 85 := callable_of Try.func85 (by kernel_rfl) (by kernel_rfl)
theorem call_86 : Callable Try.prog 86 := callable_of Try.func86 (by kernel_rfl) (by kernel_rfl)
theorem call_87 : Callable Try.prog 87 := callable_of Try.func87 (by kernel_rfl) (by kernel_rfl)
theorem call_88 : Callable Try.prog 88 := callable_of Try.func88 (by kernel_rfl) (by kernel_rfl)
theorem call_108 : Callable Try.prog 108 := callable_of Try.func108 (by kernel_rfl) (by kernel_rfl)
theorem call_109 : Callable Try.prog 109 := callable_of Try.func109 (by kernel_rfl) (by kernel_rfl)
theorem mixed : Try.prog.follows .mixedOrders = true := Try.checked.mixed
theorem upd_at {α : Type} (σ : Nat → α) (d : Nat) (x : α) (i : Nat) : upd σ d x i = if i = d then x else σ i := rfl
theorem take_drop_all {α : Type} (l : List α) (i : Nat) : (l.drop i).take (l.length - i) = l.drop i := List.take_of_length_le (by simp)
theorem inrO_fin {S R : Type} {b : S → Option (S ⊕ R)} {n : Nat} {x : Option R} {o : S ⊕ R} {out : R} (h : inrO x = some o) (hF : Fin' b n o out) : x = some out := by
  obtain ⟨r, h1, rfl⟩ := inrO_some h
  cases hF
  exact h1
theorem inl_fin {S R : Type} {b : S → Option (S ⊕ R)} {n : Nat} {s : S} {o : S ⊕ R} {out : R} (h : (some (.inl s) : Option (S ⊕ R)) = some o) (hF : Fin' b n o out) : Fin' b n (.inl s) out := by
  obtain rfl := Option.some.inj h
  exact hF
end Go.Proofs.Ytgkacglpjmndbaa
