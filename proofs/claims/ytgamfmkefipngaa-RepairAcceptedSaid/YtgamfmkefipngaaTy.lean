/- Facts on the program, each by reckoning. -/
import Derived.Test.YtgamfmkefipngaaRfa
import Derived.Test.YtgamfmkefipngaaProg
namespace Go.Proofs.Ytgamfmkefipngaa
open Go.RowKit Go.Eng
set_option linter.unusedVariables false
set_option linter.unusedSimpArgs false
theorem mixed : Try.prog.follows .mixedOrders = true := by kernel_rfl
theorem agg_23_2 : aggT Try.prog 23 2 = true := by kernel_rfl
theorem agg_28_2 : aggT Try.prog 28 2 = true := by kernel_rfl
theorem agg_30_2 : aggT Try.prog 30 2 = true := by kernel_rfl
theorem agg_32_2 : aggT Try.prog 32 2 = true := by kernel_rfl
theorem agg_36_9 : aggT Try.prog 36 9 = true := by kernel_rfl
theorem agg_38_7 : aggT Try.prog 38 7 = true := by kernel_rfl
theorem agg_40_25 : aggT Try.prog 40 25 = true := by kernel_rfl
theorem agg_56_26 : aggT Try.prog 56 26 = true := by kernel_rfl
theorem agg_63_26 : aggT Try.prog 63 26 = true := by kernel_rfl
theorem agg_80_3 : aggT Try.prog 80 3 = true := by kernel_rfl
theorem agg_82_2 : aggT Try.prog 82 2 = true := by kernel_rfl
theorem agg_96_3 : aggT Try.prog 96 3 = true := by kernel_rfl
theorem arr_38 : arrT Try.prog 38 7 = true := by kernel_rfl
theorem arr_96 : arrT Try.prog 96 3 = true := by kernel_rfl
theorem bld_28 : bldS Try.prog 28 = true := by kernel_rfl
theorem bld_30 : bldS Try.prog 30 = true := by kernel_rfl
theorem bld_32 : bldS Try.prog 32 = true := by kernel_rfl
theorem bld_36 : bldS Try.prog 36 = true := by kernel_rfl
theorem bld_38 : bldA Try.prog 38 = true := by kernel_rfl
theorem bld_40 : bldS Try.prog 40 = true := by kernel_rfl
theorem bld_96 : bldA Try.prog 96 = true := by kernel_rfl
theorem bool_4 : isBoolT Try.prog 4 = true := by kernel_rfl
theorem cv_86_u64 : cvT Try.prog 86 .u64 = true := by kernel_rfl
theorem el_24 : elT Try.prog 24 56 26 240 = true := by kernel_rfl
theorem el_33 : elT Try.prog 33 80 3 32 = true := by kernel_rfl
theorem el_34 : elT Try.prog 34 82 2 32 = true := by kernel_rfl
theorem el_44 : elT Try.prog 44 63 26 240 = true := by kernel_rfl
theorem el_78 : elT Try.prog 78 36 9 104 = true := by kernel_rfl
theorem el_93 : elT Try.prog 93 9 1 16 = true := by kernel_rfl
theorem fld_23_0 : fieldT Try.prog 23 0 0 = true := by kernel_rfl
theorem fld_23_1 : fieldT Try.prog 23 1 1 = true := by kernel_rfl
theorem fld_28_0 : fieldT Try.prog 28 0 0 = true := by kernel_rfl
theorem fld_28_1 : fieldT Try.prog 28 1 1 = true := by kernel_rfl
theorem fld_30_0 : fieldT Try.prog 30 0 0 = true := by kernel_rfl
theorem fld_30_1 : fieldT Try.prog 30 1 1 = true := by kernel_rfl
theorem fld_32_0 : fieldT Try.prog 32 0 0 = true := by kernel_rfl
theorem fld_32_1 : fieldT Try.prog 32 1 1 = true := by kernel_rfl
theorem fld_36_0 : fieldT Try.prog 36 0 0 = true := by kernel_rfl
theorem fld_36_1 : fieldT Try.prog 36 1 1 = true := by kernel_rfl
theorem fld_36_2 : fieldT Try.prog 36 2 3 = true := by kernel_rfl
theorem fld_36_3 : fieldT Try.prog 36 3 5 = true := by kernel_rfl
theorem fld_36_4 : fieldT Try.prog 36 4 6 = true := by kernel_rfl
theorem fld_36_5 : fieldT Try.prog 36 5 7 = true := by kernel_rfl
theorem fld_36_6 : fieldT Try.prog 36 6 8 = true := by kernel_rfl
theorem fld_40_0 : fieldT Try.prog 40 0 0 = true := by kernel_rfl
theorem fld_40_1 : fieldT Try.prog 40 1 2 = true := by kernel_rfl
theorem fld_40_2 : fieldT Try.prog 40 2 3 = true := by kernel_rfl
theorem fld_40_3 : fieldT Try.prog 40 3 5 = true := by kernel_rfl
theorem fld_40_4 : fieldT Try.prog 40 4 7 = true := by kernel_rfl
theorem fld_40_5 : fieldT Try.prog 40 5 16 = true := by kernel_rfl
theorem fld_40_6 : fieldT Try.prog 40 6 17 = true := by kernel_rfl
theorem fld_40_7 : fieldT Try.prog 40 7 24 = true := by kernel_rfl
theorem fld_56_0 : fieldT Try.prog 56 0 0 = true := by kernel_rfl
theorem fld_56_1 : fieldT Try.prog 56 1 1 = true := by kernel_rfl
theorem fld_63_0 : fieldT Try.prog 63 0 0 = true := by kernel_rfl
theorem fld_63_1 : fieldT Try.prog 63 1 1 = true := by kernel_rfl
theorem fld_80_0 : fieldT Try.prog 80 0 0 = true := by kernel_rfl
theorem fld_80_1 : fieldT Try.prog 80 1 1 = true := by kernel_rfl
theorem fld_82_0 : fieldT Try.prog 82 0 0 = true := by kernel_rfl
theorem fld_82_1 : fieldT Try.prog 82 1 1 = true := by kernel_rfl
theorem fn_10 : fnT Try.prog 10 = true := by kernel_rfl
theorem fn_11 : fnT Try.prog 11 = true := by kernel_rfl
theorem fn_13 : fnT Try.prog 13 = true := by kernel_rfl
theorem fn_14 : fnT Try.prog 14 = true := by kernel_rfl
theorem fn_15 : fnT Try.prog 15 = true := by kernel_rfl
theorem fn_16 : fnT Try.prog 16 = true := by kernel_rfl
theorem fn_17 : fnT Try.prog 17 = true := by kernel_rfl
theorem fn_18 : fnT Try.prog 18 = true := by kernel_rfl
theorem fn_19 : fnT Try.prog 19 = true := by kernel_rfl
theorem fn_20 : fnT Try.prog 20 = true := by kernel_rfl
theorem fn_21 : fnT Try.prog 21 = true := by kernel_rfl
theorem fn_22 : fnT Try.prog 22 = true := by kernel_rfl
theorem fn_23 : fnT Try.prog 23 = true := by kernel_rfl
theorem fn_24 : fnT Try.prog 24 = true := by kernel_rfl
theorem fn_25 : fnT Try.prog 25 = true := by kernel_rfl
theorem fn_26 : fnT Try.prog 26 = true := by kernel_rfl
theorem fn_27 : fnT Try.prog 27 = true := by kernel_rfl
theorem fn_28 : fnT Try.prog 28 = true := by kernel_rfl
theorem fn_29 : fnT Try.prog 29 = true := by kernel_rfl
theorem fn_30 : fnT Try.prog 30 = true := by kernel_rfl
theorem fn_31 : fnT Try.prog 31 = true := by kernel_rfl
theorem fn_32 : fnT Try.prog 32 = true := by kernel_rfl
theorem fn_33 : fnT Try.prog 33 = true := by kernel_rfl
theorem fn_34 : fnT Try.prog 34 = true := by kernel_rfl
theorem fn_35 : fnT Try.prog 35 = true := by kernel_rfl
theorem fn_36 : fnT Try.prog 36 = true := by kernel_rfl
theorem fn_37 : fnT Try.prog 37 = true := by kernel_rfl
theorem fn_38 : fnT Try.prog 38 = true := by kernel_rfl
theorem fn_39 : fnT Try.prog 39 = true := by kernel_rfl
theorem fn_40 : fnT Try.prog 40 = true := by kernel_rfl
theorem fn_41 : fnT Try.prog 41 = true := by kernel_rfl
theorem fn_42 : fnT Try.prog 42 = true := by kernel_rfl
theorem fn_43 : fnT Try.prog 43 = true := by kernel_rfl
theorem fn_44 : fnT Try.prog 44 = true := by kernel_rfl
theorem fn_45 : fnT Try.prog 45 = true := by kernel_rfl
theorem fn_46 : fnT Try.prog 46 = true := by kernel_rfl
theorem fn_47 : fnT Try.prog 47 = true := by kernel_rfl
theorem fn_49 : fnT Try.prog 49 = true := by kernel_rfl
theorem fn_50 : fnT Try.prog 50 = true := by kernel_rfl
theorem fn_51 : fnT Try.prog 51 = true := by kernel_rfl
theorem fn_52 : fnT Try.prog 52 = true := by kernel_rfl
theorem fn_53 : fnT Try.prog 53 = true := by kernel_rfl
theorem fn_54 : fnT Try.prog 54 = true := by kernel_rfl
theorem fn_55 : fnT Try.prog 55 = true := by kernel_rfl
theorem fn_56 : fnT Try.prog 56 = true := by kernel_rfl
theorem fn_57 : fnT Try.prog 57 = true := by kernel_rfl
theorem fn_58 : fnT Try.prog 58 = true := by kernel_rfl
theorem fn_59 : fnT Try.prog 59 = true := by kernel_rfl
theorem fn_60 : fnT Try.prog 60 = true := by kernel_rfl
theorem fn_61 : fnT Try.prog 61 = true := by kernel_rfl
theorem fn_62 : fnT Try.prog 62 = true := by kernel_rfl
theorem fn_63 : fnT Try.prog 63 = true := by kernel_rfl
theorem fn_64 : fnT Try.prog 64 = true := by kernel_rfl
theorem fn_65 : fnT Try.prog 65 = true := by kernel_rfl
theorem fn_66 : fnT Try.prog 66 = true := by kernel_rfl
theorem fn_67 : fnT Try.prog 67 = true := by kernel_rfl
theorem fn_68 : fnT Try.prog 68 = true := by kernel_rfl
theorem fn_69 : fnT Try.prog 69 = true := by kernel_rfl
theorem fn_70 : fnT Try.prog 70 = true := by kernel_rfl
theorem fn_71 : fnT Try.prog 71 = true := by kernel_rfl
theorem fn_72 : fnT Try.prog 72 = true := by kernel_rfl
theorem fn_73 : fnT Try.prog 73 = true := by kernel_rfl
theorem fn_9 : fnT Try.prog 9 = true := by kernel_rfl
theorem ints2_23 : ints2T Try.prog 23 = true := by kernel_rfl
theorem ints2_28 : ints2T Try.prog 28 = true := by kernel_rfl
theorem ints2_30 : ints2T Try.prog 30 = true := by kernel_rfl
theorem ints2_32 : ints2T Try.prog 32 = true := by kernel_rfl
theorem intsT_38 : intsT Try.prog 38 7 = true := by kernel_rfl
theorem map_64 : mapT Try.prog 64 3 3 = true := by kernel_rfl
theorem one_3 : oneT Try.prog 3 = true := by kernel_rfl
theorem one_33 : oneT Try.prog 33 = true := by kernel_rfl
theorem one_34 : oneT Try.prog 34 = true := by kernel_rfl
theorem one_4 : oneT Try.prog 4 = true := by kernel_rfl
theorem one_9 : oneT Try.prog 9 = true := by kernel_rfl
theorem pl_23 : placesOf Try.prog 23 = some [(0, 1), (1, 1)] := by kernel_rfl
theorem pl_40 : placesOf Try.prog 40 = some [(0, 2), (2, 1), (3, 2), (5, 2), (7, 9), (16, 1), (17, 7), (24, 1)] := by kernel_rfl
theorem pl_56 : placesOf Try.prog 56 = some [(0, 1), (1, 25)] := by kernel_rfl
theorem pl_63 : placesOf Try.prog 63 = some [(0, 1), (1, 25)] := by kernel_rfl
theorem rdT_80 : rdT Try.prog 80 = true := by kernel_rfl
theorem size_23 : sizeT Try.prog 23 2 = true := by kernel_rfl
theorem size_28 : sizeT Try.prog 28 2 = true := by kernel_rfl
theorem size_3 : sizeT Try.prog 3 1 = true := by kernel_rfl
theorem size_33 : sizeT Try.prog 33 1 = true := by kernel_rfl
theorem size_34 : sizeT Try.prog 34 1 = true := by kernel_rfl
theorem size_36 : sizeT Try.prog 36 9 = true := by kernel_rfl
theorem size_4 : sizeT Try.prog 4 1 = true := by kernel_rfl
theorem size_40 : sizeT Try.prog 40 25 = true := by kernel_rfl
theorem size_56 : sizeT Try.prog 56 26 = true := by kernel_rfl
theorem size_63 : sizeT Try.prog 63 26 = true := by kernel_rfl
theorem size_80 : sizeT Try.prog 80 3 = true := by kernel_rfl
theorem size_82 : sizeT Try.prog 82 2 = true := by kernel_rfl
theorem size_96 : sizeT Try.prog 96 3 = true := by kernel_rfl
theorem sl_24 : sliceT Try.prog 24 26 = true := by kernel_rfl
theorem sl_33 : sliceT Try.prog 33 3 = true := by kernel_rfl
theorem sl_34 : sliceT Try.prog 34 2 = true := by kernel_rfl
theorem sl_44 : sliceT Try.prog 44 26 = true := by kernel_rfl
theorem sl_58 : sliceT Try.prog 58 25 = true := by kernel_rfl
theorem sl_78 : sliceT Try.prog 78 9 = true := by kernel_rfl
theorem sl_93 : sliceT Try.prog 93 1 = true := by kernel_rfl
theorem str_9 : stringT Try.prog 9 = true := by kernel_rfl
theorem strs2T_82 : strs2T Try.prog 82 = true := by kernel_rfl
theorem un_3 : (Try.prog.underlying 3).isSome = true := by kernel_rfl
theorem zero_23 : (Try.prog.info? 23).bind (·.zero) = some (.agg #[.int .i64 0, .int .i64 0]) := by kernel_rfl
theorem zero_28 : (Try.prog.info? 28).bind (·.zero) = some (.agg #[.int .i64 0, .int .i64 0]) := by kernel_rfl
theorem zero_30 : (Try.prog.info? 30).bind (·.zero) = some (.agg #[.int .i64 0, .int .i64 0]) := by kernel_rfl
theorem zero_32 : (Try.prog.info? 32).bind (·.zero) = some (.agg #[.int .i64 0, .int .i64 0]) := by kernel_rfl
theorem zero_36 : (Try.prog.info? 36).bind (·.zero) = some (.agg #[.int .i64 0, .int .i64 0, .int .i64 0, .int .i64 0, .int .i64 0, .int .i64 0, .slice none 0 0, .slice none 0 0, .bool false]) := by kernel_rfl
theorem zero_38 : (Try.prog.info? 38).bind (·.zero) = some (.agg #[.int .i64 0, .int .i64 0, .int .i64 0, .int .i64 0, .int .i64 0, .int .i64 0, .int .i64 0]) := by kernel_rfl
theorem zero_40 : (Try.prog.info? 40).bind (·.zero) = some (.agg #[.int .i64 0, .int .i64 0, .int .i64 0, .int .i64 0, .int .i64 0, .int .i64 0, .int .i64 0, .int .i64 0, .int .i64 0, .int .i64 0, .int .i64 0, .int .i64 0, .int .i64 0, .slice none 0 0, .slice none 0 0, .bool false, .int .i64 0, .int .i64 0, .int .i64 0, .int .i64 0, .int .i64 0, .int .i64 0, .int .i64 0, .int .i64 0, .bool false]) := by kernel_rfl
theorem zero_56 : (Try.prog.info? 56).bind (·.zero) = some (.agg #[.int .i64 0, .int .i64 0, .int .i64 0, .int .i64 0, .int .i64 0, .int .i64 0, .int .i64 0, .int .i64 0, .int .i64 0, .int .i64 0, .int .i64 0, .int .i64 0, .int .i64 0, .int .i64 0, .slice none 0 0, .slice none 0 0, .bool false, .int .i64 0, .int .i64 0, .int .i64 0, .int .i64 0, .int .i64 0, .int .i64 0, .int .i64 0, .int .i64 0, .bool false]) := by kernel_rfl
theorem zero_63 : (Try.prog.info? 63).bind (·.zero) = some (.agg #[.int .i64 0, .int .i64 0, .int .i64 0, .int .i64 0, .int .i64 0, .int .i64 0, .int .i64 0, .int .i64 0, .int .i64 0, .int .i64 0, .int .i64 0, .int .i64 0, .int .i64 0, .int .i64 0, .slice none 0 0, .slice none 0 0, .bool false, .int .i64 0, .int .i64 0, .int .i64 0, .int .i64 0, .int .i64 0, .int .i64 0, .int .i64 0, .int .i64 0, .bool false]) := by kernel_rfl
theorem zero_80 : (Try.prog.info? 80).bind (·.zero) = some (.agg #[.string (⟨#[]⟩ : ByteArray), .int .i64 0, .int .i64 0]) := by kernel_rfl
theorem zero_82 : (Try.prog.info? 82).bind (·.zero) = some (.agg #[.string (⟨#[]⟩ : ByteArray), .string (⟨#[]⟩ : ByteArray)]) := by kernel_rfl
theorem zero_96 : (Try.prog.info? 96).bind (·.zero) = some (.agg #[.int .i64 0, .int .i64 0, .int .i64 0]) := by kernel_rfl
end Go.Proofs.Ytgamfmkefipngaa
