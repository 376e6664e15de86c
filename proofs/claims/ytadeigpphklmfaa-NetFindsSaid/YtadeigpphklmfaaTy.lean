/- Facts on the program, each by reckoning. -/
import Derived.Test.YtadeigpphklmfaaDos
import Derived.Test.YtadeigpphklmfaaProg
namespace Go.Proofs.Ytadeigpphklmfaa
open Go.RowKit Go.Eng
set_option linter.unusedVariables false
set_option linter.unusedSimpArgs false
theorem mixed : Try.prog.follows .mixedOrders = true := by kernel_rfl
theorem agg_27_2 : aggT Try.prog 27 2 = true := by kernel_rfl
theorem agg_29_2 : aggT Try.prog 29 2 = true := by kernel_rfl
theorem agg_31_2 : aggT Try.prog 31 2 = true := by kernel_rfl
theorem agg_33_2 : aggT Try.prog 33 2 = true := by kernel_rfl
theorem agg_37_9 : aggT Try.prog 37 9 = true := by kernel_rfl
theorem agg_39_7 : aggT Try.prog 39 7 = true := by kernel_rfl
theorem agg_41_25 : aggT Try.prog 41 25 = true := by kernel_rfl
theorem agg_43_30 : aggT Try.prog 43 30 = true := by kernel_rfl
theorem agg_54_32 : aggT Try.prog 54 32 = true := by kernel_rfl
theorem agg_59_5 : aggT Try.prog 59 5 = true := by kernel_rfl
theorem agg_66_3 : aggT Try.prog 66 3 = true := by kernel_rfl
theorem agg_78_3 : aggT Try.prog 78 3 = true := by kernel_rfl
theorem agg_80_2 : aggT Try.prog 80 2 = true := by kernel_rfl
theorem arr_39 : arrT Try.prog 39 7 = true := by kernel_rfl
theorem bld_27 : bldS Try.prog 27 = true := by kernel_rfl
theorem bld_31 : bldS Try.prog 31 = true := by kernel_rfl
theorem bld_33 : bldS Try.prog 33 = true := by kernel_rfl
theorem bld_37 : bldS Try.prog 37 = true := by kernel_rfl
theorem bld_39 : bldA Try.prog 39 = true := by kernel_rfl
theorem bld_43 : bldS Try.prog 43 = true := by kernel_rfl
theorem bld_66 : bldS Try.prog 66 = true := by kernel_rfl
theorem bool_4 : isBoolT Try.prog 4 = true := by kernel_rfl
theorem el_104 : elT Try.prog 104 9 1 16 = true := by kernel_rfl
theorem el_22 : elT Try.prog 22 43 30 272 = true := by kernel_rfl
theorem el_34 : elT Try.prog 34 78 3 32 = true := by kernel_rfl
theorem el_35 : elT Try.prog 35 80 2 32 = true := by kernel_rfl
theorem el_76 : elT Try.prog 76 37 9 104 = true := by kernel_rfl
theorem fld_27_0 : fieldT Try.prog 27 0 0 = true := by kernel_rfl
theorem fld_27_1 : fieldT Try.prog 27 1 1 = true := by kernel_rfl
theorem fld_29_0 : fieldT Try.prog 29 0 0 = true := by kernel_rfl
theorem fld_29_1 : fieldT Try.prog 29 1 1 = true := by kernel_rfl
theorem fld_31_0 : fieldT Try.prog 31 0 0 = true := by kernel_rfl
theorem fld_31_1 : fieldT Try.prog 31 1 1 = true := by kernel_rfl
theorem fld_33_0 : fieldT Try.prog 33 0 0 = true := by kernel_rfl
theorem fld_33_1 : fieldT Try.prog 33 1 1 = true := by kernel_rfl
theorem fld_37_0 : fieldT Try.prog 37 0 0 = true := by kernel_rfl
theorem fld_37_1 : fieldT Try.prog 37 1 1 = true := by kernel_rfl
theorem fld_37_2 : fieldT Try.prog 37 2 3 = true := by kernel_rfl
theorem fld_37_3 : fieldT Try.prog 37 3 5 = true := by kernel_rfl
theorem fld_37_4 : fieldT Try.prog 37 4 6 = true := by kernel_rfl
theorem fld_37_5 : fieldT Try.prog 37 5 7 = true := by kernel_rfl
theorem fld_37_6 : fieldT Try.prog 37 6 8 = true := by kernel_rfl
theorem fld_41_0 : fieldT Try.prog 41 0 0 = true := by kernel_rfl
theorem fld_41_1 : fieldT Try.prog 41 1 2 = true := by kernel_rfl
theorem fld_41_2 : fieldT Try.prog 41 2 3 = true := by kernel_rfl
theorem fld_41_3 : fieldT Try.prog 41 3 5 = true := by kernel_rfl
theorem fld_41_4 : fieldT Try.prog 41 4 7 = true := by kernel_rfl
theorem fld_41_5 : fieldT Try.prog 41 5 16 = true := by kernel_rfl
theorem fld_41_6 : fieldT Try.prog 41 6 17 = true := by kernel_rfl
theorem fld_41_7 : fieldT Try.prog 41 7 24 = true := by kernel_rfl
theorem fld_43_0 : fieldT Try.prog 43 0 0 = true := by kernel_rfl
theorem fld_43_1 : fieldT Try.prog 43 1 1 = true := by kernel_rfl
theorem fld_43_2 : fieldT Try.prog 43 2 2 = true := by kernel_rfl
theorem fld_43_3 : fieldT Try.prog 43 3 3 = true := by kernel_rfl
theorem fld_43_4 : fieldT Try.prog 43 4 5 = true := by kernel_rfl
theorem fld_54_0 : fieldT Try.prog 54 0 0 = true := by kernel_rfl
theorem fld_54_1 : fieldT Try.prog 54 1 1 = true := by kernel_rfl
theorem fld_54_2 : fieldT Try.prog 54 2 2 = true := by kernel_rfl
theorem fld_59_0 : fieldT Try.prog 59 0 0 = true := by kernel_rfl
theorem fld_59_1 : fieldT Try.prog 59 1 1 = true := by kernel_rfl
theorem fld_59_2 : fieldT Try.prog 59 2 2 = true := by kernel_rfl
theorem fld_59_3 : fieldT Try.prog 59 3 3 = true := by kernel_rfl
theorem fld_59_4 : fieldT Try.prog 59 4 4 = true := by kernel_rfl
theorem fld_66_0 : fieldT Try.prog 66 0 0 = true := by kernel_rfl
theorem fld_66_1 : fieldT Try.prog 66 1 1 = true := by kernel_rfl
theorem fld_66_2 : fieldT Try.prog 66 2 2 = true := by kernel_rfl
theorem fld_72_0 : fieldT Try.prog 72 0 0 = true := by kernel_rfl
theorem fld_74_0 : fieldT Try.prog 74 0 0 = true := by kernel_rfl
theorem fld_74_1 : fieldT Try.prog 74 1 3 = true := by kernel_rfl
theorem fld_74_2 : fieldT Try.prog 74 2 4 = true := by kernel_rfl
theorem fld_78_0 : fieldT Try.prog 78 0 0 = true := by kernel_rfl
theorem fld_78_1 : fieldT Try.prog 78 1 1 = true := by kernel_rfl
theorem fld_80_0 : fieldT Try.prog 80 0 0 = true := by kernel_rfl
theorem fld_80_1 : fieldT Try.prog 80 1 1 = true := by kernel_rfl
theorem fn_10 : fnT Try.prog 10 = true := by kernel_rfl
theorem fn_11 : fnT Try.prog 11 = true := by kernel_rfl
theorem fn_12 : fnT Try.prog 12 = true := by kernel_rfl
theorem fn_13 : fnT Try.prog 13 = true := by kernel_rfl
theorem fn_14 : fnT Try.prog 14 = true := by kernel_rfl
theorem fn_15 : fnT Try.prog 15 = true := by kernel_rfl
theorem fn_16 : fnT Try.prog 16 = true := by kernel_rfl
theorem fn_17 : fnT Try.prog 17 = true := by kernel_rfl
theorem fn_18 : fnT Try.prog 18 = true := by kernel_rfl
theorem fn_19 : fnT Try.prog 19 = true := by kernel_rfl
theorem fn_20 : fnT Try.prog 20 = true := by kernel_rfl
theorem fn_22 : fnT Try.prog 22 = true := by kernel_rfl
theorem fn_23 : fnT Try.prog 23 = true := by kernel_rfl
theorem fn_24 : fnT Try.prog 24 = true := by kernel_rfl
theorem fn_25 : fnT Try.prog 25 = true := by kernel_rfl
theorem fn_26 : fnT Try.prog 26 = true := by kernel_rfl
theorem fn_27 : fnT Try.prog 27 = true := by kernel_rfl
theorem fn_28 : fnT Try.prog 28 = true := by kernel_rfl
theorem fn_29 : fnT Try.prog 29 = true := by kernel_rfl
theorem fn_30 : fnT Try.prog 30 = true := by kernel_rfl
theorem fn_31 : fnT Try.prog 31 = true := by kernel_rfl
theorem fn_32 : fnT Try.prog 32 = true := by kernel_rfl
theorem fn_33 : fnT Try.prog 33 = true := by kernel_rfl
theorem fn_34 : fnT Try.prog 34 = true := by kernel_rfl
theorem fn_35 : fnT Try.prog 35 = true := by kernel_rfl
theorem fn_36 : fnT Try.prog 36 = true := by kernel_rfl
theorem fn_37 : fnT Try.prog 37 = true := by kernel_rfl
theorem fn_38 : fnT Try.prog 38 = true := by kernel_rfl
theorem fn_39 : fnT Try.prog 39 = true := by kernel_rfl
theorem fn_40 : fnT Try.prog 40 = true := by kernel_rfl
theorem fn_41 : fnT Try.prog 41 = true := by kernel_rfl
theorem fn_42 : fnT Try.prog 42 = true := by kernel_rfl
theorem fn_43 : fnT Try.prog 43 = true := by kernel_rfl
theorem fn_44 : fnT Try.prog 44 = true := by kernel_rfl
theorem fn_45 : fnT Try.prog 45 = true := by kernel_rfl
theorem fn_46 : fnT Try.prog 46 = true := by kernel_rfl
theorem fn_47 : fnT Try.prog 47 = true := by kernel_rfl
theorem fn_48 : fnT Try.prog 48 = true := by kernel_rfl
theorem fn_49 : fnT Try.prog 49 = true := by kernel_rfl
theorem fn_50 : fnT Try.prog 50 = true := by kernel_rfl
theorem fn_51 : fnT Try.prog 51 = true := by kernel_rfl
theorem fn_52 : fnT Try.prog 52 = true := by kernel_rfl
theorem fn_53 : fnT Try.prog 53 = true := by kernel_rfl
theorem fn_54 : fnT Try.prog 54 = true := by kernel_rfl
theorem fn_55 : fnT Try.prog 55 = true := by kernel_rfl
theorem fn_56 : fnT Try.prog 56 = true := by kernel_rfl
theorem fn_57 : fnT Try.prog 57 = true := by kernel_rfl
theorem fn_58 : fnT Try.prog 58 = true := by kernel_rfl
theorem fn_59 : fnT Try.prog 59 = true := by kernel_rfl
theorem fn_60 : fnT Try.prog 60 = true := by kernel_rfl
theorem fn_61 : fnT Try.prog 61 = true := by kernel_rfl
theorem fn_62 : fnT Try.prog 62 = true := by kernel_rfl
theorem fn_63 : fnT Try.prog 63 = true := by kernel_rfl
theorem fn_64 : fnT Try.prog 64 = true := by kernel_rfl
theorem fn_65 : fnT Try.prog 65 = true := by kernel_rfl
theorem fn_66 : fnT Try.prog 66 = true := by kernel_rfl
theorem fn_67 : fnT Try.prog 67 = true := by kernel_rfl
theorem fn_68 : fnT Try.prog 68 = true := by kernel_rfl
theorem fn_69 : fnT Try.prog 69 = true := by kernel_rfl
theorem fn_70 : fnT Try.prog 70 = true := by kernel_rfl
theorem fn_71 : fnT Try.prog 71 = true := by kernel_rfl
theorem fn_72 : fnT Try.prog 72 = true := by kernel_rfl
theorem fn_73 : fnT Try.prog 73 = true := by kernel_rfl
theorem fn_74 : fnT Try.prog 74 = true := by kernel_rfl
theorem fn_75 : fnT Try.prog 75 = true := by kernel_rfl
theorem fn_9 : fnT Try.prog 9 = true := by kernel_rfl
theorem ints2_27 : ints2T Try.prog 27 = true := by kernel_rfl
theorem ints2_29 : ints2T Try.prog 29 = true := by kernel_rfl
theorem ints2_31 : ints2T Try.prog 31 = true := by kernel_rfl
theorem ints2_33 : ints2T Try.prog 33 = true := by kernel_rfl
theorem ints3_66 : ints3T Try.prog 66 = true := by kernel_rfl
theorem intsT_39 : intsT Try.prog 39 7 = true := by kernel_rfl
theorem one_22 : oneT Try.prog 22 = true := by kernel_rfl
theorem one_3 : oneT Try.prog 3 = true := by kernel_rfl
theorem one_34 : oneT Try.prog 34 = true := by kernel_rfl
theorem one_35 : oneT Try.prog 35 = true := by kernel_rfl
theorem one_4 : oneT Try.prog 4 = true := by kernel_rfl
theorem one_9 : oneT Try.prog 9 = true := by kernel_rfl
theorem pl_29 : placesOf Try.prog 29 = some [(0, 1), (1, 1)] := by kernel_rfl
theorem pl_41 : placesOf Try.prog 41 = some [(0, 2), (2, 1), (3, 2), (5, 2), (7, 9), (16, 1), (17, 7), (24, 1)] := by kernel_rfl
theorem pl_43 : placesOf Try.prog 43 = some [(0, 1), (1, 1), (2, 1), (3, 2), (5, 25)] := by kernel_rfl
theorem pl_59 : placesOf Try.prog 59 = some [(0, 1), (1, 1), (2, 1), (3, 1), (4, 1)] := by kernel_rfl
theorem pl_66 : placesOf Try.prog 66 = some [(0, 1), (1, 1), (2, 1)] := by kernel_rfl
theorem pl_74 : placesOf Try.prog 74 = some [(0, 3), (3, 1), (4, 1)] := by kernel_rfl
theorem ptr_23 : ptrT Try.prog 23 = true := by kernel_rfl
theorem ptr_98 : ptrT Try.prog 98 = true := by kernel_rfl
theorem rdT_78 : rdT Try.prog 78 = true := by kernel_rfl
theorem size_22 : sizeT Try.prog 22 1 = true := by kernel_rfl
theorem size_3 : sizeT Try.prog 3 1 = true := by kernel_rfl
theorem size_34 : sizeT Try.prog 34 1 = true := by kernel_rfl
theorem size_35 : sizeT Try.prog 35 1 = true := by kernel_rfl
theorem size_37 : sizeT Try.prog 37 9 = true := by kernel_rfl
theorem size_43 : sizeT Try.prog 43 30 = true := by kernel_rfl
theorem size_54 : sizeT Try.prog 54 32 = true := by kernel_rfl
theorem size_59 : sizeT Try.prog 59 5 = true := by kernel_rfl
theorem size_66 : sizeT Try.prog 66 3 = true := by kernel_rfl
theorem size_78 : sizeT Try.prog 78 3 = true := by kernel_rfl
theorem size_80 : sizeT Try.prog 80 2 = true := by kernel_rfl
theorem size_9 : sizeT Try.prog 9 1 = true := by kernel_rfl
theorem sl_104 : sliceT Try.prog 104 1 = true := by kernel_rfl
theorem sl_22 : sliceT Try.prog 22 30 = true := by kernel_rfl
theorem sl_34 : sliceT Try.prog 34 3 = true := by kernel_rfl
theorem sl_35 : sliceT Try.prog 35 2 = true := by kernel_rfl
theorem sl_55 : sliceT Try.prog 55 32 = true := by kernel_rfl
theorem sl_76 : sliceT Try.prog 76 9 = true := by kernel_rfl
theorem str_9 : stringT Try.prog 9 = true := by kernel_rfl
theorem strs2T_80 : strs2T Try.prog 80 = true := by kernel_rfl
theorem zero_27 : (Try.prog.info? 27).bind (·.zero) = some (.agg #[.int .i64 0, .int .i64 0]) := by kernel_rfl
theorem zero_29 : (Try.prog.info? 29).bind (·.zero) = some (.agg #[.int .i64 0, .int .i64 0]) := by kernel_rfl
theorem zero_31 : (Try.prog.info? 31).bind (·.zero) = some (.agg #[.int .i64 0, .int .i64 0]) := by kernel_rfl
theorem zero_33 : (Try.prog.info? 33).bind (·.zero) = some (.agg #[.int .i64 0, .int .i64 0]) := by kernel_rfl
theorem zero_37 : (Try.prog.info? 37).bind (·.zero) = some (.agg #[.int .i64 0, .int .i64 0, .int .i64 0, .int .i64 0, .int .i64 0, .int .i64 0, .slice none 0 0, .slice none 0 0, .bool false]) := by kernel_rfl
theorem zero_39 : (Try.prog.info? 39).bind (·.zero) = some (.agg #[.int .i64 0, .int .i64 0, .int .i64 0, .int .i64 0, .int .i64 0, .int .i64 0, .int .i64 0]) := by kernel_rfl
theorem zero_41 : (Try.prog.info? 41).bind (·.zero) = some (.agg #[.int .i64 0, .int .i64 0, .int .i64 0, .int .i64 0, .int .i64 0, .int .i64 0, .int .i64 0, .int .i64 0, .int .i64 0, .int .i64 0, .int .i64 0, .int .i64 0, .int .i64 0, .slice none 0 0, .slice none 0 0, .bool false, .int .i64 0, .int .i64 0, .int .i64 0, .int .i64 0, .int .i64 0, .int .i64 0, .int .i64 0, .int .i64 0, .bool false]) := by kernel_rfl
theorem zero_43 : (Try.prog.info? 43).bind (·.zero) = some (.agg #[.int .i64 0, .int .i64 0, .int .i64 0, .int .i64 0, .int .i64 0, .int .i64 0, .int .i64 0, .int .i64 0, .int .i64 0, .int .i64 0, .int .i64 0, .int .i64 0, .int .i64 0, .int .i64 0, .int .i64 0, .int .i64 0, .int .i64 0, .int .i64 0, .slice none 0 0, .slice none 0 0, .bool false, .int .i64 0, .int .i64 0, .int .i64 0, .int .i64 0, .int .i64 0, .int .i64 0, .int .i64 0, .int .i64 0, .bool false]) := by kernel_rfl
theorem zero_54 : (Try.prog.info? 54).bind (·.zero) = some (.agg #[.int .i64 0, .int .i64 0, .int .i64 0, .int .i64 0, .int .i64 0, .int .i64 0, .int .i64 0, .int .i64 0, .int .i64 0, .int .i64 0, .int .i64 0, .int .i64 0, .int .i64 0, .int .i64 0, .int .i64 0, .int .i64 0, .int .i64 0, .int .i64 0, .int .i64 0, .int .i64 0, .slice none 0 0, .slice none 0 0, .bool false, .int .i64 0, .int .i64 0, .int .i64 0, .int .i64 0, .int .i64 0, .int .i64 0, .int .i64 0, .int .i64 0, .bool false]) := by kernel_rfl
theorem zero_59 : (Try.prog.info? 59).bind (·.zero) = some (.agg #[.int .i64 0, .slice none 0 0, .int .i64 0, .int .i64 0, .int .i64 0]) := by kernel_rfl
theorem zero_66 : (Try.prog.info? 66).bind (·.zero) = some (.agg #[.int .i64 0, .int .i64 0, .int .i64 0]) := by kernel_rfl
theorem zero_74 : (Try.prog.info? 74).bind (·.zero) = some (.agg #[.int .i64 0, .int .i64 0, .int .i64 0, .slice none 0 0, .int .i64 0]) := by kernel_rfl
theorem zero_78 : (Try.prog.info? 78).bind (·.zero) = some (.agg #[.string (⟨#[]⟩ : ByteArray), .int .i64 0, .int .i64 0]) := by kernel_rfl
theorem zero_80 : (Try.prog.info? 80).bind (·.zero) = some (.agg #[.string (⟨#[]⟩ : ByteArray), .string (⟨#[]⟩ : ByteArray)]) := by kernel_rfl
end Go.Proofs.Ytadeigpphklmfaa
