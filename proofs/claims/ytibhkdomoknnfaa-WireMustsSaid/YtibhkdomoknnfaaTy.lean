/- Facts on the program, each by reckoning. -/
import Derived.Test.YtibhkdomoknnfaaEnc
import Derived.Test.YtibhkdomoknnfaaProg
namespace Go.Proofs.Ytibhkdomoknnfaa
open Go.RowKit Go.Eng
set_option linter.unusedVariables false
set_option linter.unusedSimpArgs false
theorem mixed : Try.prog.follows .mixedOrders = true := by kernel_rfl
theorem ae_35 : arrE Try.prog 35 7 1 = true := by kernel_rfl
theorem agg_23_2 : aggT Try.prog 23 2 = true := by kernel_rfl
theorem agg_25_2 : aggT Try.prog 25 2 = true := by kernel_rfl
theorem agg_27_2 : aggT Try.prog 27 2 = true := by kernel_rfl
theorem agg_29_2 : aggT Try.prog 29 2 = true := by kernel_rfl
theorem agg_33_9 : aggT Try.prog 33 9 = true := by kernel_rfl
theorem agg_35_7 : aggT Try.prog 35 7 = true := by kernel_rfl
theorem agg_37_25 : aggT Try.prog 37 25 = true := by kernel_rfl
theorem agg_39_30 : aggT Try.prog 39 30 = true := by kernel_rfl
theorem agg_64_3 : aggT Try.prog 64 3 = true := by kernel_rfl
theorem agg_66_2 : aggT Try.prog 66 2 = true := by kernel_rfl
theorem arr_35 : arrT Try.prog 35 7 = true := by kernel_rfl
theorem bld_25 : (match Try.prog.underlying 25 with | some (.struct fs) => fs.all (fun f => (Try.prog.info? f.type).isSome) | _ => false) = true := by kernel_rfl
theorem bld_27 : (match Try.prog.underlying 27 with | some (.struct fs) => fs.all (fun f => (Try.prog.info? f.type).isSome) | _ => false) = true := by kernel_rfl
theorem bld_29 : (match Try.prog.underlying 29 with | some (.struct fs) => fs.all (fun f => (Try.prog.info? f.type).isSome) | _ => false) = true := by kernel_rfl
theorem bld_33 : (match Try.prog.underlying 33 with | some (.struct fs) => fs.all (fun f => (Try.prog.info? f.type).isSome) | _ => false) = true := by kernel_rfl
theorem bld_35 : (match Try.prog.underlying 35 with | some (.array _ e) => (Try.prog.info? e).isSome | _ => false) = true := by kernel_rfl
theorem bld_37 : (match Try.prog.underlying 37 with | some (.struct fs) => fs.all (fun f => (Try.prog.info? f.type).isSome) | _ => false) = true := by kernel_rfl
theorem bool_4 : isBoolT Try.prog 4 = true := by kernel_rfl
theorem cv_5_u8 : (match Try.prog.underlying 5 with | some (.int q) => decide (q = .u8) | _ => false) = true := by kernel_rfl
theorem el_46 : elT Try.prog 46 5 1 1 = true := by kernel_rfl
theorem el_62 : elT Try.prog 62 33 9 104 = true := by kernel_rfl
theorem el_79 : elT Try.prog 79 9 1 16 = true := by kernel_rfl
theorem el_83 : elT Try.prog 83 3 1 8 = true := by kernel_rfl
theorem fld_23_0 : fieldT Try.prog 23 0 0 = true := by kernel_rfl
theorem fld_23_1 : fieldT Try.prog 23 1 1 = true := by kernel_rfl
theorem fld_25_0 : fieldT Try.prog 25 0 0 = true := by kernel_rfl
theorem fld_25_1 : fieldT Try.prog 25 1 1 = true := by kernel_rfl
theorem fld_27_0 : fieldT Try.prog 27 0 0 = true := by kernel_rfl
theorem fld_27_1 : fieldT Try.prog 27 1 1 = true := by kernel_rfl
theorem fld_29_0 : fieldT Try.prog 29 0 0 = true := by kernel_rfl
theorem fld_29_1 : fieldT Try.prog 29 1 1 = true := by kernel_rfl
theorem fld_33_0 : fieldT Try.prog 33 0 0 = true := by kernel_rfl
theorem fld_33_1 : fieldT Try.prog 33 1 1 = true := by kernel_rfl
theorem fld_33_2 : fieldT Try.prog 33 2 3 = true := by kernel_rfl
theorem fld_33_3 : fieldT Try.prog 33 3 5 = true := by kernel_rfl
theorem fld_33_4 : fieldT Try.prog 33 4 6 = true := by kernel_rfl
theorem fld_33_5 : fieldT Try.prog 33 5 7 = true := by kernel_rfl
theorem fld_33_6 : fieldT Try.prog 33 6 8 = true := by kernel_rfl
theorem fld_37_0 : fieldT Try.prog 37 0 0 = true := by kernel_rfl
theorem fld_37_1 : fieldT Try.prog 37 1 2 = true := by kernel_rfl
theorem fld_37_2 : fieldT Try.prog 37 2 3 = true := by kernel_rfl
theorem fld_37_3 : fieldT Try.prog 37 3 5 = true := by kernel_rfl
theorem fld_37_4 : fieldT Try.prog 37 4 7 = true := by kernel_rfl
theorem fld_37_5 : fieldT Try.prog 37 5 16 = true := by kernel_rfl
theorem fld_37_6 : fieldT Try.prog 37 6 17 = true := by kernel_rfl
theorem fld_37_7 : fieldT Try.prog 37 7 24 = true := by kernel_rfl
theorem fld_39_0 : fieldT Try.prog 39 0 0 = true := by kernel_rfl
theorem fld_39_1 : fieldT Try.prog 39 1 1 = true := by kernel_rfl
theorem fld_39_2 : fieldT Try.prog 39 2 2 = true := by kernel_rfl
theorem fld_39_3 : fieldT Try.prog 39 3 3 = true := by kernel_rfl
theorem fld_39_4 : fieldT Try.prog 39 4 5 = true := by kernel_rfl
theorem fld_64_0 : fieldT Try.prog 64 0 0 = true := by kernel_rfl
theorem fld_64_1 : fieldT Try.prog 64 1 1 = true := by kernel_rfl
theorem fld_66_0 : fieldT Try.prog 66 0 0 = true := by kernel_rfl
theorem fld_66_1 : fieldT Try.prog 66 1 1 = true := by kernel_rfl
theorem fn_10 : fnT Try.prog 10 = true := by kernel_rfl
theorem fn_11 : fnT Try.prog 11 = true := by kernel_rfl
theorem fn_13 : fnT Try.prog 13 = true := by kernel_rfl
theorem fn_14 : fnT Try.prog 14 = true := by kernel_rfl
theorem fn_15 : fnT Try.prog 15 = true := by kernel_rfl
theorem fn_16 : fnT Try.prog 16 = true := by kernel_rfl
theorem fn_17 : fnT Try.prog 17 = true := by kernel_rfl
theorem fn_21 : fnT Try.prog 21 = true := by kernel_rfl
theorem fn_22 : fnT Try.prog 22 = true := by kernel_rfl
theorem fn_23 : fnT Try.prog 23 = true := by kernel_rfl
theorem fn_24 : fnT Try.prog 24 = true := by kernel_rfl
theorem fn_25 : fnT Try.prog 25 = true := by kernel_rfl
theorem fn_26 : fnT Try.prog 26 = true := by kernel_rfl
theorem fn_27 : fnT Try.prog 27 = true := by kernel_rfl
theorem fn_28 : fnT Try.prog 28 = true := by kernel_rfl
theorem fn_29 : fnT Try.prog 29 = true := by kernel_rfl
theorem fn_30 : fnT Try.prog 30 = true := by kernel_rfl
theorem fn_31 : fnT Try.prog 31 = true := by kernel_rfl
theorem fn_32 : fnT Try.prog 32 = true := by kernel_rfl
theorem fn_33 : fnT Try.prog 33 = true := by kernel_rfl
theorem fn_34 : fnT Try.prog 34 = true := by kernel_rfl
theorem fn_35 : fnT Try.prog 35 = true := by kernel_rfl
theorem fn_36 : fnT Try.prog 36 = true := by kernel_rfl
theorem fn_37 : fnT Try.prog 37 = true := by kernel_rfl
theorem fn_38 : fnT Try.prog 38 = true := by kernel_rfl
theorem fn_39 : fnT Try.prog 39 = true := by kernel_rfl
theorem fn_40 : fnT Try.prog 40 = true := by kernel_rfl
theorem fn_41 : fnT Try.prog 41 = true := by kernel_rfl
theorem fn_42 : fnT Try.prog 42 = true := by kernel_rfl
theorem fn_47 : fnT Try.prog 47 = true := by kernel_rfl
theorem fn_48 : fnT Try.prog 48 = true := by kernel_rfl
theorem fn_49 : fnT Try.prog 49 = true := by kernel_rfl
theorem fn_50 : fnT Try.prog 50 = true := by kernel_rfl
theorem fn_51 : fnT Try.prog 51 = true := by kernel_rfl
theorem fn_52 : fnT Try.prog 52 = true := by kernel_rfl
theorem fn_53 : fnT Try.prog 53 = true := by kernel_rfl
theorem fn_54 : fnT Try.prog 54 = true := by kernel_rfl
theorem fn_55 : fnT Try.prog 55 = true := by kernel_rfl
theorem fn_56 : fnT Try.prog 56 = true := by kernel_rfl
theorem fn_57 : fnT Try.prog 57 = true := by kernel_rfl
theorem fn_58 : fnT Try.prog 58 = true := by kernel_rfl
theorem fn_59 : fnT Try.prog 59 = true := by kernel_rfl
theorem fn_60 : fnT Try.prog 60 = true := by kernel_rfl
theorem fn_61 : fnT Try.prog 61 = true := by kernel_rfl
theorem fn_62 : fnT Try.prog 62 = true := by kernel_rfl
theorem fn_63 : fnT Try.prog 63 = true := by kernel_rfl
theorem fn_7 : fnT Try.prog 7 = true := by kernel_rfl
theorem fn_8 : fnT Try.prog 8 = true := by kernel_rfl
theorem fn_9 : fnT Try.prog 9 = true := by kernel_rfl
theorem ints2_23 : ints2T Try.prog 23 = true := by kernel_rfl
theorem ints2_25 : ints2T Try.prog 25 = true := by kernel_rfl
theorem ints2_27 : ints2T Try.prog 27 = true := by kernel_rfl
theorem ints2_29 : ints2T Try.prog 29 = true := by kernel_rfl
theorem intsT_35 : intsT Try.prog 35 7 = true := by kernel_rfl
theorem istr_9 : isStrT Try.prog 9 = true := by kernel_rfl
theorem one_3 : oneT Try.prog 3 = true := by kernel_rfl
theorem one_30 : oneT Try.prog 30 = true := by kernel_rfl
theorem one_31 : oneT Try.prog 31 = true := by kernel_rfl
theorem one_4 : oneT Try.prog 4 = true := by kernel_rfl
theorem one_5 : oneT Try.prog 5 = true := by kernel_rfl
theorem one_9 : oneT Try.prog 9 = true := by kernel_rfl
theorem pl_33_ : plainT Try.prog 33 = true := by kernel_rfl
theorem pl_37 : placesOf Try.prog 37 = some [(0, 2), (2, 1), (3, 2), (5, 2), (7, 9), (16, 1), (17, 7), (24, 1)] := by kernel_rfl
theorem pl_37_ : plainT Try.prog 37 = true := by kernel_rfl
theorem pl_39 : placesOf Try.prog 39 = some [(0, 1), (1, 1), (2, 1), (3, 2), (5, 25)] := by kernel_rfl
theorem pl_39_ : plainT Try.prog 39 = true := by kernel_rfl
theorem pl_3_ : plainT Try.prog 3 = true := by kernel_rfl
theorem rdT_64 : rdT Try.prog 64 = true := by kernel_rfl
theorem size_33 : sizeT Try.prog 33 9 = true := by kernel_rfl
theorem size_37 : sizeT Try.prog 37 25 = true := by kernel_rfl
theorem size_39 : sizeT Try.prog 39 30 = true := by kernel_rfl
theorem size_64 : sizeT Try.prog 64 3 = true := by kernel_rfl
theorem size_66 : sizeT Try.prog 66 2 = true := by kernel_rfl
theorem sl_30 : sliceT Try.prog 30 3 = true := by kernel_rfl
theorem sl_31 : sliceT Try.prog 31 2 = true := by kernel_rfl
theorem sl_46 : sliceT Try.prog 46 1 = true := by kernel_rfl
theorem sl_62 : sliceT Try.prog 62 9 = true := by kernel_rfl
theorem sl_79 : sliceT Try.prog 79 1 = true := by kernel_rfl
theorem sl_83 : sliceT Try.prog 83 1 = true := by kernel_rfl
theorem str_9 : stringT Try.prog 9 = true := by kernel_rfl
theorem strs2T_66 : strs2T Try.prog 66 = true := by kernel_rfl
theorem u8_5 : u8T Try.prog 5 = true := by kernel_rfl
theorem un_3 : (Try.prog.underlying 3).isSome = true := by kernel_rfl
theorem zero_25 : (Try.prog.info? 25).bind (·.zero) = some (.agg #[.int .i64 0, .int .i64 0]) := by kernel_rfl
theorem zero_27 : (Try.prog.info? 27).bind (·.zero) = some (.agg #[.int .i64 0, .int .i64 0]) := by kernel_rfl
theorem zero_29 : (Try.prog.info? 29).bind (·.zero) = some (.agg #[.int .i64 0, .int .i64 0]) := by kernel_rfl
theorem zero_33 : (Try.prog.info? 33).bind (·.zero) = some (.agg #[.int .i64 0, .int .i64 0, .int .i64 0, .int .i64 0, .int .i64 0, .int .i64 0, .slice none 0 0, .slice none 0 0, .bool false]) := by kernel_rfl
theorem zero_35 : (Try.prog.info? 35).bind (·.zero) = some (.agg #[.int .i64 0, .int .i64 0, .int .i64 0, .int .i64 0, .int .i64 0, .int .i64 0, .int .i64 0]) := by kernel_rfl
theorem zero_37 : (Try.prog.info? 37).bind (·.zero) = some (.agg #[.int .i64 0, .int .i64 0, .int .i64 0, .int .i64 0, .int .i64 0, .int .i64 0, .int .i64 0, .int .i64 0, .int .i64 0, .int .i64 0, .int .i64 0, .int .i64 0, .int .i64 0, .slice none 0 0, .slice none 0 0, .bool false, .int .i64 0, .int .i64 0, .int .i64 0, .int .i64 0, .int .i64 0, .int .i64 0, .int .i64 0, .int .i64 0, .bool false]) := by kernel_rfl
theorem zero_39 : (Try.prog.info? 39).bind (·.zero) = some (.agg #[.int .i64 0, .int .i64 0, .int .i64 0, .int .i64 0, .int .i64 0, .int .i64 0, .int .i64 0, .int .i64 0, .int .i64 0, .int .i64 0, .int .i64 0, .int .i64 0, .int .i64 0, .int .i64 0, .int .i64 0, .int .i64 0, .int .i64 0, .int .i64 0, .slice none 0 0, .slice none 0 0, .bool false, .int .i64 0, .int .i64 0, .int .i64 0, .int .i64 0, .int .i64 0, .int .i64 0, .int .i64 0, .int .i64 0, .bool false]) := by kernel_rfl
theorem zero_64 : (Try.prog.info? 64).bind (·.zero) = some (.agg #[.string (⟨#[]⟩ : ByteArray), .int .i64 0, .int .i64 0]) := by kernel_rfl
theorem zero_66 : (Try.prog.info? 66).bind (·.zero) = some (.agg #[.string (⟨#[]⟩ : ByteArray), .string (⟨#[]⟩ : ByteArray)]) := by kernel_rfl
end Go.Proofs.Ytibhkdomoknnfaa
