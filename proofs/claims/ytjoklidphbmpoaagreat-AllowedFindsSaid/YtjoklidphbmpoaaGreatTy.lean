import Derived.Test.YtjoklidphbmpoaaGreatAb18
import Derived.Test.YtjoklidphbmpoaaGreatProg
import Derived.KernelRfl
/-
  What the program's own tables say of its types, as the framework asks it (by a program of this session's own).
-/
namespace Go.Proofs.YtjoklidphbmpoaaGreat
open Go.Ab
theorem Ty.appSz_118 : appSz Tryz.prog 118 = some (3, 32) := by kernel_rfl
theorem Ty.appSz_180 : appSz Tryz.prog 180 = some (2, 16) := by kernel_rfl
theorem Ty.appSz_23 : appSz Tryz.prog 23 = some (1, 8) := by kernel_rfl
theorem Ty.appSz_32 : appSz Tryz.prog 32 = some (8, 112) := by kernel_rfl
theorem Ty.appSz_44 : appSz Tryz.prog 44 = some (1, 1) := by kernel_rfl
theorem Ty.appSz_45 : appSz Tryz.prog 45 = some (2, 24) := by kernel_rfl
theorem Ty.appSz_66 : appSz Tryz.prog 66 = some (1, 16) := by kernel_rfl
theorem Ty.arrSz_117 : arrSz Tryz.prog 117 = some (4, 1) := by kernel_rfl
theorem Ty.arrSz_176 : arrSz Tryz.prog 176 = some (256, 1) := by kernel_rfl
theorem Ty.arrSz_83 : arrSz Tryz.prog 83 = some (24, 7) := by kernel_rfl
theorem Ty.arrTK_117 : arrTK Tryz.prog 117 = some .one := by kernel_rfl
theorem Ty.arrTK_176 : arrTK Tryz.prog 176 = some .one := by kernel_rfl
theorem Ty.arrTK_83 : arrTK Tryz.prog 83 = some (.agg 7) := by kernel_rfl
theorem Ty.azero_120 : azero Tryz.prog 120 = some (.agg [.slice [] .full, .slice [] .full, .slice [] .full, .slice [] .full, .slice [] .full, .slice [] .full]) := by kernel_rfl
theorem Ty.azero_125 : azero Tryz.prog 125 = some (.agg [.int .i64 0, .str [], .int .i64 0]) := by kernel_rfl
theorem Ty.azero_132 : azero Tryz.prog 132 = some (.agg [.int .i64 0, .str [], .int .i64 0]) := by kernel_rfl
theorem Ty.azero_182 : azero Tryz.prog 182 = some (.agg [.int .i64 0, .int .i64 0]) := by kernel_rfl
theorem Ty.azero_25 : azero Tryz.prog 25 = some (.agg [.int .i64 0, .int .i64 0, .slice [] .full]) := by kernel_rfl
theorem Ty.azero_26 : azero Tryz.prog 26 = some (.raw .nilFunc) := by kernel_rfl
theorem Ty.azero_3 : azero Tryz.prog 3 = some (.int .i64 0) := by kernel_rfl
theorem Ty.azero_34 : azero Tryz.prog 34 = some (.agg [.slice [] .full]) := by kernel_rfl
theorem Ty.azero_36 : azero Tryz.prog 36 = some (.agg [.int .i64 0, .int .i64 0, .slice [] .full]) := by kernel_rfl
theorem Ty.azero_47 : azero Tryz.prog 47 = some (.agg [.int .i64 0, .int .i64 0, .int .i64 0, .int .i64 0, .slice [] .full, .slice [] .full, .str []]) := by kernel_rfl
theorem Ty.azero_55 : azero Tryz.prog 55 = some (.agg [.int .i64 0, .int .i64 0, .int .i64 0, .int .i64 0, .int .i64 0, .int .i64 0, .int .i64 0]) := by kernel_rfl
theorem Ty.azero_63 : azero Tryz.prog 63 = some (.agg [.int .i64 0, .int .i64 0, .int .i64 0, .int .i64 0, .int .i64 0, .str [], .slice [] .full, .str [], .int .i64 0]) := by kernel_rfl
theorem Ty.azero_66 : azero Tryz.prog 66 = some (.slice [] .full) := by kernel_rfl
theorem Ty.azero_68 : azero Tryz.prog 68 = some (.agg [.int .i64 0, .int .i64 0, .int .i64 0, .int .i64 0, .str [], .slice [] .full, .slice [] .full, .str []]) := by kernel_rfl
theorem Ty.azero_77 : azero Tryz.prog 77 = some (.agg [.str [], .int .i64 0]) := by kernel_rfl
theorem Ty.azero_92 : azero Tryz.prog 92 = some (.agg [.int .i64 0, .int .i64 0, .int .i64 0, .str [], .int .i64 0, .str [], .int .i64 0]) := by kernel_rfl
theorem Ty.azero_95 : azero Tryz.prog 95 = some (.agg [.int .i64 0, .int .i64 0, .slice [] .full, .raw (.pointer none), .int .i64 0, .int .i64 0, .int .i64 0, .str [], .int .i64 0, .str [], .int .i64 0, .int .i64 0, .int .i64 0, .int .i64 0, .int .i64 0, .slice [] .full, .slice [] .full, .str [], .int .i64 0, .int .i64 0, .int .i64 0, .int .i64 0, .slice [] .full, .slice [] .full, .str [], .slice [] .full]) := by kernel_rfl
theorem Ty.eqTop_27 : eqTop Tryz.prog 27 = some (.ptr) := by kernel_rfl
theorem Ty.eqTop_4 : eqTop Tryz.prog 4 = some (.bool) := by kernel_rfl
theorem Ty.eqTop_55 : eqTop Tryz.prog 55 = some (.strukt (.cons 0 .one .int (.cons 1 .one .int (.cons 2 .one .int (.cons 3 .one .int (.cons 4 .one .int (.cons 5 .one .int (.cons 6 .one .int .nil)))))))) := by kernel_rfl
theorem Ty.eqTop_77 : eqTop Tryz.prog 77 = some (.strukt (.cons 0 .one .str (.cons 1 .one .int .nil))) := by kernel_rfl
theorem Ty.eqTop_99 : eqTop Tryz.prog 99 = some (.ptr) := by kernel_rfl
theorem Ty.fldOff_120_0 : fldOff Tryz.prog 120 0 = some 0 := by kernel_rfl
theorem Ty.fldOff_120_1 : fldOff Tryz.prog 120 1 = some 4 := by kernel_rfl
theorem Ty.fldOff_120_2 : fldOff Tryz.prog 120 2 = some 5 := by kernel_rfl
theorem Ty.fldOff_125_0 : fldOff Tryz.prog 125 0 = some 0 := by kernel_rfl
theorem Ty.fldOff_125_1 : fldOff Tryz.prog 125 1 = some 1 := by kernel_rfl
theorem Ty.fldOff_132_2 : fldOff Tryz.prog 132 2 = some 2 := by kernel_rfl
theorem Ty.fldOff_182_0 : fldOff Tryz.prog 182 0 = some 0 := by kernel_rfl
theorem Ty.fldOff_182_1 : fldOff Tryz.prog 182 1 = some 1 := by kernel_rfl
theorem Ty.fldOff_25_0 : fldOff Tryz.prog 25 0 = some 0 := by kernel_rfl
theorem Ty.fldOff_25_1 : fldOff Tryz.prog 25 1 = some 1 := by kernel_rfl
theorem Ty.fldOff_25_2 : fldOff Tryz.prog 25 2 = some 2 := by kernel_rfl
theorem Ty.fldOff_34_0 : fldOff Tryz.prog 34 0 = some 0 := by kernel_rfl
theorem Ty.fldOff_36_0 : fldOff Tryz.prog 36 0 = some 0 := by kernel_rfl
theorem Ty.fldOff_36_1 : fldOff Tryz.prog 36 1 = some 1 := by kernel_rfl
theorem Ty.fldOff_36_2 : fldOff Tryz.prog 36 2 = some 2 := by kernel_rfl
theorem Ty.fldOff_47_0 : fldOff Tryz.prog 47 0 = some 0 := by kernel_rfl
theorem Ty.fldOff_47_1 : fldOff Tryz.prog 47 1 = some 1 := by kernel_rfl
theorem Ty.fldOff_47_2 : fldOff Tryz.prog 47 2 = some 2 := by kernel_rfl
theorem Ty.fldOff_47_3 : fldOff Tryz.prog 47 3 = some 3 := by kernel_rfl
theorem Ty.fldOff_47_4 : fldOff Tryz.prog 47 4 = some 4 := by kernel_rfl
theorem Ty.fldOff_47_5 : fldOff Tryz.prog 47 5 = some 5 := by kernel_rfl
theorem Ty.fldOff_47_6 : fldOff Tryz.prog 47 6 = some 6 := by kernel_rfl
theorem Ty.fldOff_55_0 : fldOff Tryz.prog 55 0 = some 0 := by kernel_rfl
theorem Ty.fldOff_55_1 : fldOff Tryz.prog 55 1 = some 1 := by kernel_rfl
theorem Ty.fldOff_63_0 : fldOff Tryz.prog 63 0 = some 0 := by kernel_rfl
theorem Ty.fldOff_63_1 : fldOff Tryz.prog 63 1 = some 1 := by kernel_rfl
theorem Ty.fldOff_63_2 : fldOff Tryz.prog 63 2 = some 2 := by kernel_rfl
theorem Ty.fldOff_63_3 : fldOff Tryz.prog 63 3 = some 3 := by kernel_rfl
theorem Ty.fldOff_63_4 : fldOff Tryz.prog 63 4 = some 4 := by kernel_rfl
theorem Ty.fldOff_63_5 : fldOff Tryz.prog 63 5 = some 5 := by kernel_rfl
theorem Ty.fldOff_63_6 : fldOff Tryz.prog 63 6 = some 6 := by kernel_rfl
theorem Ty.fldOff_63_7 : fldOff Tryz.prog 63 7 = some 7 := by kernel_rfl
theorem Ty.fldOff_63_8 : fldOff Tryz.prog 63 8 = some 8 := by kernel_rfl
theorem Ty.fldOff_68_0 : fldOff Tryz.prog 68 0 = some 0 := by kernel_rfl
theorem Ty.fldOff_68_1 : fldOff Tryz.prog 68 1 = some 1 := by kernel_rfl
theorem Ty.fldOff_68_2 : fldOff Tryz.prog 68 2 = some 2 := by kernel_rfl
theorem Ty.fldOff_68_3 : fldOff Tryz.prog 68 3 = some 3 := by kernel_rfl
theorem Ty.fldOff_68_5 : fldOff Tryz.prog 68 5 = some 5 := by kernel_rfl
theorem Ty.fldOff_68_6 : fldOff Tryz.prog 68 6 = some 6 := by kernel_rfl
theorem Ty.fldOff_77_0 : fldOff Tryz.prog 77 0 = some 0 := by kernel_rfl
theorem Ty.fldOff_77_1 : fldOff Tryz.prog 77 1 = some 1 := by kernel_rfl
theorem Ty.fldOff_82_0 : fldOff Tryz.prog 82 0 = some 0 := by kernel_rfl
theorem Ty.fldOff_82_1 : fldOff Tryz.prog 82 1 = some 1 := by kernel_rfl
theorem Ty.fldOff_82_2 : fldOff Tryz.prog 82 2 = some 2 := by kernel_rfl
theorem Ty.fldOff_85_0 : fldOff Tryz.prog 85 0 = some 0 := by kernel_rfl
theorem Ty.fldOff_85_1 : fldOff Tryz.prog 85 1 = some 1 := by kernel_rfl
theorem Ty.fldOff_92_0 : fldOff Tryz.prog 92 0 = some 0 := by kernel_rfl
theorem Ty.fldOff_92_1 : fldOff Tryz.prog 92 1 = some 1 := by kernel_rfl
theorem Ty.fldOff_92_2 : fldOff Tryz.prog 92 2 = some 2 := by kernel_rfl
theorem Ty.fldOff_92_3 : fldOff Tryz.prog 92 3 = some 3 := by kernel_rfl
theorem Ty.fldOff_92_4 : fldOff Tryz.prog 92 4 = some 4 := by kernel_rfl
theorem Ty.fldOff_92_6 : fldOff Tryz.prog 92 6 = some 6 := by kernel_rfl
theorem Ty.fldOff_95_0 : fldOff Tryz.prog 95 0 = some 0 := by kernel_rfl
theorem Ty.fldOff_95_1 : fldOff Tryz.prog 95 1 = some 3 := by kernel_rfl
theorem Ty.fldOff_95_2 : fldOff Tryz.prog 95 2 = some 4 := by kernel_rfl
theorem Ty.fldOff_95_3 : fldOff Tryz.prog 95 3 = some 11 := by kernel_rfl
theorem Ty.fldOff_95_4 : fldOff Tryz.prog 95 4 = some 18 := by kernel_rfl
theorem Ty.fldOff_95_5 : fldOff Tryz.prog 95 5 = some 25 := by kernel_rfl
theorem Ty.fldTK_47_2 : fldTK Tryz.prog 47 2 = some (2, .one) := by kernel_rfl
theorem Ty.fldTK_68_0 : fldTK Tryz.prog 68 0 = some (0, .one) := by kernel_rfl
theorem Ty.intT_21 : intT Tryz.prog 21 = some .i32 := by kernel_rfl
theorem Ty.intT_5 : intT Tryz.prog 5 = some .u8 := by kernel_rfl
theorem Ty.intT_9 : intT Tryz.prog 9 = none := by kernel_rfl
theorem Ty.isBytesT_44 : isBytesT Tryz.prog 44 = true := by kernel_rfl
theorem Ty.isSliceT_118 : isSliceT Tryz.prog 118 = true := by kernel_rfl
theorem Ty.isSliceT_148 : isSliceT Tryz.prog 148 = true := by kernel_rfl
theorem Ty.isSliceT_161 : isSliceT Tryz.prog 161 = true := by kernel_rfl
theorem Ty.isSliceT_180 : isSliceT Tryz.prog 180 = true := by kernel_rfl
theorem Ty.isSliceT_22 : isSliceT Tryz.prog 22 = true := by kernel_rfl
theorem Ty.isSliceT_23 : isSliceT Tryz.prog 23 = true := by kernel_rfl
theorem Ty.isSliceT_32 : isSliceT Tryz.prog 32 = true := by kernel_rfl
theorem Ty.isSliceT_39 : isSliceT Tryz.prog 39 = true := by kernel_rfl
theorem Ty.isSliceT_44 : isSliceT Tryz.prog 44 = true := by kernel_rfl
theorem Ty.isSliceT_45 : isSliceT Tryz.prog 45 = true := by kernel_rfl
theorem Ty.isSliceT_66 : isSliceT Tryz.prog 66 = true := by kernel_rfl
theorem Ty.isStrT_9 : isStrT Tryz.prog 9 = true := by kernel_rfl
theorem Ty.known_21 : known Tryz.prog 21 = true := by kernel_rfl
theorem Ty.known_5 : known Tryz.prog 5 = true := by kernel_rfl
theorem Ty.litSz_118 : litSz Tryz.prog 118 = some 3 := by kernel_rfl
theorem Ty.litSz_148 : litSz Tryz.prog 148 = some 1 := by kernel_rfl
theorem Ty.litSz_161 : litSz Tryz.prog 161 = some 1 := by kernel_rfl
theorem Ty.litSz_180 : litSz Tryz.prog 180 = some 2 := by kernel_rfl
theorem Ty.litSz_22 : litSz Tryz.prog 22 = some 9 := by kernel_rfl
theorem Ty.litSz_23 : litSz Tryz.prog 23 = some 1 := by kernel_rfl
theorem Ty.litSz_44 : litSz Tryz.prog 44 = some 1 := by kernel_rfl
theorem Ty.litSz_45 : litSz Tryz.prog 45 = some 2 := by kernel_rfl
theorem Ty.litSz_66 : litSz Tryz.prog 66 = some 1 := by kernel_rfl
theorem Ty.makeT_180 : makeT Tryz.prog 180 = some (2, 16, [.int .i64 0, .int .i64 0], true) := by kernel_rfl
theorem Ty.makeT_32 : makeT Tryz.prog 32 = some (8, 112, [.int .i64 0, .int .i64 0, .int .i64 0, .int .i64 0, .str [], .slice [] .full, .slice [] .full, .str []], true) := by kernel_rfl
theorem Ty.makeT_45 : makeT Tryz.prog 45 = some (2, 24, [.str [], .int .i64 0], true) := by kernel_rfl
theorem Ty.makeT_66 : makeT Tryz.prog 66 = some (1, 16, [.str []], false) := by kernel_rfl
theorem Ty.mapT_97 : mapT Tryz.prog 97 = some (.int .i64, 26) := by kernel_rfl
theorem Ty.place_125_0 : place Tryz.prog 125 0 = some (0, 1) := by kernel_rfl
theorem Ty.place_125_1 : place Tryz.prog 125 1 = some (1, 2) := by kernel_rfl
theorem Ty.place_132_0 : place Tryz.prog 132 0 = some (0, 1) := by kernel_rfl
theorem Ty.place_132_1 : place Tryz.prog 132 1 = some (1, 1) := by kernel_rfl
theorem Ty.place_132_2 : place Tryz.prog 132 2 = some (2, 1) := by kernel_rfl
theorem Ty.place_182_0 : place Tryz.prog 182 0 = some (0, 1) := by kernel_rfl
theorem Ty.place_182_1 : place Tryz.prog 182 1 = some (1, 1) := by kernel_rfl
theorem Ty.place_25_0 : place Tryz.prog 25 0 = some (0, 1) := by kernel_rfl
theorem Ty.place_25_1 : place Tryz.prog 25 1 = some (1, 1) := by kernel_rfl
theorem Ty.place_25_2 : place Tryz.prog 25 2 = some (2, 1) := by kernel_rfl
theorem Ty.place_34_0 : place Tryz.prog 34 0 = some (0, 1) := by kernel_rfl
theorem Ty.place_36_0 : place Tryz.prog 36 0 = some (0, 1) := by kernel_rfl
theorem Ty.place_36_1 : place Tryz.prog 36 1 = some (1, 1) := by kernel_rfl
theorem Ty.place_36_2 : place Tryz.prog 36 2 = some (2, 1) := by kernel_rfl
theorem Ty.place_47_0 : place Tryz.prog 47 0 = some (0, 1) := by kernel_rfl
theorem Ty.place_47_1 : place Tryz.prog 47 1 = some (1, 1) := by kernel_rfl
theorem Ty.place_47_2 : place Tryz.prog 47 2 = some (2, 1) := by kernel_rfl
theorem Ty.place_47_3 : place Tryz.prog 47 3 = some (3, 1) := by kernel_rfl
theorem Ty.place_47_4 : place Tryz.prog 47 4 = some (4, 1) := by kernel_rfl
theorem Ty.place_47_5 : place Tryz.prog 47 5 = some (5, 1) := by kernel_rfl
theorem Ty.place_47_6 : place Tryz.prog 47 6 = some (6, 1) := by kernel_rfl
theorem Ty.place_55_0 : place Tryz.prog 55 0 = some (0, 1) := by kernel_rfl
theorem Ty.place_55_1 : place Tryz.prog 55 1 = some (1, 1) := by kernel_rfl
theorem Ty.place_55_2 : place Tryz.prog 55 2 = some (2, 1) := by kernel_rfl
theorem Ty.place_55_3 : place Tryz.prog 55 3 = some (3, 1) := by kernel_rfl
theorem Ty.place_55_4 : place Tryz.prog 55 4 = some (4, 1) := by kernel_rfl
theorem Ty.place_55_5 : place Tryz.prog 55 5 = some (5, 1) := by kernel_rfl
theorem Ty.place_55_6 : place Tryz.prog 55 6 = some (6, 1) := by kernel_rfl
theorem Ty.place_63_0 : place Tryz.prog 63 0 = some (0, 1) := by kernel_rfl
theorem Ty.place_63_1 : place Tryz.prog 63 1 = some (1, 1) := by kernel_rfl
theorem Ty.place_63_2 : place Tryz.prog 63 2 = some (2, 1) := by kernel_rfl
theorem Ty.place_63_3 : place Tryz.prog 63 3 = some (3, 1) := by kernel_rfl
theorem Ty.place_63_4 : place Tryz.prog 63 4 = some (4, 1) := by kernel_rfl
theorem Ty.place_63_5 : place Tryz.prog 63 5 = some (5, 1) := by kernel_rfl
theorem Ty.place_63_6 : place Tryz.prog 63 6 = some (6, 1) := by kernel_rfl
theorem Ty.place_63_7 : place Tryz.prog 63 7 = some (7, 1) := by kernel_rfl
theorem Ty.place_63_8 : place Tryz.prog 63 8 = some (8, 1) := by kernel_rfl
theorem Ty.place_68_0 : place Tryz.prog 68 0 = some (0, 1) := by kernel_rfl
theorem Ty.place_68_1 : place Tryz.prog 68 1 = some (1, 1) := by kernel_rfl
theorem Ty.place_68_2 : place Tryz.prog 68 2 = some (2, 1) := by kernel_rfl
theorem Ty.place_68_3 : place Tryz.prog 68 3 = some (3, 1) := by kernel_rfl
theorem Ty.place_68_4 : place Tryz.prog 68 4 = some (4, 1) := by kernel_rfl
theorem Ty.place_68_5 : place Tryz.prog 68 5 = some (5, 1) := by kernel_rfl
theorem Ty.place_68_6 : place Tryz.prog 68 6 = some (6, 1) := by kernel_rfl
theorem Ty.place_68_7 : place Tryz.prog 68 7 = some (7, 1) := by kernel_rfl
theorem Ty.place_77_0 : place Tryz.prog 77 0 = some (0, 1) := by kernel_rfl
theorem Ty.place_77_1 : place Tryz.prog 77 1 = some (1, 1) := by kernel_rfl
theorem Ty.place_85_0 : place Tryz.prog 85 0 = some (0, 1) := by kernel_rfl
theorem Ty.place_85_1 : place Tryz.prog 85 1 = some (1, 168) := by kernel_rfl
theorem Ty.place_92_0 : place Tryz.prog 92 0 = some (0, 1) := by kernel_rfl
theorem Ty.place_92_1 : place Tryz.prog 92 1 = some (1, 1) := by kernel_rfl
theorem Ty.place_92_2 : place Tryz.prog 92 2 = some (2, 1) := by kernel_rfl
theorem Ty.place_92_3 : place Tryz.prog 92 3 = some (3, 1) := by kernel_rfl
theorem Ty.place_92_4 : place Tryz.prog 92 4 = some (4, 1) := by kernel_rfl
theorem Ty.place_92_5 : place Tryz.prog 92 5 = some (5, 1) := by kernel_rfl
theorem Ty.place_92_6 : place Tryz.prog 92 6 = some (6, 1) := by kernel_rfl
theorem Ty.place_95_0 : place Tryz.prog 95 0 = some (0, 3) := by kernel_rfl
theorem Ty.place_95_1 : place Tryz.prog 95 1 = some (3, 1) := by kernel_rfl
theorem Ty.place_95_2 : place Tryz.prog 95 2 = some (4, 7) := by kernel_rfl
theorem Ty.place_95_3 : place Tryz.prog 95 3 = some (11, 7) := by kernel_rfl
theorem Ty.place_95_4 : place Tryz.prog 95 4 = some (18, 7) := by kernel_rfl
theorem Ty.place_95_5 : place Tryz.prog 95 5 = some (25, 1) := by kernel_rfl
theorem Ty.sliceSz_118 : sliceSz Tryz.prog 118 = some 3 := by kernel_rfl
theorem Ty.sliceSz_148 : sliceSz Tryz.prog 148 = some 1 := by kernel_rfl
theorem Ty.sliceSz_161 : sliceSz Tryz.prog 161 = some 1 := by kernel_rfl
theorem Ty.sliceSz_180 : sliceSz Tryz.prog 180 = some 2 := by kernel_rfl
theorem Ty.sliceSz_22 : sliceSz Tryz.prog 22 = some 9 := by kernel_rfl
theorem Ty.sliceSz_23 : sliceSz Tryz.prog 23 = some 1 := by kernel_rfl
theorem Ty.sliceSz_32 : sliceSz Tryz.prog 32 = some 8 := by kernel_rfl
theorem Ty.sliceSz_39 : sliceSz Tryz.prog 39 = some 9 := by kernel_rfl
theorem Ty.sliceSz_44 : sliceSz Tryz.prog 44 = some 1 := by kernel_rfl
theorem Ty.sliceSz_45 : sliceSz Tryz.prog 45 = some 2 := by kernel_rfl
theorem Ty.sliceSz_66 : sliceSz Tryz.prog 66 = some 1 := by kernel_rfl
theorem Ty.structOk_125 : structOk Tryz.prog 125 = true := by kernel_rfl
theorem Ty.structOk_132 : structOk Tryz.prog 132 = true := by kernel_rfl
theorem Ty.structOk_182 : structOk Tryz.prog 182 = true := by kernel_rfl
theorem Ty.structOk_25 : structOk Tryz.prog 25 = true := by kernel_rfl
theorem Ty.structOk_34 : structOk Tryz.prog 34 = true := by kernel_rfl
theorem Ty.structOk_36 : structOk Tryz.prog 36 = true := by kernel_rfl
theorem Ty.structOk_47 : structOk Tryz.prog 47 = true := by kernel_rfl
theorem Ty.structOk_55 : structOk Tryz.prog 55 = true := by kernel_rfl
theorem Ty.structOk_63 : structOk Tryz.prog 63 = true := by kernel_rfl
theorem Ty.structOk_68 : structOk Tryz.prog 68 = true := by kernel_rfl
theorem Ty.structOk_77 : structOk Tryz.prog 77 = true := by kernel_rfl
theorem Ty.structOk_85 : structOk Tryz.prog 85 = true := by kernel_rfl
theorem Ty.structOk_92 : structOk Tryz.prog 92 = true := by kernel_rfl
theorem Ty.structOk_95 : structOk Tryz.prog 95 = true := by kernel_rfl
theorem Ty.tk_110 : tk Tryz.prog 110 = some .one := by kernel_rfl
theorem Ty.tk_117 : tk Tryz.prog 117 = some (.agg 4) := by kernel_rfl
theorem Ty.tk_118 : tk Tryz.prog 118 = some .one := by kernel_rfl
theorem Ty.tk_120 : tk Tryz.prog 120 = some (.agg 6) := by kernel_rfl
theorem Ty.tk_125 : tk Tryz.prog 125 = some (.agg 3) := by kernel_rfl
theorem Ty.tk_132 : tk Tryz.prog 132 = some (.agg 3) := by kernel_rfl
theorem Ty.tk_176 : tk Tryz.prog 176 = some (.agg 256) := by kernel_rfl
theorem Ty.tk_182 : tk Tryz.prog 182 = some (.agg 2) := by kernel_rfl
theorem Ty.tk_23 : tk Tryz.prog 23 = some .one := by kernel_rfl
theorem Ty.tk_25 : tk Tryz.prog 25 = some (.agg 3) := by kernel_rfl
theorem Ty.tk_27 : tk Tryz.prog 27 = some .one := by kernel_rfl
theorem Ty.tk_3 : tk Tryz.prog 3 = some .one := by kernel_rfl
theorem Ty.tk_32 : tk Tryz.prog 32 = some .one := by kernel_rfl
theorem Ty.tk_34 : tk Tryz.prog 34 = some (.agg 1) := by kernel_rfl
theorem Ty.tk_36 : tk Tryz.prog 36 = some (.agg 3) := by kernel_rfl
theorem Ty.tk_4 : tk Tryz.prog 4 = some .one := by kernel_rfl
theorem Ty.tk_44 : tk Tryz.prog 44 = some .one := by kernel_rfl
theorem Ty.tk_45 : tk Tryz.prog 45 = some .one := by kernel_rfl
theorem Ty.tk_47 : tk Tryz.prog 47 = some (.agg 7) := by kernel_rfl
theorem Ty.tk_5 : tk Tryz.prog 5 = some .one := by kernel_rfl
theorem Ty.tk_55 : tk Tryz.prog 55 = some (.agg 7) := by kernel_rfl
theorem Ty.tk_63 : tk Tryz.prog 63 = some (.agg 9) := by kernel_rfl
theorem Ty.tk_66 : tk Tryz.prog 66 = some .one := by kernel_rfl
theorem Ty.tk_68 : tk Tryz.prog 68 = some (.agg 8) := by kernel_rfl
theorem Ty.tk_77 : tk Tryz.prog 77 = some (.agg 2) := by kernel_rfl
theorem Ty.tk_85 : tk Tryz.prog 85 = some (.agg 169) := by kernel_rfl
theorem Ty.tk_9 : tk Tryz.prog 9 = some .one := by kernel_rfl
theorem Ty.tk_92 : tk Tryz.prog 92 = some (.agg 7) := by kernel_rfl
theorem Ty.tk_95 : tk Tryz.prog 95 = some (.agg 26) := by kernel_rfl
attribute [push_cast] Ty.appSz_118 Ty.appSz_180 Ty.appSz_23 Ty.appSz_32 Ty.appSz_44 Ty.appSz_45 Ty.appSz_66 Ty.arrSz_117 Ty.arrSz_176 Ty.arrSz_83 Ty.arrTK_117 Ty.arrTK_176 Ty.arrTK_83 Ty.azero_120 Ty.azero_125 Ty.azero_132 Ty.azero_182 Ty.azero_25 Ty.azero_26 Ty.azero_3 Ty.azero_34 Ty.azero_36 Ty.azero_47 Ty.azero_55 Ty.azero_63 Ty.azero_66 Ty.azero_68 Ty.azero_77 Ty.azero_92 Ty.azero_95 Ty.eqTop_27 Ty.eqTop_4 Ty.eqTop_55 Ty.eqTop_77 Ty.eqTop_99 Ty.fldOff_120_0 Ty.fldOff_120_1 Ty.fldOff_120_2 Ty.fldOff_125_0 Ty.fldOff_125_1 Ty.fldOff_132_2 Ty.fldOff_182_0 Ty.fldOff_182_1 Ty.fldOff_25_0 Ty.fldOff_25_1 Ty.fldOff_25_2 Ty.fldOff_34_0 Ty.fldOff_36_0 Ty.fldOff_36_1 Ty.fldOff_36_2 Ty.fldOff_47_0 Ty.fldOff_47_1 Ty.fldOff_47_2 Ty.fldOff_47_3 Ty.fldOff_47_4 Ty.fldOff_47_5 Ty.fldOff_47_6 Ty.fldOff_55_0 Ty.fldOff_55_1 Ty.fldOff_63_0 Ty.fldOff_63_1 Ty.fldOff_63_2 Ty.fldOff_63_3 Ty.fldOff_63_4 Ty.fldOff_63_5 Ty.fldOff_63_6 Ty.fldOff_63_7 Ty.fldOff_63_8 Ty.fldOff_68_0 Ty.fldOff_68_1 Ty.fldOff_68_2 Ty.fldOff_68_3 Ty.fldOff_68_5 Ty.fldOff_68_6 Ty.fldOff_77_0 Ty.fldOff_77_1 Ty.fldOff_82_0 Ty.fldOff_82_1 Ty.fldOff_82_2 Ty.fldOff_85_0 Ty.fldOff_85_1 Ty.fldOff_92_0 Ty.fldOff_92_1 Ty.fldOff_92_2 Ty.fldOff_92_3 Ty.fldOff_92_4 Ty.fldOff_92_6 Ty.fldOff_95_0 Ty.fldOff_95_1 Ty.fldOff_95_2 Ty.fldOff_95_3 Ty.fldOff_95_4 Ty.fldOff_95_5 Ty.fldTK_47_2 Ty.fldTK_68_0 Ty.intT_21 Ty.intT_5 Ty.intT_9 Ty.isBytesT_44 Ty.isSliceT_118 Ty.isSliceT_148 Ty.isSliceT_161 Ty.isSliceT_180 Ty.isSliceT_22 Ty.isSliceT_23 Ty.isSliceT_32 Ty.isSliceT_39 Ty.isSliceT_44 Ty.isSliceT_45 Ty.isSliceT_66 Ty.isStrT_9 Ty.known_21 Ty.known_5 Ty.litSz_118 Ty.litSz_148 Ty.litSz_161 Ty.litSz_180 Ty.litSz_22 Ty.litSz_23 Ty.litSz_44 Ty.litSz_45 Ty.litSz_66 Ty.makeT_180 Ty.makeT_32 Ty.makeT_45 Ty.makeT_66 Ty.mapT_97 Ty.place_125_0 Ty.place_125_1 Ty.place_132_0 Ty.place_132_1 Ty.place_132_2 Ty.place_182_0 Ty.place_182_1 Ty.place_25_0 Ty.place_25_1 Ty.place_25_2 Ty.place_34_0 Ty.place_36_0 Ty.place_36_1 Ty.place_36_2 Ty.place_47_0 Ty.place_47_1 Ty.place_47_2 Ty.place_47_3 Ty.place_47_4 Ty.place_47_5 Ty.place_47_6 Ty.place_55_0 Ty.place_55_1 Ty.place_55_2 Ty.place_55_3 Ty.place_55_4 Ty.place_55_5 Ty.place_55_6 Ty.place_63_0 Ty.place_63_1 Ty.place_63_2 Ty.place_63_3 Ty.place_63_4 Ty.place_63_5 Ty.place_63_6 Ty.place_63_7 Ty.place_63_8 Ty.place_68_0 Ty.place_68_1 Ty.place_68_2 Ty.place_68_3 Ty.place_68_4 Ty.place_68_5 Ty.place_68_6 Ty.place_68_7 Ty.place_77_0 Ty.place_77_1 Ty.place_85_0 Ty.place_85_1 Ty.place_92_0 Ty.place_92_1 Ty.place_92_2 Ty.place_92_3 Ty.place_92_4 Ty.place_92_5 Ty.place_92_6 Ty.place_95_0 Ty.place_95_1 Ty.place_95_2 Ty.place_95_3 Ty.place_95_4 Ty.place_95_5 Ty.sliceSz_118 Ty.sliceSz_148 Ty.sliceSz_161 Ty.sliceSz_180 Ty.sliceSz_22 Ty.sliceSz_23 Ty.sliceSz_32 Ty.sliceSz_39 Ty.sliceSz_44 Ty.sliceSz_45 Ty.sliceSz_66 Ty.structOk_125 Ty.structOk_132 Ty.structOk_182 Ty.structOk_25 Ty.structOk_34 Ty.structOk_36 Ty.structOk_47 Ty.structOk_55 Ty.structOk_63 Ty.structOk_68 Ty.structOk_77 Ty.structOk_85 Ty.structOk_92 Ty.structOk_95 Ty.tk_110 Ty.tk_117 Ty.tk_118 Ty.tk_120 Ty.tk_125 Ty.tk_132 Ty.tk_176 Ty.tk_182 Ty.tk_23 Ty.tk_25 Ty.tk_27 Ty.tk_3 Ty.tk_32 Ty.tk_34 Ty.tk_36 Ty.tk_4 Ty.tk_44 Ty.tk_45 Ty.tk_47 Ty.tk_5 Ty.tk_55 Ty.tk_63 Ty.tk_66 Ty.tk_68 Ty.tk_77 Ty.tk_85 Ty.tk_9 Ty.tk_92 Ty.tk_95
end Go.Proofs.YtjoklidphbmpoaaGreat
