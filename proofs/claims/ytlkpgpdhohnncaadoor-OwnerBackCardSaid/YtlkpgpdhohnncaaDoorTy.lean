import Derived.Test.YtlkpgpdhohnncaaDoorAb15
import Derived.Test.YtlkpgpdhohnncaaDoorProg
import Derived.KernelRfl
/-
  What the program's own tables say of its types, as the framework asks it (by a program of this session's own).
-/
namespace Go.Proofs.YtlkpgpdhohnncaaDoor
open Go.Ab
theorem Ty.appSz_48 : appSz Tryd.prog 48 = some (1, 1) := by kernel_rfl
theorem Ty.arrSz_58 : arrSz Tryd.prog 58 = some (24, 1) := by kernel_rfl
theorem Ty.arrSz_65 : arrSz Tryd.prog 65 = some (20, 1) := by kernel_rfl
theorem Ty.arrSz_66 : arrSz Tryd.prog 66 = some (65, 1) := by kernel_rfl
theorem Ty.arrSz_70 : arrSz Tryd.prog 70 = some (32, 1) := by kernel_rfl
theorem Ty.arrSz_71 : arrSz Tryd.prog 71 = some (64, 1) := by kernel_rfl
theorem Ty.arrTK_58 : arrTK Tryd.prog 58 = some .one := by kernel_rfl
theorem Ty.arrTK_65 : arrTK Tryd.prog 65 = some .one := by kernel_rfl
theorem Ty.arrTK_66 : arrTK Tryd.prog 66 = some .one := by kernel_rfl
theorem Ty.arrTK_70 : arrTK Tryd.prog 70 = some .one := by kernel_rfl
theorem Ty.arrTK_71 : arrTK Tryd.prog 71 = some .one := by kernel_rfl
theorem Ty.azero_3 : azero Tryd.prog 3 = some (.int .i64 0) := by kernel_rfl
theorem Ty.azero_58 : azero Tryd.prog 58 = some (.agg [.int .u8 0, .int .u8 0, .int .u8 0, .int .u8 0, .int .u8 0, .int .u8 0, .int .u8 0, .int .u8 0, .int .u8 0, .int .u8 0, .int .u8 0, .int .u8 0, .int .u8 0, .int .u8 0, .int .u8 0, .int .u8 0, .int .u8 0, .int .u8 0, .int .u8 0, .int .u8 0, .int .u8 0, .int .u8 0, .int .u8 0, .int .u8 0]) := by kernel_rfl
theorem Ty.azero_65 : azero Tryd.prog 65 = some (.agg [.int .u64 0, .int .u64 0, .int .u64 0, .int .u64 0, .int .u64 0, .int .u64 0, .int .u64 0, .int .u64 0, .int .u64 0, .int .u64 0, .int .u64 0, .int .u64 0, .int .u64 0, .int .u64 0, .int .u64 0, .int .u64 0, .int .u64 0, .int .u64 0, .int .u64 0, .int .u64 0]) := by kernel_rfl
theorem Ty.azero_66 : azero Tryd.prog 66 = some (.agg [.int .u8 0, .int .u8 0, .int .u8 0, .int .u8 0, .int .u8 0, .int .u8 0, .int .u8 0, .int .u8 0, .int .u8 0, .int .u8 0, .int .u8 0, .int .u8 0, .int .u8 0, .int .u8 0, .int .u8 0, .int .u8 0, .int .u8 0, .int .u8 0, .int .u8 0, .int .u8 0, .int .u8 0, .int .u8 0, .int .u8 0, .int .u8 0, .int .u8 0, .int .u8 0, .int .u8 0, .int .u8 0, .int .u8 0, .int .u8 0, .int .u8 0, .int .u8 0, .int .u8 0, .int .u8 0, .int .u8 0, .int .u8 0, .int .u8 0, .int .u8 0, .int .u8 0, .int .u8 0, .int .u8 0, .int .u8 0, .int .u8 0, .int .u8 0, .int .u8 0, .int .u8 0, .int .u8 0, .int .u8 0, .int .u8 0, .int .u8 0, .int .u8 0, .int .u8 0, .int .u8 0, .int .u8 0, .int .u8 0, .int .u8 0, .int .u8 0, .int .u8 0, .int .u8 0, .int .u8 0, .int .u8 0, .int .u8 0, .int .u8 0, .int .u8 0, .int .u8 0]) := by kernel_rfl
theorem Ty.azero_70 : azero Tryd.prog 70 = some (.agg [.int .u8 0, .int .u8 0, .int .u8 0, .int .u8 0, .int .u8 0, .int .u8 0, .int .u8 0, .int .u8 0, .int .u8 0, .int .u8 0, .int .u8 0, .int .u8 0, .int .u8 0, .int .u8 0, .int .u8 0, .int .u8 0, .int .u8 0, .int .u8 0, .int .u8 0, .int .u8 0, .int .u8 0, .int .u8 0, .int .u8 0, .int .u8 0, .int .u8 0, .int .u8 0, .int .u8 0, .int .u8 0, .int .u8 0, .int .u8 0, .int .u8 0, .int .u8 0]) := by kernel_rfl
theorem Ty.azero_71 : azero Tryd.prog 71 = some (.agg [.int .u8 0, .int .u8 0, .int .u8 0, .int .u8 0, .int .u8 0, .int .u8 0, .int .u8 0, .int .u8 0, .int .u8 0, .int .u8 0, .int .u8 0, .int .u8 0, .int .u8 0, .int .u8 0, .int .u8 0, .int .u8 0, .int .u8 0, .int .u8 0, .int .u8 0, .int .u8 0, .int .u8 0, .int .u8 0, .int .u8 0, .int .u8 0, .int .u8 0, .int .u8 0, .int .u8 0, .int .u8 0, .int .u8 0, .int .u8 0, .int .u8 0, .int .u8 0, .int .u8 0, .int .u8 0, .int .u8 0, .int .u8 0, .int .u8 0, .int .u8 0, .int .u8 0, .int .u8 0, .int .u8 0, .int .u8 0, .int .u8 0, .int .u8 0, .int .u8 0, .int .u8 0, .int .u8 0, .int .u8 0, .int .u8 0, .int .u8 0, .int .u8 0, .int .u8 0, .int .u8 0, .int .u8 0, .int .u8 0, .int .u8 0, .int .u8 0, .int .u8 0, .int .u8 0, .int .u8 0, .int .u8 0, .int .u8 0, .int .u8 0, .int .u8 0]) := by kernel_rfl
theorem Ty.conc_9 : Tryd.prog.concrete 9 = true := by kernel_rfl
theorem Ty.eqTop_4 : eqTop Tryd.prog 4 = some (.bool) := by kernel_rfl
theorem Ty.intT_3 : intT Tryd.prog 3 = some .i64 := by kernel_rfl
theorem Ty.intT_37 : intT Tryd.prog 37 = some .u32 := by kernel_rfl
theorem Ty.intT_5 : intT Tryd.prog 5 = some .u8 := by kernel_rfl
theorem Ty.intT_54 : intT Tryd.prog 54 = some .u64 := by kernel_rfl
theorem Ty.intT_59 : intT Tryd.prog 59 = some .u64 := by kernel_rfl
theorem Ty.isBytesT_48 : isBytesT Tryd.prog 48 = true := by kernel_rfl
theorem Ty.isMapT_43 : isMapT Tryd.prog 43 = true := by kernel_rfl
theorem Ty.isSliceT_47 : isSliceT Tryd.prog 47 = true := by kernel_rfl
theorem Ty.isSliceT_48 : isSliceT Tryd.prog 48 = true := by kernel_rfl
theorem Ty.isStrT_9 : isStrT Tryd.prog 9 = true := by kernel_rfl
theorem Ty.known_2 : known Tryd.prog 2 = true := by kernel_rfl
theorem Ty.known_21 : known Tryd.prog 21 = true := by kernel_rfl
theorem Ty.known_3 : known Tryd.prog 3 = true := by kernel_rfl
theorem Ty.known_34 : known Tryd.prog 34 = true := by kernel_rfl
theorem Ty.known_37 : known Tryd.prog 37 = true := by kernel_rfl
theorem Ty.known_5 : known Tryd.prog 5 = true := by kernel_rfl
theorem Ty.known_54 : known Tryd.prog 54 = true := by kernel_rfl
theorem Ty.known_59 : known Tryd.prog 59 = true := by kernel_rfl
theorem Ty.litSz_47 : litSz Tryd.prog 47 = some 1 := by kernel_rfl
theorem Ty.litSz_48 : litSz Tryd.prog 48 = some 1 := by kernel_rfl
theorem Ty.mapT_43 : mapT Tryd.prog 43 = some (.str, 3) := by kernel_rfl
theorem Ty.place_65_0 : place Tryd.prog 65 0 = some (0, 1) := by kernel_rfl
theorem Ty.place_65_1 : place Tryd.prog 65 1 = some (1, 1) := by kernel_rfl
theorem Ty.place_65_10 : place Tryd.prog 65 10 = some (10, 1) := by kernel_rfl
theorem Ty.place_65_11 : place Tryd.prog 65 11 = some (11, 1) := by kernel_rfl
theorem Ty.place_65_12 : place Tryd.prog 65 12 = some (12, 1) := by kernel_rfl
theorem Ty.place_65_13 : place Tryd.prog 65 13 = some (13, 1) := by kernel_rfl
theorem Ty.place_65_14 : place Tryd.prog 65 14 = some (14, 1) := by kernel_rfl
theorem Ty.place_65_15 : place Tryd.prog 65 15 = some (15, 1) := by kernel_rfl
theorem Ty.place_65_16 : place Tryd.prog 65 16 = some (16, 1) := by kernel_rfl
theorem Ty.place_65_17 : place Tryd.prog 65 17 = some (17, 1) := by kernel_rfl
theorem Ty.place_65_18 : place Tryd.prog 65 18 = some (18, 1) := by kernel_rfl
theorem Ty.place_65_19 : place Tryd.prog 65 19 = some (19, 1) := by kernel_rfl
theorem Ty.place_65_2 : place Tryd.prog 65 2 = some (2, 1) := by kernel_rfl
theorem Ty.place_65_3 : place Tryd.prog 65 3 = some (3, 1) := by kernel_rfl
theorem Ty.place_65_4 : place Tryd.prog 65 4 = some (4, 1) := by kernel_rfl
theorem Ty.place_65_5 : place Tryd.prog 65 5 = some (5, 1) := by kernel_rfl
theorem Ty.place_65_6 : place Tryd.prog 65 6 = some (6, 1) := by kernel_rfl
theorem Ty.place_65_7 : place Tryd.prog 65 7 = some (7, 1) := by kernel_rfl
theorem Ty.place_65_8 : place Tryd.prog 65 8 = some (8, 1) := by kernel_rfl
theorem Ty.place_65_9 : place Tryd.prog 65 9 = some (9, 1) := by kernel_rfl
theorem Ty.place_70_0 : place Tryd.prog 70 0 = some (0, 1) := by kernel_rfl
theorem Ty.place_70_1 : place Tryd.prog 70 1 = some (1, 1) := by kernel_rfl
theorem Ty.place_70_10 : place Tryd.prog 70 10 = some (10, 1) := by kernel_rfl
theorem Ty.place_70_11 : place Tryd.prog 70 11 = some (11, 1) := by kernel_rfl
theorem Ty.place_70_12 : place Tryd.prog 70 12 = some (12, 1) := by kernel_rfl
theorem Ty.place_70_13 : place Tryd.prog 70 13 = some (13, 1) := by kernel_rfl
theorem Ty.place_70_14 : place Tryd.prog 70 14 = some (14, 1) := by kernel_rfl
theorem Ty.place_70_15 : place Tryd.prog 70 15 = some (15, 1) := by kernel_rfl
theorem Ty.place_70_16 : place Tryd.prog 70 16 = some (16, 1) := by kernel_rfl
theorem Ty.place_70_17 : place Tryd.prog 70 17 = some (17, 1) := by kernel_rfl
theorem Ty.place_70_18 : place Tryd.prog 70 18 = some (18, 1) := by kernel_rfl
theorem Ty.place_70_19 : place Tryd.prog 70 19 = some (19, 1) := by kernel_rfl
theorem Ty.place_70_2 : place Tryd.prog 70 2 = some (2, 1) := by kernel_rfl
theorem Ty.place_70_20 : place Tryd.prog 70 20 = some (20, 1) := by kernel_rfl
theorem Ty.place_70_21 : place Tryd.prog 70 21 = some (21, 1) := by kernel_rfl
theorem Ty.place_70_22 : place Tryd.prog 70 22 = some (22, 1) := by kernel_rfl
theorem Ty.place_70_23 : place Tryd.prog 70 23 = some (23, 1) := by kernel_rfl
theorem Ty.place_70_24 : place Tryd.prog 70 24 = some (24, 1) := by kernel_rfl
theorem Ty.place_70_25 : place Tryd.prog 70 25 = some (25, 1) := by kernel_rfl
theorem Ty.place_70_26 : place Tryd.prog 70 26 = some (26, 1) := by kernel_rfl
theorem Ty.place_70_27 : place Tryd.prog 70 27 = some (27, 1) := by kernel_rfl
theorem Ty.place_70_28 : place Tryd.prog 70 28 = some (28, 1) := by kernel_rfl
theorem Ty.place_70_29 : place Tryd.prog 70 29 = some (29, 1) := by kernel_rfl
theorem Ty.place_70_3 : place Tryd.prog 70 3 = some (3, 1) := by kernel_rfl
theorem Ty.place_70_30 : place Tryd.prog 70 30 = some (30, 1) := by kernel_rfl
theorem Ty.place_70_31 : place Tryd.prog 70 31 = some (31, 1) := by kernel_rfl
theorem Ty.place_70_4 : place Tryd.prog 70 4 = some (4, 1) := by kernel_rfl
theorem Ty.place_70_5 : place Tryd.prog 70 5 = some (5, 1) := by kernel_rfl
theorem Ty.place_70_6 : place Tryd.prog 70 6 = some (6, 1) := by kernel_rfl
theorem Ty.place_70_7 : place Tryd.prog 70 7 = some (7, 1) := by kernel_rfl
theorem Ty.place_70_8 : place Tryd.prog 70 8 = some (8, 1) := by kernel_rfl
theorem Ty.place_70_9 : place Tryd.prog 70 9 = some (9, 1) := by kernel_rfl
theorem Ty.place_71_0 : place Tryd.prog 71 0 = some (0, 1) := by kernel_rfl
theorem Ty.place_71_1 : place Tryd.prog 71 1 = some (1, 1) := by kernel_rfl
theorem Ty.place_71_10 : place Tryd.prog 71 10 = some (10, 1) := by kernel_rfl
theorem Ty.place_71_11 : place Tryd.prog 71 11 = some (11, 1) := by kernel_rfl
theorem Ty.place_71_12 : place Tryd.prog 71 12 = some (12, 1) := by kernel_rfl
theorem Ty.place_71_13 : place Tryd.prog 71 13 = some (13, 1) := by kernel_rfl
theorem Ty.place_71_14 : place Tryd.prog 71 14 = some (14, 1) := by kernel_rfl
theorem Ty.place_71_15 : place Tryd.prog 71 15 = some (15, 1) := by kernel_rfl
theorem Ty.place_71_16 : place Tryd.prog 71 16 = some (16, 1) := by kernel_rfl
theorem Ty.place_71_17 : place Tryd.prog 71 17 = some (17, 1) := by kernel_rfl
theorem Ty.place_71_18 : place Tryd.prog 71 18 = some (18, 1) := by kernel_rfl
theorem Ty.place_71_19 : place Tryd.prog 71 19 = some (19, 1) := by kernel_rfl
theorem Ty.place_71_2 : place Tryd.prog 71 2 = some (2, 1) := by kernel_rfl
theorem Ty.place_71_20 : place Tryd.prog 71 20 = some (20, 1) := by kernel_rfl
theorem Ty.place_71_21 : place Tryd.prog 71 21 = some (21, 1) := by kernel_rfl
theorem Ty.place_71_22 : place Tryd.prog 71 22 = some (22, 1) := by kernel_rfl
theorem Ty.place_71_23 : place Tryd.prog 71 23 = some (23, 1) := by kernel_rfl
theorem Ty.place_71_24 : place Tryd.prog 71 24 = some (24, 1) := by kernel_rfl
theorem Ty.place_71_25 : place Tryd.prog 71 25 = some (25, 1) := by kernel_rfl
theorem Ty.place_71_26 : place Tryd.prog 71 26 = some (26, 1) := by kernel_rfl
theorem Ty.place_71_27 : place Tryd.prog 71 27 = some (27, 1) := by kernel_rfl
theorem Ty.place_71_28 : place Tryd.prog 71 28 = some (28, 1) := by kernel_rfl
theorem Ty.place_71_29 : place Tryd.prog 71 29 = some (29, 1) := by kernel_rfl
theorem Ty.place_71_3 : place Tryd.prog 71 3 = some (3, 1) := by kernel_rfl
theorem Ty.place_71_30 : place Tryd.prog 71 30 = some (30, 1) := by kernel_rfl
theorem Ty.place_71_31 : place Tryd.prog 71 31 = some (31, 1) := by kernel_rfl
theorem Ty.place_71_32 : place Tryd.prog 71 32 = some (32, 1) := by kernel_rfl
theorem Ty.place_71_33 : place Tryd.prog 71 33 = some (33, 1) := by kernel_rfl
theorem Ty.place_71_34 : place Tryd.prog 71 34 = some (34, 1) := by kernel_rfl
theorem Ty.place_71_35 : place Tryd.prog 71 35 = some (35, 1) := by kernel_rfl
theorem Ty.place_71_36 : place Tryd.prog 71 36 = some (36, 1) := by kernel_rfl
theorem Ty.place_71_37 : place Tryd.prog 71 37 = some (37, 1) := by kernel_rfl
theorem Ty.place_71_38 : place Tryd.prog 71 38 = some (38, 1) := by kernel_rfl
theorem Ty.place_71_39 : place Tryd.prog 71 39 = some (39, 1) := by kernel_rfl
theorem Ty.place_71_4 : place Tryd.prog 71 4 = some (4, 1) := by kernel_rfl
theorem Ty.place_71_40 : place Tryd.prog 71 40 = some (40, 1) := by kernel_rfl
theorem Ty.place_71_41 : place Tryd.prog 71 41 = some (41, 1) := by kernel_rfl
theorem Ty.place_71_42 : place Tryd.prog 71 42 = some (42, 1) := by kernel_rfl
theorem Ty.place_71_43 : place Tryd.prog 71 43 = some (43, 1) := by kernel_rfl
theorem Ty.place_71_44 : place Tryd.prog 71 44 = some (44, 1) := by kernel_rfl
theorem Ty.place_71_45 : place Tryd.prog 71 45 = some (45, 1) := by kernel_rfl
theorem Ty.place_71_46 : place Tryd.prog 71 46 = some (46, 1) := by kernel_rfl
theorem Ty.place_71_47 : place Tryd.prog 71 47 = some (47, 1) := by kernel_rfl
theorem Ty.place_71_48 : place Tryd.prog 71 48 = some (48, 1) := by kernel_rfl
theorem Ty.place_71_49 : place Tryd.prog 71 49 = some (49, 1) := by kernel_rfl
theorem Ty.place_71_5 : place Tryd.prog 71 5 = some (5, 1) := by kernel_rfl
theorem Ty.place_71_50 : place Tryd.prog 71 50 = some (50, 1) := by kernel_rfl
theorem Ty.place_71_51 : place Tryd.prog 71 51 = some (51, 1) := by kernel_rfl
theorem Ty.place_71_52 : place Tryd.prog 71 52 = some (52, 1) := by kernel_rfl
theorem Ty.place_71_53 : place Tryd.prog 71 53 = some (53, 1) := by kernel_rfl
theorem Ty.place_71_54 : place Tryd.prog 71 54 = some (54, 1) := by kernel_rfl
theorem Ty.place_71_55 : place Tryd.prog 71 55 = some (55, 1) := by kernel_rfl
theorem Ty.place_71_56 : place Tryd.prog 71 56 = some (56, 1) := by kernel_rfl
theorem Ty.place_71_57 : place Tryd.prog 71 57 = some (57, 1) := by kernel_rfl
theorem Ty.place_71_58 : place Tryd.prog 71 58 = some (58, 1) := by kernel_rfl
theorem Ty.place_71_59 : place Tryd.prog 71 59 = some (59, 1) := by kernel_rfl
theorem Ty.place_71_6 : place Tryd.prog 71 6 = some (6, 1) := by kernel_rfl
theorem Ty.place_71_60 : place Tryd.prog 71 60 = some (60, 1) := by kernel_rfl
theorem Ty.place_71_61 : place Tryd.prog 71 61 = some (61, 1) := by kernel_rfl
theorem Ty.place_71_62 : place Tryd.prog 71 62 = some (62, 1) := by kernel_rfl
theorem Ty.place_71_63 : place Tryd.prog 71 63 = some (63, 1) := by kernel_rfl
theorem Ty.place_71_7 : place Tryd.prog 71 7 = some (7, 1) := by kernel_rfl
theorem Ty.place_71_8 : place Tryd.prog 71 8 = some (8, 1) := by kernel_rfl
theorem Ty.place_71_9 : place Tryd.prog 71 9 = some (9, 1) := by kernel_rfl
theorem Ty.sliceSz_47 : sliceSz Tryd.prog 47 = some 1 := by kernel_rfl
theorem Ty.sliceSz_48 : sliceSz Tryd.prog 48 = some 1 := by kernel_rfl
theorem Ty.structOk_65 : structOk Tryd.prog 65 = true := by kernel_rfl
theorem Ty.structOk_70 : structOk Tryd.prog 70 = true := by kernel_rfl
theorem Ty.structOk_71 : structOk Tryd.prog 71 = true := by kernel_rfl
theorem Ty.tk_3 : tk Tryd.prog 3 = some .one := by kernel_rfl
theorem Ty.tk_5 : tk Tryd.prog 5 = some .one := by kernel_rfl
theorem Ty.tk_59 : tk Tryd.prog 59 = some .one := by kernel_rfl
theorem Ty.tk_65 : tk Tryd.prog 65 = some (.agg 20) := by kernel_rfl
theorem Ty.tk_70 : tk Tryd.prog 70 = some (.agg 32) := by kernel_rfl
theorem Ty.tk_71 : tk Tryd.prog 71 = some (.agg 64) := by kernel_rfl
theorem Ty.tk_9 : tk Tryd.prog 9 = some .one := by kernel_rfl
attribute [push_cast] Ty.appSz_48 Ty.arrSz_58 Ty.arrSz_65 Ty.arrSz_66 Ty.arrSz_70 Ty.arrSz_71 Ty.arrTK_58 Ty.arrTK_65 Ty.arrTK_66 Ty.arrTK_70 Ty.arrTK_71 Ty.azero_3 Ty.azero_58 Ty.azero_65 Ty.azero_66 Ty.azero_70 Ty.azero_71 Ty.conc_9 Ty.eqTop_4 Ty.intT_3 Ty.intT_37 Ty.intT_5 Ty.intT_54 Ty.intT_59 Ty.isBytesT_48 Ty.isMapT_43 Ty.isSliceT_47 Ty.isSliceT_48 Ty.isStrT_9 Ty.known_2 Ty.known_21 Ty.known_3 Ty.known_34 Ty.known_37 Ty.known_5 Ty.known_54 Ty.known_59 Ty.litSz_47 Ty.litSz_48 Ty.mapT_43 Ty.place_65_0 Ty.place_65_1 Ty.place_65_10 Ty.place_65_11 Ty.place_65_12 Ty.place_65_13 Ty.place_65_14 Ty.place_65_15 Ty.place_65_16 Ty.place_65_17 Ty.place_65_18 Ty.place_65_19 Ty.place_65_2 Ty.place_65_3 Ty.place_65_4 Ty.place_65_5 Ty.place_65_6 Ty.place_65_7 Ty.place_65_8 Ty.place_65_9 Ty.place_70_0 Ty.place_70_1 Ty.place_70_10 Ty.place_70_11 Ty.place_70_12 Ty.place_70_13 Ty.place_70_14 Ty.place_70_15 Ty.place_70_16 Ty.place_70_17 Ty.place_70_18 Ty.place_70_19 Ty.place_70_2 Ty.place_70_20 Ty.place_70_21 Ty.place_70_22 Ty.place_70_23 Ty.place_70_24 Ty.place_70_25 Ty.place_70_26 Ty.place_70_27 Ty.place_70_28 Ty.place_70_29 Ty.place_70_3 Ty.place_70_30 Ty.place_70_31 Ty.place_70_4 Ty.place_70_5 Ty.place_70_6 Ty.place_70_7 Ty.place_70_8 Ty.place_70_9 Ty.place_71_0 Ty.place_71_1 Ty.place_71_10 Ty.place_71_11 Ty.place_71_12 Ty.place_71_13 Ty.place_71_14 Ty.place_71_15 Ty.place_71_16 Ty.place_71_17 Ty.place_71_18 Ty.place_71_19 Ty.place_71_2 Ty.place_71_20 Ty.place_71_21 Ty.place_71_22 Ty.place_71_23 Ty.place_71_24 Ty.place_71_25 Ty.place_71_26 Ty.place_71_27 Ty.place_71_28 Ty.place_71_29 Ty.place_71_3 Ty.place_71_30 Ty.place_71_31 Ty.place_71_32 Ty.place_71_33 Ty.place_71_34 Ty.place_71_35 Ty.place_71_36 Ty.place_71_37 Ty.place_71_38 Ty.place_71_39 Ty.place_71_4 Ty.place_71_40 Ty.place_71_41 Ty.place_71_42 Ty.place_71_43 Ty.place_71_44 Ty.place_71_45 Ty.place_71_46 Ty.place_71_47 Ty.place_71_48 Ty.place_71_49 Ty.place_71_5 Ty.place_71_50 Ty.place_71_51 Ty.place_71_52 Ty.place_71_53 Ty.place_71_54 Ty.place_71_55 Ty.place_71_56 Ty.place_71_57 Ty.place_71_58 Ty.place_71_59 Ty.place_71_6 Ty.place_71_60 Ty.place_71_61 Ty.place_71_62 Ty.place_71_63 Ty.place_71_7 Ty.place_71_8 Ty.place_71_9 Ty.sliceSz_47 Ty.sliceSz_48 Ty.structOk_65 Ty.structOk_70 Ty.structOk_71 Ty.tk_3 Ty.tk_5 Ty.tk_59 Ty.tk_65 Ty.tk_70 Ty.tk_71 Ty.tk_9
end Go.Proofs.YtlkpgpdhohnncaaDoor
