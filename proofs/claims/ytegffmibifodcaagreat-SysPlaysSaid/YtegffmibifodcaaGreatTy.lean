import Derived.Test.YtegffmibifodcaaGreatFc
import Derived.Test.YtegffmibifodcaaGreatProg
import Derived.KernelRfl
/-
  What the program's own tables say of its types, as the framework asks it (by a program of this session's own).
-/
set_option linter.unusedVariables false
set_option linter.unusedSimpArgs false
namespace Go.Proofs.YtegffmibifodcaaGreat
open Go.Ab
theorem Ty.appSz_102:appSz Tryz.prog 102=some (1,8):=by kernel_rfl
theorem Ty.appSz_30:appSz Tryz.prog 30=some (3,40):=by kernel_rfl
theorem Ty.appSz_31:appSz Tryz.prog 31=some (1,8):=by kernel_rfl
theorem Ty.appSz_39:appSz Tryz.prog 39=some (5,72):=by kernel_rfl
theorem Ty.appSz_46:appSz Tryz.prog 46=some (1,1):=by kernel_rfl
theorem Ty.appSz_54:appSz Tryz.prog 54=some (1,16):=by kernel_rfl
theorem Ty.appSz_78:appSz Tryz.prog 78=some (2,24):=by kernel_rfl
theorem Ty.arrSz_118:arrSz Tryz.prog 118=some (3,4):=by kernel_rfl
theorem Ty.arrSz_139:arrSz Tryz.prog 139=some (24,7):=by kernel_rfl
theorem Ty.arrSz_282:arrSz Tryz.prog 282=some (256,1):=by kernel_rfl
theorem Ty.arrTK_118:arrTK Tryz.prog 118=some (.agg 4):=by kernel_rfl
theorem Ty.azero_100:azero Tryz.prog 100=some (.agg [.int .i64 0,.int .i64 0,.int .i64 0,.int .i64 0,.str [],.slice [] .full,.slice [] .full,.str []]):=by kernel_rfl
theorem Ty.azero_104:azero Tryz.prog 104=some (.agg [.raw (.pointer none),.slice [] .full]):=by kernel_rfl
theorem Ty.azero_108:azero Tryz.prog 108=some (.raw .nilFunc):=by kernel_rfl
theorem Ty.azero_120:azero Tryz.prog 120=some (.agg [.int .i64 0,.int .i64 0,.slice [] .full,.int .i64 0,.int .i64 0,.int .i64 0,.bool false,.bool false,.int .i64 0,.int .i64 0,.bool false,.bool false,.int .i64 0,.int .i64 0,.bool false,.bool false]):=by kernel_rfl
theorem Ty.azero_129:azero Tryz.prog 129=some (.agg [.str [],.int .i64 0]):=by kernel_rfl
theorem Ty.azero_191:azero Tryz.prog 191=some (.agg [.int .i64 0,.str [],.int .i64 0]):=by kernel_rfl
theorem Ty.azero_208:azero Tryz.prog 208=some (.agg [.int .i64 0,.str [],.int .i64 0,.int .i64 0,.int .i64 0,.int .i64 0,.int .i64 0,.slice [] .full,.slice [] .full,.str [],.int .i64 0,.int .i64 0,.int .i64 0,.int .i64 0,.slice [] .full,.slice [] .full,.str []]):=by kernel_rfl
theorem Ty.azero_216:azero Tryz.prog 216=some (.agg [.int .i64 0,.str [],.int .i64 0]):=by kernel_rfl
theorem Ty.azero_255:azero Tryz.prog 255=some (.agg [.slice [] .full,.int .i64 0,.int .i64 0,.bool false,.int .i64 0,.str [],.int .i64 0,.int .i64 0]):=by kernel_rfl
theorem Ty.azero_3:azero Tryz.prog 3=some (.int .i64 0):=by kernel_rfl
theorem Ty.azero_304:azero Tryz.prog 304=some (.agg [.int .i64 0,.int .i64 0]):=by kernel_rfl
theorem Ty.azero_33:azero Tryz.prog 33=some (.agg [.int .i64 0,.int .i64 0,.slice [] .full]):=by kernel_rfl
theorem Ty.azero_35:azero Tryz.prog 35=some (.agg [.int .i64 0,.int .i64 0,.slice [] .full]):=by kernel_rfl
theorem Ty.azero_38:azero Tryz.prog 38=some (.agg [.slice [] .full]):=by kernel_rfl
theorem Ty.azero_41:azero Tryz.prog 41=some (.agg [.slice [] .full,.slice [] .full]):=by kernel_rfl
theorem Ty.azero_48:azero Tryz.prog 48=some (.agg [.int .i64 0,.str [],.str [],.int .i64 0,.int .i64 0,.slice [] .full]):=by kernel_rfl
theorem Ty.azero_53:azero Tryz.prog 53=some (.agg [.int .i64 0,.int .i64 0,.int .i64 0,.int .i64 0,.int .i64 0,.int .i64 0,.int .i64 0]):=by kernel_rfl
theorem Ty.azero_54:azero Tryz.prog 54=some (.slice [] .full):=by kernel_rfl
theorem Ty.azero_56:azero Tryz.prog 56=some (.agg [.int .i64 0,.int .i64 0,.int .i64 0,.int .i64 0,.int .i64 0,.int .i64 0,.int .i64 0,.int .i64 0,.int .i64 0,.str [],.slice [] .full,.slice [] .full]):=by kernel_rfl
theorem Ty.azero_59:azero Tryz.prog 59=some (.agg [.int .i64 0,.int .i64 0,.int .i64 0,.int .i64 0,.int .i64 0,.int .i64 0,.int .i64 0,.int .i64 0,.int .i64 0,.str [],.slice [] .full,.str []]):=by kernel_rfl
theorem Ty.azero_63:azero Tryz.prog 63=some (.agg [.int .i64 0,.str [],.str [],.int .i64 0,.int .i64 0,.str []]):=by kernel_rfl
theorem Ty.azero_70:azero Tryz.prog 70=some (.agg [.int .i64 0,.int .i64 0,.bool false,.bool false]):=by kernel_rfl
theorem Ty.azero_73:azero Tryz.prog 73=some (.agg [.int .i64 0,.int .i64 0,.slice [] .full,.int .i64 0,.slice [] .full]):=by kernel_rfl
theorem Ty.azero_74:azero Tryz.prog 74=some (.agg [.int .i64 0,.int .i64 0,.bool false,.bool false]):=by kernel_rfl
theorem Ty.azero_80:azero Tryz.prog 80=some (.agg [.int .i64 0,.int .i64 0,.int .i64 0,.int .i64 0,.slice [] .full,.slice [] .full,.str []]):=by kernel_rfl
theorem Ty.azero_91:azero Tryz.prog 91=some (.agg [.int .i64 0,.int .i64 0,.int .i64 0,.int .i64 0,.int .i64 0,.str [],.slice [] .full,.str [],.int .i64 0]):=by kernel_rfl
theorem Ty.eqTop_105:eqTop Tryz.prog 105=some (.ptr):=by kernel_rfl
theorem Ty.eqTop_121:eqTop Tryz.prog 121=some (.ptr):=by kernel_rfl
theorem Ty.eqTop_123:eqTop Tryz.prog 123=some (.ptr):=by kernel_rfl
theorem Ty.eqTop_26:eqTop Tryz.prog 26=some (.ptr):=by kernel_rfl
theorem Ty.eqTop_4:eqTop Tryz.prog 4=some (.bool):=by kernel_rfl
theorem Ty.eqTop_44:eqTop Tryz.prog 44=some (.ptr):=by kernel_rfl
theorem Ty.eqTop_53:eqTop Tryz.prog 53=some (.strukt (.cons 0 .one .int (.cons 1 .one .int (.cons 2 .one .int (.cons 3 .one .int (.cons 4 .one .int (.cons 5 .one .int (.cons 6 .one .int .nil)))))))):=by kernel_rfl
theorem Ty.eqTop_74:eqTop Tryz.prog 74=some (.strukt (.cons 0 .one .int (.cons 1 .one .int (.cons 2 .one .bool (.cons 3 .one .bool .nil))))):=by kernel_rfl
theorem Ty.fldOff_100_0:fldOff Tryz.prog 100 0=some 0:=by kernel_rfl
theorem Ty.fldOff_100_1:fldOff Tryz.prog 100 1=some 1:=by kernel_rfl
theorem Ty.fldOff_100_2:fldOff Tryz.prog 100 2=some 2:=by kernel_rfl
theorem Ty.fldOff_100_3:fldOff Tryz.prog 100 3=some 3:=by kernel_rfl
theorem Ty.fldOff_100_4:fldOff Tryz.prog 100 4=some 4:=by kernel_rfl
theorem Ty.fldOff_100_5:fldOff Tryz.prog 100 5=some 5:=by kernel_rfl
theorem Ty.fldOff_100_6:fldOff Tryz.prog 100 6=some 6:=by kernel_rfl
theorem Ty.fldOff_100_7:fldOff Tryz.prog 100 7=some 7:=by kernel_rfl
theorem Ty.fldOff_104_0:fldOff Tryz.prog 104 0=some 0:=by kernel_rfl
theorem Ty.fldOff_104_1:fldOff Tryz.prog 104 1=some 1:=by kernel_rfl
theorem Ty.fldOff_120_0:fldOff Tryz.prog 120 0=some 0:=by kernel_rfl
theorem Ty.fldOff_120_1:fldOff Tryz.prog 120 1=some 3:=by kernel_rfl
theorem Ty.fldOff_120_2:fldOff Tryz.prog 120 2=some 4:=by kernel_rfl
theorem Ty.fldOff_129_0:fldOff Tryz.prog 129 0=some 0:=by kernel_rfl
theorem Ty.fldOff_129_1:fldOff Tryz.prog 129 1=some 1:=by kernel_rfl
theorem Ty.fldOff_141_0:fldOff Tryz.prog 141 0=some 0:=by kernel_rfl
theorem Ty.fldOff_141_1:fldOff Tryz.prog 141 1=some 1:=by kernel_rfl
theorem Ty.fldOff_191_0:fldOff Tryz.prog 191 0=some 0:=by kernel_rfl
theorem Ty.fldOff_191_1:fldOff Tryz.prog 191 1=some 1:=by kernel_rfl
theorem Ty.fldOff_191_2:fldOff Tryz.prog 191 2=some 2:=by kernel_rfl
theorem Ty.fldOff_208_0:fldOff Tryz.prog 208 0=some 0:=by kernel_rfl
theorem Ty.fldOff_208_1:fldOff Tryz.prog 208 1=some 3:=by kernel_rfl
theorem Ty.fldOff_208_2:fldOff Tryz.prog 208 2=some 10:=by kernel_rfl
theorem Ty.fldOff_216_0:fldOff Tryz.prog 216 0=some 0:=by kernel_rfl
theorem Ty.fldOff_216_1:fldOff Tryz.prog 216 1=some 1:=by kernel_rfl
theorem Ty.fldOff_216_2:fldOff Tryz.prog 216 2=some 2:=by kernel_rfl
theorem Ty.fldOff_255_0:fldOff Tryz.prog 255 0=some 0:=by kernel_rfl
theorem Ty.fldOff_255_1:fldOff Tryz.prog 255 1=some 1:=by kernel_rfl
theorem Ty.fldOff_255_2:fldOff Tryz.prog 255 2=some 2:=by kernel_rfl
theorem Ty.fldOff_255_3:fldOff Tryz.prog 255 3=some 3:=by kernel_rfl
theorem Ty.fldOff_255_4:fldOff Tryz.prog 255 4=some 4:=by kernel_rfl
theorem Ty.fldOff_255_5:fldOff Tryz.prog 255 5=some 7:=by kernel_rfl
theorem Ty.fldOff_304_0:fldOff Tryz.prog 304 0=some 0:=by kernel_rfl
theorem Ty.fldOff_304_1:fldOff Tryz.prog 304 1=some 1:=by kernel_rfl
theorem Ty.fldOff_33_0:fldOff Tryz.prog 33 0=some 0:=by kernel_rfl
theorem Ty.fldOff_33_1:fldOff Tryz.prog 33 1=some 1:=by kernel_rfl
theorem Ty.fldOff_33_2:fldOff Tryz.prog 33 2=some 2:=by kernel_rfl
theorem Ty.fldOff_35_0:fldOff Tryz.prog 35 0=some 0:=by kernel_rfl
theorem Ty.fldOff_35_1:fldOff Tryz.prog 35 1=some 1:=by kernel_rfl
theorem Ty.fldOff_35_2:fldOff Tryz.prog 35 2=some 2:=by kernel_rfl
theorem Ty.fldOff_38_0:fldOff Tryz.prog 38 0=some 0:=by kernel_rfl
theorem Ty.fldOff_41_0:fldOff Tryz.prog 41 0=some 0:=by kernel_rfl
theorem Ty.fldOff_41_1:fldOff Tryz.prog 41 1=some 1:=by kernel_rfl
theorem Ty.fldOff_48_0:fldOff Tryz.prog 48 0=some 0:=by kernel_rfl
theorem Ty.fldOff_48_1:fldOff Tryz.prog 48 1=some 1:=by kernel_rfl
theorem Ty.fldOff_48_2:fldOff Tryz.prog 48 2=some 2:=by kernel_rfl
theorem Ty.fldOff_48_3:fldOff Tryz.prog 48 3=some 3:=by kernel_rfl
theorem Ty.fldOff_48_4:fldOff Tryz.prog 48 4=some 4:=by kernel_rfl
theorem Ty.fldOff_48_5:fldOff Tryz.prog 48 5=some 5:=by kernel_rfl
theorem Ty.fldOff_50_0:fldOff Tryz.prog 50 0=some 0:=by kernel_rfl
theorem Ty.fldOff_50_1:fldOff Tryz.prog 50 1=some 1:=by kernel_rfl
theorem Ty.fldOff_53_0:fldOff Tryz.prog 53 0=some 0:=by kernel_rfl
theorem Ty.fldOff_53_1:fldOff Tryz.prog 53 1=some 1:=by kernel_rfl
theorem Ty.fldOff_53_3:fldOff Tryz.prog 53 3=some 3:=by kernel_rfl
theorem Ty.fldOff_53_4:fldOff Tryz.prog 53 4=some 4:=by kernel_rfl
theorem Ty.fldOff_56_0:fldOff Tryz.prog 56 0=some 0:=by kernel_rfl
theorem Ty.fldOff_56_1:fldOff Tryz.prog 56 1=some 1:=by kernel_rfl
theorem Ty.fldOff_56_2:fldOff Tryz.prog 56 2=some 2:=by kernel_rfl
theorem Ty.fldOff_56_3:fldOff Tryz.prog 56 3=some 9:=by kernel_rfl
theorem Ty.fldOff_56_4:fldOff Tryz.prog 56 4=some 10:=by kernel_rfl
theorem Ty.fldOff_56_5:fldOff Tryz.prog 56 5=some 11:=by kernel_rfl
theorem Ty.fldOff_59_0:fldOff Tryz.prog 59 0=some 0:=by kernel_rfl
theorem Ty.fldOff_59_1:fldOff Tryz.prog 59 1=some 1:=by kernel_rfl
theorem Ty.fldOff_59_2:fldOff Tryz.prog 59 2=some 2:=by kernel_rfl
theorem Ty.fldOff_59_3:fldOff Tryz.prog 59 3=some 9:=by kernel_rfl
theorem Ty.fldOff_59_4:fldOff Tryz.prog 59 4=some 10:=by kernel_rfl
theorem Ty.fldOff_59_5:fldOff Tryz.prog 59 5=some 11:=by kernel_rfl
theorem Ty.fldOff_63_0:fldOff Tryz.prog 63 0=some 0:=by kernel_rfl
theorem Ty.fldOff_63_1:fldOff Tryz.prog 63 1=some 1:=by kernel_rfl
theorem Ty.fldOff_63_2:fldOff Tryz.prog 63 2=some 2:=by kernel_rfl
theorem Ty.fldOff_63_3:fldOff Tryz.prog 63 3=some 3:=by kernel_rfl
theorem Ty.fldOff_63_4:fldOff Tryz.prog 63 4=some 4:=by kernel_rfl
theorem Ty.fldOff_63_5:fldOff Tryz.prog 63 5=some 5:=by kernel_rfl
theorem Ty.fldOff_70_0:fldOff Tryz.prog 70 0=some 0:=by kernel_rfl
theorem Ty.fldOff_70_1:fldOff Tryz.prog 70 1=some 1:=by kernel_rfl
theorem Ty.fldOff_70_2:fldOff Tryz.prog 70 2=some 2:=by kernel_rfl
theorem Ty.fldOff_70_3:fldOff Tryz.prog 70 3=some 3:=by kernel_rfl
theorem Ty.fldOff_73_0:fldOff Tryz.prog 73 0=some 0:=by kernel_rfl
theorem Ty.fldOff_73_1:fldOff Tryz.prog 73 1=some 3:=by kernel_rfl
theorem Ty.fldOff_73_2:fldOff Tryz.prog 73 2=some 4:=by kernel_rfl
theorem Ty.fldOff_74_0:fldOff Tryz.prog 74 0=some 0:=by kernel_rfl
theorem Ty.fldOff_74_1:fldOff Tryz.prog 74 1=some 1:=by kernel_rfl
theorem Ty.fldOff_74_2:fldOff Tryz.prog 74 2=some 2:=by kernel_rfl
theorem Ty.fldOff_74_3:fldOff Tryz.prog 74 3=some 3:=by kernel_rfl
theorem Ty.fldOff_80_0:fldOff Tryz.prog 80 0=some 0:=by kernel_rfl
theorem Ty.fldOff_80_1:fldOff Tryz.prog 80 1=some 1:=by kernel_rfl
theorem Ty.fldOff_80_2:fldOff Tryz.prog 80 2=some 2:=by kernel_rfl
theorem Ty.fldOff_80_3:fldOff Tryz.prog 80 3=some 3:=by kernel_rfl
theorem Ty.fldOff_80_4:fldOff Tryz.prog 80 4=some 4:=by kernel_rfl
theorem Ty.fldOff_80_5:fldOff Tryz.prog 80 5=some 5:=by kernel_rfl
theorem Ty.fldOff_80_6:fldOff Tryz.prog 80 6=some 6:=by kernel_rfl
theorem Ty.fldOff_91_0:fldOff Tryz.prog 91 0=some 0:=by kernel_rfl
theorem Ty.fldOff_91_1:fldOff Tryz.prog 91 1=some 1:=by kernel_rfl
theorem Ty.fldOff_91_2:fldOff Tryz.prog 91 2=some 2:=by kernel_rfl
theorem Ty.fldOff_91_3:fldOff Tryz.prog 91 3=some 3:=by kernel_rfl
theorem Ty.fldOff_91_4:fldOff Tryz.prog 91 4=some 4:=by kernel_rfl
theorem Ty.fldOff_91_5:fldOff Tryz.prog 91 5=some 5:=by kernel_rfl
theorem Ty.fldOff_91_6:fldOff Tryz.prog 91 6=some 6:=by kernel_rfl
theorem Ty.fldOff_91_7:fldOff Tryz.prog 91 7=some 7:=by kernel_rfl
theorem Ty.fldOff_91_8:fldOff Tryz.prog 91 8=some 8:=by kernel_rfl
theorem Ty.fldTK_100_0:fldTK Tryz.prog 100 0=some (0,.one):=by kernel_rfl
theorem Ty.fldTK_100_2:fldTK Tryz.prog 100 2=some (2,.one):=by kernel_rfl
theorem Ty.fldTK_100_5:fldTK Tryz.prog 100 5=some (5,.one):=by kernel_rfl
theorem Ty.fldTK_100_7:fldTK Tryz.prog 100 7=some (7,.one):=by kernel_rfl
theorem Ty.fldTK_56_0:fldTK Tryz.prog 56 0=some (0,.one):=by kernel_rfl
theorem Ty.intT_272:intT Tryz.prog 272=some .u64:=by kernel_rfl
theorem Ty.intT_3:intT Tryz.prog 3=some .i64:=by kernel_rfl
theorem Ty.intT_5:intT Tryz.prog 5=some .u8:=by kernel_rfl
theorem Ty.intT_9:intT Tryz.prog 9=none:=by kernel_rfl
theorem Ty.isBytesT_46:isBytesT Tryz.prog 46=true:=by kernel_rfl
theorem Ty.isSliceT_102:isSliceT Tryz.prog 102=true:=by kernel_rfl
theorem Ty.isSliceT_22:isSliceT Tryz.prog 22=true:=by kernel_rfl
theorem Ty.isSliceT_23:isSliceT Tryz.prog 23=true:=by kernel_rfl
theorem Ty.isSliceT_24:isSliceT Tryz.prog 24=true:=by kernel_rfl
theorem Ty.isSliceT_273:isSliceT Tryz.prog 273=true:=by kernel_rfl
theorem Ty.isSliceT_30:isSliceT Tryz.prog 30=true:=by kernel_rfl
theorem Ty.isSliceT_302:isSliceT Tryz.prog 302=true:=by kernel_rfl
theorem Ty.isSliceT_31:isSliceT Tryz.prog 31=true:=by kernel_rfl
theorem Ty.isSliceT_36:isSliceT Tryz.prog 36=true:=by kernel_rfl
theorem Ty.isSliceT_39:isSliceT Tryz.prog 39=true:=by kernel_rfl
theorem Ty.isSliceT_46:isSliceT Tryz.prog 46=true:=by kernel_rfl
theorem Ty.isSliceT_54:isSliceT Tryz.prog 54=true:=by kernel_rfl
theorem Ty.isSliceT_71:isSliceT Tryz.prog 71=true:=by kernel_rfl
theorem Ty.isSliceT_78:isSliceT Tryz.prog 78=true:=by kernel_rfl
theorem Ty.isStrT_9:isStrT Tryz.prog 9=true:=by kernel_rfl
theorem Ty.known_21:known Tryz.prog 21=true:=by kernel_rfl
theorem Ty.known_299:known Tryz.prog 299=true:=by kernel_rfl
theorem Ty.known_3:known Tryz.prog 3=true:=by kernel_rfl
theorem Ty.known_5:known Tryz.prog 5=true:=by kernel_rfl
theorem Ty.litSz_102:litSz Tryz.prog 102=some 1:=by kernel_rfl
theorem Ty.litSz_22:litSz Tryz.prog 22=some 9:=by kernel_rfl
theorem Ty.litSz_23:litSz Tryz.prog 23=some 3:=by kernel_rfl
theorem Ty.litSz_273:litSz Tryz.prog 273=some 1:=by kernel_rfl
theorem Ty.litSz_30:litSz Tryz.prog 30=some 3:=by kernel_rfl
theorem Ty.litSz_302:litSz Tryz.prog 302=some 2:=by kernel_rfl
theorem Ty.litSz_31:litSz Tryz.prog 31=some 1:=by kernel_rfl
theorem Ty.litSz_39:litSz Tryz.prog 39=some 5:=by kernel_rfl
theorem Ty.litSz_46:litSz Tryz.prog 46=some 1:=by kernel_rfl
theorem Ty.litSz_54:litSz Tryz.prog 54=some 1:=by kernel_rfl
theorem Ty.litSz_78:litSz Tryz.prog 78=some 2:=by kernel_rfl
theorem Ty.makeT_302:makeT Tryz.prog 302=some (2,16,[.int .i64 0,.int .i64 0],true):=by kernel_rfl
theorem Ty.makeT_36:makeT Tryz.prog 36=some (8,112,[.int .i64 0,.int .i64 0,.int .i64 0,.int .i64 0,.str [],.slice [] .full,.slice [] .full,.str []],true):=by kernel_rfl
theorem Ty.makeT_46:makeT Tryz.prog 46=some (1,1,[.int .u8 0],false):=by kernel_rfl
theorem Ty.makeT_54:makeT Tryz.prog 54=some (1,16,[.str []],false):=by kernel_rfl
theorem Ty.makeT_71:makeT Tryz.prog 71=some (4,24,[.int .i64 0,.int .i64 0,.bool false,.bool false],true):=by kernel_rfl
theorem Ty.makeT_78:makeT Tryz.prog 78=some (2,24,[.str [],.int .i64 0],true):=by kernel_rfl
theorem Ty.mapT_110:mapT Tryz.prog 110=some (.int .i64,108):=by kernel_rfl
theorem Ty.place_100_0:place Tryz.prog 100 0=some (0,1):=by kernel_rfl
theorem Ty.place_100_1:place Tryz.prog 100 1=some (1,1):=by kernel_rfl
theorem Ty.place_100_2:place Tryz.prog 100 2=some (2,1):=by kernel_rfl
theorem Ty.place_100_3:place Tryz.prog 100 3=some (3,1):=by kernel_rfl
theorem Ty.place_100_4:place Tryz.prog 100 4=some (4,1):=by kernel_rfl
theorem Ty.place_100_7:place Tryz.prog 100 7=some (7,1):=by kernel_rfl
theorem Ty.place_104_0:place Tryz.prog 104 0=some (0,1):=by kernel_rfl
theorem Ty.place_120_0:place Tryz.prog 120 0=some (0,3):=by kernel_rfl
theorem Ty.place_120_1:place Tryz.prog 120 1=some (3,1):=by kernel_rfl
theorem Ty.place_129_0:place Tryz.prog 129 0=some (0,1):=by kernel_rfl
theorem Ty.place_129_1:place Tryz.prog 129 1=some (1,1):=by kernel_rfl
theorem Ty.place_141_0:place Tryz.prog 141 0=some (0,1):=by kernel_rfl
theorem Ty.place_191_0:place Tryz.prog 191 0=some (0,1):=by kernel_rfl
theorem Ty.place_191_1:place Tryz.prog 191 1=some (1,1):=by kernel_rfl
theorem Ty.place_191_2:place Tryz.prog 191 2=some (2,1):=by kernel_rfl
theorem Ty.place_208_0:place Tryz.prog 208 0=some (0,3):=by kernel_rfl
theorem Ty.place_216_0:place Tryz.prog 216 0=some (0,1):=by kernel_rfl
theorem Ty.place_216_1:place Tryz.prog 216 1=some (1,1):=by kernel_rfl
theorem Ty.place_216_2:place Tryz.prog 216 2=some (2,1):=by kernel_rfl
theorem Ty.place_255_0:place Tryz.prog 255 0=some (0,1):=by kernel_rfl
theorem Ty.place_255_1:place Tryz.prog 255 1=some (1,1):=by kernel_rfl
theorem Ty.place_255_3:place Tryz.prog 255 3=some (3,1):=by kernel_rfl
theorem Ty.place_255_4:place Tryz.prog 255 4=some (4,3):=by kernel_rfl
theorem Ty.place_255_5:place Tryz.prog 255 5=some (7,1):=by kernel_rfl
theorem Ty.place_304_0:place Tryz.prog 304 0=some (0,1):=by kernel_rfl
theorem Ty.place_304_1:place Tryz.prog 304 1=some (1,1):=by kernel_rfl
theorem Ty.place_33_0:place Tryz.prog 33 0=some (0,1):=by kernel_rfl
theorem Ty.place_33_1:place Tryz.prog 33 1=some (1,1):=by kernel_rfl
theorem Ty.place_33_2:place Tryz.prog 33 2=some (2,1):=by kernel_rfl
theorem Ty.place_35_0:place Tryz.prog 35 0=some (0,1):=by kernel_rfl
theorem Ty.place_35_1:place Tryz.prog 35 1=some (1,1):=by kernel_rfl
theorem Ty.place_38_0:place Tryz.prog 38 0=some (0,1):=by kernel_rfl
theorem Ty.place_41_0:place Tryz.prog 41 0=some (0,1):=by kernel_rfl
theorem Ty.place_41_1:place Tryz.prog 41 1=some (1,1):=by kernel_rfl
theorem Ty.place_48_0:place Tryz.prog 48 0=some (0,1):=by kernel_rfl
theorem Ty.place_48_1:place Tryz.prog 48 1=some (1,1):=by kernel_rfl
theorem Ty.place_48_3:place Tryz.prog 48 3=some (3,1):=by kernel_rfl
theorem Ty.place_48_4:place Tryz.prog 48 4=some (4,1):=by kernel_rfl
theorem Ty.place_53_0:place Tryz.prog 53 0=some (0,1):=by kernel_rfl
theorem Ty.place_53_1:place Tryz.prog 53 1=some (1,1):=by kernel_rfl
theorem Ty.place_53_2:place Tryz.prog 53 2=some (2,1):=by kernel_rfl
theorem Ty.place_53_3:place Tryz.prog 53 3=some (3,1):=by kernel_rfl
theorem Ty.place_53_4:place Tryz.prog 53 4=some (4,1):=by kernel_rfl
theorem Ty.place_53_5:place Tryz.prog 53 5=some (5,1):=by kernel_rfl
theorem Ty.place_53_6:place Tryz.prog 53 6=some (6,1):=by kernel_rfl
theorem Ty.place_56_0:place Tryz.prog 56 0=some (0,1):=by kernel_rfl
theorem Ty.place_56_1:place Tryz.prog 56 1=some (1,1):=by kernel_rfl
theorem Ty.place_56_5:place Tryz.prog 56 5=some (11,1):=by kernel_rfl
theorem Ty.place_59_0:place Tryz.prog 59 0=some (0,1):=by kernel_rfl
theorem Ty.place_59_1:place Tryz.prog 59 1=some (1,1):=by kernel_rfl
theorem Ty.place_59_5:place Tryz.prog 59 5=some (11,1):=by kernel_rfl
theorem Ty.place_63_0:place Tryz.prog 63 0=some (0,1):=by kernel_rfl
theorem Ty.place_63_1:place Tryz.prog 63 1=some (1,1):=by kernel_rfl
theorem Ty.place_63_2:place Tryz.prog 63 2=some (2,1):=by kernel_rfl
theorem Ty.place_63_3:place Tryz.prog 63 3=some (3,1):=by kernel_rfl
theorem Ty.place_63_4:place Tryz.prog 63 4=some (4,1):=by kernel_rfl
theorem Ty.place_63_5:place Tryz.prog 63 5=some (5,1):=by kernel_rfl
theorem Ty.place_70_0:place Tryz.prog 70 0=some (0,1):=by kernel_rfl
theorem Ty.place_70_2:place Tryz.prog 70 2=some (2,1):=by kernel_rfl
theorem Ty.place_70_3:place Tryz.prog 70 3=some (3,1):=by kernel_rfl
theorem Ty.place_73_0:place Tryz.prog 73 0=some (0,3):=by kernel_rfl
theorem Ty.place_73_1:place Tryz.prog 73 1=some (3,1):=by kernel_rfl
theorem Ty.place_73_2:place Tryz.prog 73 2=some (4,1):=by kernel_rfl
theorem Ty.place_74_0:place Tryz.prog 74 0=some (0,1):=by kernel_rfl
theorem Ty.place_74_2:place Tryz.prog 74 2=some (2,1):=by kernel_rfl
theorem Ty.place_74_3:place Tryz.prog 74 3=some (3,1):=by kernel_rfl
theorem Ty.place_80_0:place Tryz.prog 80 0=some (0,1):=by kernel_rfl
theorem Ty.place_80_1:place Tryz.prog 80 1=some (1,1):=by kernel_rfl
theorem Ty.place_80_2:place Tryz.prog 80 2=some (2,1):=by kernel_rfl
theorem Ty.place_80_3:place Tryz.prog 80 3=some (3,1):=by kernel_rfl
theorem Ty.place_80_4:place Tryz.prog 80 4=some (4,1):=by kernel_rfl
theorem Ty.place_80_6:place Tryz.prog 80 6=some (6,1):=by kernel_rfl
theorem Ty.place_91_0:place Tryz.prog 91 0=some (0,1):=by kernel_rfl
theorem Ty.place_91_1:place Tryz.prog 91 1=some (1,1):=by kernel_rfl
theorem Ty.place_91_2:place Tryz.prog 91 2=some (2,1):=by kernel_rfl
theorem Ty.place_91_3:place Tryz.prog 91 3=some (3,1):=by kernel_rfl
theorem Ty.place_91_4:place Tryz.prog 91 4=some (4,1):=by kernel_rfl
theorem Ty.place_91_5:place Tryz.prog 91 5=some (5,1):=by kernel_rfl
theorem Ty.place_91_6:place Tryz.prog 91 6=some (6,1):=by kernel_rfl
theorem Ty.place_91_7:place Tryz.prog 91 7=some (7,1):=by kernel_rfl
theorem Ty.sliceSz_102:sliceSz Tryz.prog 102=some 1:=by kernel_rfl
theorem Ty.sliceSz_22:sliceSz Tryz.prog 22=some 9:=by kernel_rfl
theorem Ty.sliceSz_23:sliceSz Tryz.prog 23=some 3:=by kernel_rfl
theorem Ty.sliceSz_24:sliceSz Tryz.prog 24=some 7:=by kernel_rfl
theorem Ty.sliceSz_273:sliceSz Tryz.prog 273=some 1:=by kernel_rfl
theorem Ty.sliceSz_30:sliceSz Tryz.prog 30=some 3:=by kernel_rfl
theorem Ty.sliceSz_302:sliceSz Tryz.prog 302=some 2:=by kernel_rfl
theorem Ty.sliceSz_31:sliceSz Tryz.prog 31=some 1:=by kernel_rfl
theorem Ty.sliceSz_36:sliceSz Tryz.prog 36=some 8:=by kernel_rfl
theorem Ty.sliceSz_39:sliceSz Tryz.prog 39=some 5:=by kernel_rfl
theorem Ty.sliceSz_46:sliceSz Tryz.prog 46=some 1:=by kernel_rfl
theorem Ty.sliceSz_54:sliceSz Tryz.prog 54=some 1:=by kernel_rfl
theorem Ty.sliceSz_71:sliceSz Tryz.prog 71=some 4:=by kernel_rfl
theorem Ty.sliceSz_78:sliceSz Tryz.prog 78=some 2:=by kernel_rfl
theorem Ty.structOk_100:structOk Tryz.prog 100=true:=by kernel_rfl
theorem Ty.structOk_104:structOk Tryz.prog 104=true:=by kernel_rfl
theorem Ty.structOk_120:structOk Tryz.prog 120=true:=by kernel_rfl
theorem Ty.structOk_129:structOk Tryz.prog 129=true:=by kernel_rfl
theorem Ty.structOk_141:structOk Tryz.prog 141=true:=by kernel_rfl
theorem Ty.structOk_191:structOk Tryz.prog 191=true:=by kernel_rfl
theorem Ty.structOk_208:structOk Tryz.prog 208=true:=by kernel_rfl
theorem Ty.structOk_216:structOk Tryz.prog 216=true:=by kernel_rfl
theorem Ty.structOk_255:structOk Tryz.prog 255=true:=by kernel_rfl
theorem Ty.structOk_304:structOk Tryz.prog 304=true:=by kernel_rfl
theorem Ty.structOk_33:structOk Tryz.prog 33=true:=by kernel_rfl
theorem Ty.structOk_35:structOk Tryz.prog 35=true:=by kernel_rfl
theorem Ty.structOk_38:structOk Tryz.prog 38=true:=by kernel_rfl
theorem Ty.structOk_41:structOk Tryz.prog 41=true:=by kernel_rfl
theorem Ty.structOk_48:structOk Tryz.prog 48=true:=by kernel_rfl
theorem Ty.structOk_53:structOk Tryz.prog 53=true:=by kernel_rfl
theorem Ty.structOk_56:structOk Tryz.prog 56=true:=by kernel_rfl
theorem Ty.structOk_59:structOk Tryz.prog 59=true:=by kernel_rfl
theorem Ty.structOk_63:structOk Tryz.prog 63=true:=by kernel_rfl
theorem Ty.structOk_70:structOk Tryz.prog 70=true:=by kernel_rfl
theorem Ty.structOk_73:structOk Tryz.prog 73=true:=by kernel_rfl
theorem Ty.structOk_74:structOk Tryz.prog 74=true:=by kernel_rfl
theorem Ty.structOk_80:structOk Tryz.prog 80=true:=by kernel_rfl
theorem Ty.structOk_91:structOk Tryz.prog 91=true:=by kernel_rfl
theorem Ty.tk_100:tk Tryz.prog 100=some (.agg 8):=by kernel_rfl
theorem Ty.tk_102:tk Tryz.prog 102=some .one:=by kernel_rfl
theorem Ty.tk_105:tk Tryz.prog 105=some .one:=by kernel_rfl
theorem Ty.tk_118:tk Tryz.prog 118=some (.agg 12):=by kernel_rfl
theorem Ty.tk_129:tk Tryz.prog 129=some (.agg 2):=by kernel_rfl
theorem Ty.tk_183:tk Tryz.prog 183=some .one:=by kernel_rfl
theorem Ty.tk_191:tk Tryz.prog 191=some (.agg 3):=by kernel_rfl
theorem Ty.tk_208:tk Tryz.prog 208=some (.agg 17):=by kernel_rfl
theorem Ty.tk_216:tk Tryz.prog 216=some (.agg 3):=by kernel_rfl
theorem Ty.tk_255:tk Tryz.prog 255=some (.agg 8):=by kernel_rfl
theorem Ty.tk_3:tk Tryz.prog 3=some .one:=by kernel_rfl
theorem Ty.tk_304:tk Tryz.prog 304=some (.agg 2):=by kernel_rfl
theorem Ty.tk_31:tk Tryz.prog 31=some .one:=by kernel_rfl
theorem Ty.tk_33:tk Tryz.prog 33=some (.agg 3):=by kernel_rfl
theorem Ty.tk_35:tk Tryz.prog 35=some (.agg 3):=by kernel_rfl
theorem Ty.tk_36:tk Tryz.prog 36=some .one:=by kernel_rfl
theorem Ty.tk_38:tk Tryz.prog 38=some (.agg 1):=by kernel_rfl
theorem Ty.tk_39:tk Tryz.prog 39=some .one:=by kernel_rfl
theorem Ty.tk_4:tk Tryz.prog 4=some .one:=by kernel_rfl
theorem Ty.tk_41:tk Tryz.prog 41=some (.agg 2):=by kernel_rfl
theorem Ty.tk_44:tk Tryz.prog 44=some .one:=by kernel_rfl
theorem Ty.tk_46:tk Tryz.prog 46=some .one:=by kernel_rfl
theorem Ty.tk_48:tk Tryz.prog 48=some (.agg 6):=by kernel_rfl
theorem Ty.tk_51:tk Tryz.prog 51=some .one:=by kernel_rfl
theorem Ty.tk_53:tk Tryz.prog 53=some (.agg 7):=by kernel_rfl
theorem Ty.tk_54:tk Tryz.prog 54=some .one:=by kernel_rfl
theorem Ty.tk_56:tk Tryz.prog 56=some (.agg 12):=by kernel_rfl
theorem Ty.tk_59:tk Tryz.prog 59=some (.agg 12):=by kernel_rfl
theorem Ty.tk_63:tk Tryz.prog 63=some (.agg 6):=by kernel_rfl
theorem Ty.tk_70:tk Tryz.prog 70=some (.agg 4):=by kernel_rfl
theorem Ty.tk_71:tk Tryz.prog 71=some .one:=by kernel_rfl
theorem Ty.tk_73:tk Tryz.prog 73=some (.agg 5):=by kernel_rfl
theorem Ty.tk_74:tk Tryz.prog 74=some (.agg 4):=by kernel_rfl
theorem Ty.tk_78:tk Tryz.prog 78=some .one:=by kernel_rfl
theorem Ty.tk_80:tk Tryz.prog 80=some (.agg 7):=by kernel_rfl
theorem Ty.tk_9:tk Tryz.prog 9=some .one:=by kernel_rfl
theorem Ty.tk_91:tk Tryz.prog 91=some (.agg 9):=by kernel_rfl
attribute [push_cast] Ty.appSz_102 Ty.appSz_30 Ty.appSz_31 Ty.appSz_39 Ty.appSz_46 Ty.appSz_54 Ty.appSz_78 Ty.arrSz_118 Ty.arrSz_139 Ty.arrSz_282 Ty.arrTK_118 Ty.azero_100 Ty.azero_104 Ty.azero_108 Ty.azero_120 Ty.azero_129 Ty.azero_191 Ty.azero_208 Ty.azero_216 Ty.azero_255 Ty.azero_3 Ty.azero_304 Ty.azero_33 Ty.azero_35 Ty.azero_38 Ty.azero_41 Ty.azero_48 Ty.azero_53 Ty.azero_54 Ty.azero_56 Ty.azero_59 Ty.azero_63 Ty.azero_70 Ty.azero_73 Ty.azero_74 Ty.azero_80 Ty.azero_91 Ty.eqTop_105 Ty.eqTop_121 Ty.eqTop_123 Ty.eqTop_26 Ty.eqTop_4 Ty.eqTop_44 Ty.eqTop_53 Ty.eqTop_74 Ty.fldOff_100_0 Ty.fldOff_100_1 Ty.fldOff_100_2 Ty.fldOff_100_3 Ty.fldOff_100_4 Ty.fldOff_100_5 Ty.fldOff_100_6 Ty.fldOff_100_7 Ty.fldOff_104_0 Ty.fldOff_104_1 Ty.fldOff_120_0 Ty.fldOff_120_1 Ty.fldOff_120_2 Ty.fldOff_129_0 Ty.fldOff_129_1 Ty.fldOff_141_0 Ty.fldOff_141_1 Ty.fldOff_191_0 Ty.fldOff_191_1 Ty.fldOff_191_2 Ty.fldOff_208_0 Ty.fldOff_208_1 Ty.fldOff_208_2 Ty.fldOff_216_0 Ty.fldOff_216_1 Ty.fldOff_216_2 Ty.fldOff_255_0 Ty.fldOff_255_1 Ty.fldOff_255_2 Ty.fldOff_255_3 Ty.fldOff_255_4 Ty.fldOff_255_5 Ty.fldOff_304_0 Ty.fldOff_304_1 Ty.fldOff_33_0 Ty.fldOff_33_1 Ty.fldOff_33_2 Ty.fldOff_35_0 Ty.fldOff_35_1 Ty.fldOff_35_2 Ty.fldOff_38_0 Ty.fldOff_41_0 Ty.fldOff_41_1 Ty.fldOff_48_0 Ty.fldOff_48_1 Ty.fldOff_48_2 Ty.fldOff_48_3 Ty.fldOff_48_4 Ty.fldOff_48_5 Ty.fldOff_50_0 Ty.fldOff_50_1 Ty.fldOff_53_0 Ty.fldOff_53_1 Ty.fldOff_53_3 Ty.fldOff_53_4 Ty.fldOff_56_0 Ty.fldOff_56_1 Ty.fldOff_56_2 Ty.fldOff_56_3 Ty.fldOff_56_4 Ty.fldOff_56_5 Ty.fldOff_59_0 Ty.fldOff_59_1 Ty.fldOff_59_2 Ty.fldOff_59_3 Ty.fldOff_59_4 Ty.fldOff_59_5 Ty.fldOff_63_0 Ty.fldOff_63_1 Ty.fldOff_63_2 Ty.fldOff_63_3 Ty.fldOff_63_4 Ty.fldOff_63_5 Ty.fldOff_70_0 Ty.fldOff_70_1 Ty.fldOff_70_2 Ty.fldOff_70_3 Ty.fldOff_73_0 Ty.fldOff_73_1 Ty.fldOff_73_2 Ty.fldOff_74_0 Ty.fldOff_74_1 Ty.fldOff_74_2 Ty.fldOff_74_3 Ty.fldOff_80_0 Ty.fldOff_80_1 Ty.fldOff_80_2 Ty.fldOff_80_3 Ty.fldOff_80_4 Ty.fldOff_80_5 Ty.fldOff_80_6 Ty.fldOff_91_0 Ty.fldOff_91_1 Ty.fldOff_91_2 Ty.fldOff_91_3 Ty.fldOff_91_4 Ty.fldOff_91_5 Ty.fldOff_91_6 Ty.fldOff_91_7 Ty.fldOff_91_8 Ty.fldTK_100_0 Ty.fldTK_100_2 Ty.fldTK_100_5 Ty.fldTK_100_7 Ty.fldTK_56_0 Ty.intT_272 Ty.intT_3 Ty.intT_5 Ty.intT_9 Ty.isBytesT_46 Ty.isSliceT_102 Ty.isSliceT_22 Ty.isSliceT_23 Ty.isSliceT_24 Ty.isSliceT_273 Ty.isSliceT_30 Ty.isSliceT_302 Ty.isSliceT_31 Ty.isSliceT_36 Ty.isSliceT_39 Ty.isSliceT_46 Ty.isSliceT_54 Ty.isSliceT_71 Ty.isSliceT_78 Ty.isStrT_9 Ty.known_21 Ty.known_299 Ty.known_3 Ty.known_5 Ty.litSz_102 Ty.litSz_22 Ty.litSz_23 Ty.litSz_273 Ty.litSz_30 Ty.litSz_302 Ty.litSz_31 Ty.litSz_39 Ty.litSz_46 Ty.litSz_54 Ty.litSz_78 Ty.makeT_302 Ty.makeT_36 Ty.makeT_46 Ty.makeT_54 Ty.makeT_71 Ty.makeT_78 Ty.mapT_110 Ty.place_100_0 Ty.place_100_1 Ty.place_100_2 Ty.place_100_3 Ty.place_100_4 Ty.place_100_7 Ty.place_104_0 Ty.place_120_0 Ty.place_120_1 Ty.place_129_0 Ty.place_129_1 Ty.place_141_0 Ty.place_191_0 Ty.place_191_1 Ty.place_191_2 Ty.place_208_0 Ty.place_216_0 Ty.place_216_1 Ty.place_216_2 Ty.place_255_0 Ty.place_255_1 Ty.place_255_3 Ty.place_255_4 Ty.place_255_5 Ty.place_304_0 Ty.place_304_1 Ty.place_33_0 Ty.place_33_1 Ty.place_33_2 Ty.place_35_0 Ty.place_35_1 Ty.place_38_0 Ty.place_41_0 Ty.place_41_1 Ty.place_48_0 Ty.place_48_1 Ty.place_48_3 Ty.place_48_4 Ty.place_53_0 Ty.place_53_1 Ty.place_53_2 Ty.place_53_3 Ty.place_53_4 Ty.place_53_5 Ty.place_53_6 Ty.place_56_0 Ty.place_56_1 Ty.place_56_5 Ty.place_59_0 Ty.place_59_1 Ty.place_59_5 Ty.place_63_0 Ty.place_63_1 Ty.place_63_2 Ty.place_63_3 Ty.place_63_4 Ty.place_63_5 Ty.place_70_0 Ty.place_70_2 Ty.place_70_3 Ty.place_73_0 Ty.place_73_1 Ty.place_73_2 Ty.place_74_0 Ty.place_74_2 Ty.place_74_3 Ty.place_80_0 Ty.place_80_1 Ty.place_80_2 Ty.place_80_3 Ty.place_80_4 Ty.place_80_6 Ty.place_91_0 Ty.place_91_1 Ty.place_91_2 Ty.place_91_3 Ty.place_91_4 Ty.place_91_5 Ty.place_91_6 Ty.place_91_7 Ty.sliceSz_102 Ty.sliceSz_22 Ty.sliceSz_23 Ty.sliceSz_24 Ty.sliceSz_273 Ty.sliceSz_30 Ty.sliceSz_302 Ty.sliceSz_31 Ty.sliceSz_36 Ty.sliceSz_39 Ty.sliceSz_46 Ty.sliceSz_54 Ty.sliceSz_71 Ty.sliceSz_78 Ty.structOk_100 Ty.structOk_104 Ty.structOk_120 Ty.structOk_129 Ty.structOk_141 Ty.structOk_191 Ty.structOk_208 Ty.structOk_216 Ty.structOk_255 Ty.structOk_304 Ty.structOk_33 Ty.structOk_35 Ty.structOk_38 Ty.structOk_41 Ty.structOk_48 Ty.structOk_53 Ty.structOk_56 Ty.structOk_59 Ty.structOk_63 Ty.structOk_70 Ty.structOk_73 Ty.structOk_74 Ty.structOk_80 Ty.structOk_91 Ty.tk_100 Ty.tk_102 Ty.tk_105 Ty.tk_118 Ty.tk_129 Ty.tk_183 Ty.tk_191 Ty.tk_208 Ty.tk_216 Ty.tk_255 Ty.tk_3 Ty.tk_304 Ty.tk_31 Ty.tk_33 Ty.tk_35 Ty.tk_36 Ty.tk_38 Ty.tk_39 Ty.tk_4 Ty.tk_41 Ty.tk_44 Ty.tk_46 Ty.tk_48 Ty.tk_51 Ty.tk_53 Ty.tk_54 Ty.tk_56 Ty.tk_59 Ty.tk_63 Ty.tk_70 Ty.tk_71 Ty.tk_73 Ty.tk_74 Ty.tk_78 Ty.tk_80 Ty.tk_9 Ty.tk_91
end Go.Proofs.YtegffmibifodcaaGreat
