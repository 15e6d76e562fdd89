import Derived.Test.YtjmlgeckgieaaaaGreatFc
import Derived.Test.YtjmlgeckgieaaaaGreatProg
import Derived.KernelRfl
/-
  What the program's own tables say of its types, as the framework asks it (by a program of this session's own).
-/
set_option linter.unusedVariables false
set_option linter.unusedSimpArgs false
namespace Go.Proofs.YtjmlgeckgieaaaaGreat
open Go.Ab
theorem Ty.appSz_100:appSz Tryz.prog 100=some (3,32):=by kernel_rfl
theorem Ty.appSz_114:appSz Tryz.prog 114=some (1,8):=by kernel_rfl
theorem Ty.appSz_263:appSz Tryz.prog 263=some (2,16):=by kernel_rfl
theorem Ty.appSz_28:appSz Tryz.prog 28=some (1,8):=by kernel_rfl
theorem Ty.appSz_40:appSz Tryz.prog 40=some (8,112):=by kernel_rfl
theorem Ty.appSz_46:appSz Tryz.prog 46=some (1,1):=by kernel_rfl
theorem Ty.appSz_55:appSz Tryz.prog 55=some (1,16):=by kernel_rfl
theorem Ty.appSz_62:appSz Tryz.prog 62=some (2,24):=by kernel_rfl
theorem Ty.appSz_89:appSz Tryz.prog 89=some (3,32):=by kernel_rfl
theorem Ty.arrSz_119:arrSz Tryz.prog 119=some (3,4):=by kernel_rfl
theorem Ty.arrSz_244:arrSz Tryz.prog 244=some (256,1):=by kernel_rfl
theorem Ty.arrSz_83:arrSz Tryz.prog 83=some (24,7):=by kernel_rfl
theorem Ty.arrSz_88:arrSz Tryz.prog 88=some (4,1):=by kernel_rfl
theorem Ty.arrTK_119:arrTK Tryz.prog 119=some (.agg 4):=by kernel_rfl
theorem Ty.arrTK_244:arrTK Tryz.prog 244=some .one:=by kernel_rfl
theorem Ty.arrTK_83:arrTK Tryz.prog 83=some (.agg 7):=by kernel_rfl
theorem Ty.arrTK_88:arrTK Tryz.prog 88=some .one:=by kernel_rfl
theorem Ty.azero_102:azero Tryz.prog 102=some (.agg [.slice [] .full,.slice [] .full,.slice [] .full,.int .i64 0,.slice [] .full,.slice [] .full]):=by kernel_rfl
theorem Ty.azero_106:azero Tryz.prog 106=some (.agg [.int .i64 0,.int .i64 0,.int .i64 0,.int .i64 0,.str [],.slice [] .full,.slice [] .full,.str []]):=by kernel_rfl
theorem Ty.azero_109:azero Tryz.prog 109=some (.agg [.int .i64 0,.str [],.int .i64 0]):=by kernel_rfl
theorem Ty.azero_116:azero Tryz.prog 116=some (.agg [.raw (.pointer none),.slice [] .full]):=by kernel_rfl
theorem Ty.azero_121:azero Tryz.prog 121=some (.agg [.int .i64 0,.int .i64 0,.slice [] .full,.int .i64 0,.int .i64 0,.int .i64 0,.bool false,.bool false,.int .i64 0,.int .i64 0,.bool false,.bool false,.int .i64 0,.int .i64 0,.bool false,.bool false]):=by kernel_rfl
theorem Ty.azero_124:azero Tryz.prog 124=some (.raw .nilFunc):=by kernel_rfl
theorem Ty.azero_139:azero Tryz.prog 139=some (.agg [.int .i64 0,.int .i64 0,.slice [] .full,.raw (.pointer none),.int .i64 0,.int .i64 0,.int .i64 0,.str [],.int .i64 0,.str [],.int .i64 0,.int .i64 0,.int .i64 0,.int .i64 0,.int .i64 0,.slice [] .full,.slice [] .full,.str [],.int .i64 0,.int .i64 0,.int .i64 0,.int .i64 0,.slice [] .full,.slice [] .full,.str [],.slice [] .full]):=by kernel_rfl
theorem Ty.azero_194:azero Tryz.prog 194=some (.agg [.int .i64 0,.str [],.int .i64 0]):=by kernel_rfl
theorem Ty.azero_208:azero Tryz.prog 208=some (.agg [.int .i64 0,.str [],.int .i64 0,.int .i64 0,.int .i64 0,.int .i64 0,.int .i64 0,.slice [] .full,.slice [] .full,.str [],.int .i64 0,.int .i64 0,.int .i64 0,.int .i64 0,.slice [] .full,.slice [] .full,.str []]):=by kernel_rfl
theorem Ty.azero_24:azero Tryz.prog 24=some (.raw .nilFunc):=by kernel_rfl
theorem Ty.azero_265:azero Tryz.prog 265=some (.agg [.int .i64 0,.int .i64 0]):=by kernel_rfl
theorem Ty.azero_266:azero Tryz.prog 266=some (.int .u64 0):=by kernel_rfl
theorem Ty.azero_3:azero Tryz.prog 3=some (.int .i64 0):=by kernel_rfl
theorem Ty.azero_30:azero Tryz.prog 30=some (.agg [.int .i64 0,.int .i64 0,.slice [] .full]):=by kernel_rfl
theorem Ty.azero_36:azero Tryz.prog 36=some (.agg [.int .i64 0,.int .i64 0,.int .i64 0,.str [],.int .i64 0,.str [],.int .i64 0]):=by kernel_rfl
theorem Ty.azero_38:azero Tryz.prog 38=some (.agg [.int .i64 0,.int .i64 0,.int .i64 0,.str [],.int .i64 0,.str [],.int .i64 0]):=by kernel_rfl
theorem Ty.azero_42:azero Tryz.prog 42=some (.agg [.slice [] .full]):=by kernel_rfl
theorem Ty.azero_51:azero Tryz.prog 51=some (.agg [.int .i64 0,.str [],.str [],.int .i64 0,.int .i64 0,.slice [] .full]):=by kernel_rfl
theorem Ty.azero_54:azero Tryz.prog 54=some (.agg [.int .i64 0,.int .i64 0,.int .i64 0,.int .i64 0,.int .i64 0,.int .i64 0,.int .i64 0]):=by kernel_rfl
theorem Ty.azero_55:azero Tryz.prog 55=some (.slice [] .full):=by kernel_rfl
theorem Ty.azero_57:azero Tryz.prog 57=some (.agg [.int .i64 0,.int .i64 0,.int .i64 0,.int .i64 0,.int .i64 0,.int .i64 0,.int .i64 0,.int .i64 0,.int .i64 0,.str [],.slice [] .full,.slice [] .full]):=by kernel_rfl
theorem Ty.azero_64:azero Tryz.prog 64=some (.agg [.int .i64 0,.int .i64 0,.int .i64 0,.int .i64 0,.slice [] .full,.slice [] .full,.str []]):=by kernel_rfl
theorem Ty.azero_74:azero Tryz.prog 74=some (.agg [.int .i64 0,.int .i64 0,.bool false,.bool false]):=by kernel_rfl
theorem Ty.azero_80:azero Tryz.prog 80=some (.agg [.int .i64 0,.int .i64 0,.int .i64 0,.int .i64 0,.int .i64 0,.str [],.slice [] .full,.str [],.int .i64 0]):=by kernel_rfl
theorem Ty.azero_91:azero Tryz.prog 91=some (.agg [.slice [] .full,.slice [] .full,.slice [] .full,.slice [] .full,.slice [] .full,.slice [] .full]):=by kernel_rfl
theorem Ty.azero_96:azero Tryz.prog 96=some (.agg [.str [],.int .i64 0]):=by kernel_rfl
theorem Ty.azero_98:azero Tryz.prog 98=some (.agg [.int .i64 0,.str [],.int .i64 0]):=by kernel_rfl
theorem Ty.eqTop_118:eqTop Tryz.prog 118=some (.ptr):=by kernel_rfl
theorem Ty.eqTop_129:eqTop Tryz.prog 129=some (.ptr):=by kernel_rfl
theorem Ty.eqTop_136:eqTop Tryz.prog 136=some (.ptr):=by kernel_rfl
theorem Ty.eqTop_25:eqTop Tryz.prog 25=some (.ptr):=by kernel_rfl
theorem Ty.eqTop_36:eqTop Tryz.prog 36=some (.strukt (.cons 0 .one .int (.cons 1 .one .int (.cons 2 .one .int (.cons 3 .one .str (.cons 4 .one .int (.cons 5 .one .str (.cons 6 .one .int .nil)))))))):=by kernel_rfl
theorem Ty.eqTop_4:eqTop Tryz.prog 4=some (.bool):=by kernel_rfl
theorem Ty.eqTop_48:eqTop Tryz.prog 48=some (.ptr):=by kernel_rfl
theorem Ty.eqTop_54:eqTop Tryz.prog 54=some (.strukt (.cons 0 .one .int (.cons 1 .one .int (.cons 2 .one .int (.cons 3 .one .int (.cons 4 .one .int (.cons 5 .one .int (.cons 6 .one .int .nil)))))))):=by kernel_rfl
theorem Ty.eqTop_96:eqTop Tryz.prog 96=some (.strukt (.cons 0 .one .str (.cons 1 .one .int .nil))):=by kernel_rfl
theorem Ty.fldOff_102_0:fldOff Tryz.prog 102 0=some 0:=by kernel_rfl
theorem Ty.fldOff_102_1:fldOff Tryz.prog 102 1=some 1:=by kernel_rfl
theorem Ty.fldOff_102_2:fldOff Tryz.prog 102 2=some 2:=by kernel_rfl
theorem Ty.fldOff_102_3:fldOff Tryz.prog 102 3=some 3:=by kernel_rfl
theorem Ty.fldOff_102_4:fldOff Tryz.prog 102 4=some 4:=by kernel_rfl
theorem Ty.fldOff_102_5:fldOff Tryz.prog 102 5=some 5:=by kernel_rfl
theorem Ty.fldOff_106_0:fldOff Tryz.prog 106 0=some 0:=by kernel_rfl
theorem Ty.fldOff_106_1:fldOff Tryz.prog 106 1=some 1:=by kernel_rfl
theorem Ty.fldOff_106_2:fldOff Tryz.prog 106 2=some 2:=by kernel_rfl
theorem Ty.fldOff_106_3:fldOff Tryz.prog 106 3=some 3:=by kernel_rfl
theorem Ty.fldOff_106_4:fldOff Tryz.prog 106 4=some 4:=by kernel_rfl
theorem Ty.fldOff_106_5:fldOff Tryz.prog 106 5=some 5:=by kernel_rfl
theorem Ty.fldOff_106_6:fldOff Tryz.prog 106 6=some 6:=by kernel_rfl
theorem Ty.fldOff_106_7:fldOff Tryz.prog 106 7=some 7:=by kernel_rfl
theorem Ty.fldOff_109_0:fldOff Tryz.prog 109 0=some 0:=by kernel_rfl
theorem Ty.fldOff_109_1:fldOff Tryz.prog 109 1=some 1:=by kernel_rfl
theorem Ty.fldOff_109_2:fldOff Tryz.prog 109 2=some 2:=by kernel_rfl
theorem Ty.fldOff_116_0:fldOff Tryz.prog 116 0=some 0:=by kernel_rfl
theorem Ty.fldOff_116_1:fldOff Tryz.prog 116 1=some 1:=by kernel_rfl
theorem Ty.fldOff_121_0:fldOff Tryz.prog 121 0=some 0:=by kernel_rfl
theorem Ty.fldOff_121_1:fldOff Tryz.prog 121 1=some 3:=by kernel_rfl
theorem Ty.fldOff_121_2:fldOff Tryz.prog 121 2=some 4:=by kernel_rfl
theorem Ty.fldOff_139_0:fldOff Tryz.prog 139 0=some 0:=by kernel_rfl
theorem Ty.fldOff_139_1:fldOff Tryz.prog 139 1=some 3:=by kernel_rfl
theorem Ty.fldOff_139_2:fldOff Tryz.prog 139 2=some 4:=by kernel_rfl
theorem Ty.fldOff_139_3:fldOff Tryz.prog 139 3=some 11:=by kernel_rfl
theorem Ty.fldOff_139_4:fldOff Tryz.prog 139 4=some 18:=by kernel_rfl
theorem Ty.fldOff_139_5:fldOff Tryz.prog 139 5=some 25:=by kernel_rfl
theorem Ty.fldOff_194_0:fldOff Tryz.prog 194 0=some 0:=by kernel_rfl
theorem Ty.fldOff_194_1:fldOff Tryz.prog 194 1=some 1:=by kernel_rfl
theorem Ty.fldOff_194_2:fldOff Tryz.prog 194 2=some 2:=by kernel_rfl
theorem Ty.fldOff_208_0:fldOff Tryz.prog 208 0=some 0:=by kernel_rfl
theorem Ty.fldOff_208_1:fldOff Tryz.prog 208 1=some 3:=by kernel_rfl
theorem Ty.fldOff_208_2:fldOff Tryz.prog 208 2=some 10:=by kernel_rfl
theorem Ty.fldOff_265_0:fldOff Tryz.prog 265 0=some 0:=by kernel_rfl
theorem Ty.fldOff_265_1:fldOff Tryz.prog 265 1=some 1:=by kernel_rfl
theorem Ty.fldOff_30_0:fldOff Tryz.prog 30 0=some 0:=by kernel_rfl
theorem Ty.fldOff_30_1:fldOff Tryz.prog 30 1=some 1:=by kernel_rfl
theorem Ty.fldOff_30_2:fldOff Tryz.prog 30 2=some 2:=by kernel_rfl
theorem Ty.fldOff_36_0:fldOff Tryz.prog 36 0=some 0:=by kernel_rfl
theorem Ty.fldOff_36_1:fldOff Tryz.prog 36 1=some 1:=by kernel_rfl
theorem Ty.fldOff_36_2:fldOff Tryz.prog 36 2=some 2:=by kernel_rfl
theorem Ty.fldOff_36_3:fldOff Tryz.prog 36 3=some 3:=by kernel_rfl
theorem Ty.fldOff_36_4:fldOff Tryz.prog 36 4=some 4:=by kernel_rfl
theorem Ty.fldOff_36_5:fldOff Tryz.prog 36 5=some 5:=by kernel_rfl
theorem Ty.fldOff_36_6:fldOff Tryz.prog 36 6=some 6:=by kernel_rfl
theorem Ty.fldOff_38_0:fldOff Tryz.prog 38 0=some 0:=by kernel_rfl
theorem Ty.fldOff_38_1:fldOff Tryz.prog 38 1=some 1:=by kernel_rfl
theorem Ty.fldOff_38_2:fldOff Tryz.prog 38 2=some 2:=by kernel_rfl
theorem Ty.fldOff_38_3:fldOff Tryz.prog 38 3=some 3:=by kernel_rfl
theorem Ty.fldOff_38_4:fldOff Tryz.prog 38 4=some 4:=by kernel_rfl
theorem Ty.fldOff_38_5:fldOff Tryz.prog 38 5=some 5:=by kernel_rfl
theorem Ty.fldOff_38_6:fldOff Tryz.prog 38 6=some 6:=by kernel_rfl
theorem Ty.fldOff_42_0:fldOff Tryz.prog 42 0=some 0:=by kernel_rfl
theorem Ty.fldOff_51_0:fldOff Tryz.prog 51 0=some 0:=by kernel_rfl
theorem Ty.fldOff_51_1:fldOff Tryz.prog 51 1=some 1:=by kernel_rfl
theorem Ty.fldOff_51_2:fldOff Tryz.prog 51 2=some 2:=by kernel_rfl
theorem Ty.fldOff_51_3:fldOff Tryz.prog 51 3=some 3:=by kernel_rfl
theorem Ty.fldOff_51_4:fldOff Tryz.prog 51 4=some 4:=by kernel_rfl
theorem Ty.fldOff_51_5:fldOff Tryz.prog 51 5=some 5:=by kernel_rfl
theorem Ty.fldOff_54_0:fldOff Tryz.prog 54 0=some 0:=by kernel_rfl
theorem Ty.fldOff_54_1:fldOff Tryz.prog 54 1=some 1:=by kernel_rfl
theorem Ty.fldOff_57_0:fldOff Tryz.prog 57 0=some 0:=by kernel_rfl
theorem Ty.fldOff_57_2:fldOff Tryz.prog 57 2=some 2:=by kernel_rfl
theorem Ty.fldOff_57_3:fldOff Tryz.prog 57 3=some 9:=by kernel_rfl
theorem Ty.fldOff_57_4:fldOff Tryz.prog 57 4=some 10:=by kernel_rfl
theorem Ty.fldOff_64_0:fldOff Tryz.prog 64 0=some 0:=by kernel_rfl
theorem Ty.fldOff_64_1:fldOff Tryz.prog 64 1=some 1:=by kernel_rfl
theorem Ty.fldOff_64_2:fldOff Tryz.prog 64 2=some 2:=by kernel_rfl
theorem Ty.fldOff_64_3:fldOff Tryz.prog 64 3=some 3:=by kernel_rfl
theorem Ty.fldOff_64_4:fldOff Tryz.prog 64 4=some 4:=by kernel_rfl
theorem Ty.fldOff_64_5:fldOff Tryz.prog 64 5=some 5:=by kernel_rfl
theorem Ty.fldOff_64_6:fldOff Tryz.prog 64 6=some 6:=by kernel_rfl
theorem Ty.fldOff_74_0:fldOff Tryz.prog 74 0=some 0:=by kernel_rfl
theorem Ty.fldOff_74_1:fldOff Tryz.prog 74 1=some 1:=by kernel_rfl
theorem Ty.fldOff_74_2:fldOff Tryz.prog 74 2=some 2:=by kernel_rfl
theorem Ty.fldOff_74_3:fldOff Tryz.prog 74 3=some 3:=by kernel_rfl
theorem Ty.fldOff_80_0:fldOff Tryz.prog 80 0=some 0:=by kernel_rfl
theorem Ty.fldOff_80_1:fldOff Tryz.prog 80 1=some 1:=by kernel_rfl
theorem Ty.fldOff_80_2:fldOff Tryz.prog 80 2=some 2:=by kernel_rfl
theorem Ty.fldOff_80_3:fldOff Tryz.prog 80 3=some 3:=by kernel_rfl
theorem Ty.fldOff_80_4:fldOff Tryz.prog 80 4=some 4:=by kernel_rfl
theorem Ty.fldOff_80_5:fldOff Tryz.prog 80 5=some 5:=by kernel_rfl
theorem Ty.fldOff_80_6:fldOff Tryz.prog 80 6=some 6:=by kernel_rfl
theorem Ty.fldOff_80_7:fldOff Tryz.prog 80 7=some 7:=by kernel_rfl
theorem Ty.fldOff_80_8:fldOff Tryz.prog 80 8=some 8:=by kernel_rfl
theorem Ty.fldOff_82_0:fldOff Tryz.prog 82 0=some 0:=by kernel_rfl
theorem Ty.fldOff_82_1:fldOff Tryz.prog 82 1=some 1:=by kernel_rfl
theorem Ty.fldOff_82_2:fldOff Tryz.prog 82 2=some 2:=by kernel_rfl
theorem Ty.fldOff_85_0:fldOff Tryz.prog 85 0=some 0:=by kernel_rfl
theorem Ty.fldOff_85_1:fldOff Tryz.prog 85 1=some 1:=by kernel_rfl
theorem Ty.fldOff_91_0:fldOff Tryz.prog 91 0=some 0:=by kernel_rfl
theorem Ty.fldOff_91_1:fldOff Tryz.prog 91 1=some 4:=by kernel_rfl
theorem Ty.fldOff_91_2:fldOff Tryz.prog 91 2=some 5:=by kernel_rfl
theorem Ty.fldOff_96_0:fldOff Tryz.prog 96 0=some 0:=by kernel_rfl
theorem Ty.fldOff_96_1:fldOff Tryz.prog 96 1=some 1:=by kernel_rfl
theorem Ty.fldOff_98_0:fldOff Tryz.prog 98 0=some 0:=by kernel_rfl
theorem Ty.fldOff_98_1:fldOff Tryz.prog 98 1=some 1:=by kernel_rfl
theorem Ty.fldTK_36_0:fldTK Tryz.prog 36 0=some (0,.one):=by kernel_rfl
theorem Ty.fldTK_64_2:fldTK Tryz.prog 64 2=some (2,.one):=by kernel_rfl
theorem Ty.intT_21:intT Tryz.prog 21=some .i32:=by kernel_rfl
theorem Ty.intT_240:intT Tryz.prog 240=some .u64:=by kernel_rfl
theorem Ty.intT_259:intT Tryz.prog 259=some .u32:=by kernel_rfl
theorem Ty.intT_266:intT Tryz.prog 266=some .u64:=by kernel_rfl
theorem Ty.intT_3:intT Tryz.prog 3=some .i64:=by kernel_rfl
theorem Ty.intT_5:intT Tryz.prog 5=some .u8:=by kernel_rfl
theorem Ty.intT_9:intT Tryz.prog 9=none:=by kernel_rfl
theorem Ty.isBytesT_46:isBytesT Tryz.prog 46=true:=by kernel_rfl
theorem Ty.isSliceT_100:isSliceT Tryz.prog 100=true:=by kernel_rfl
theorem Ty.isSliceT_114:isSliceT Tryz.prog 114=true:=by kernel_rfl
theorem Ty.isSliceT_150:isSliceT Tryz.prog 150=true:=by kernel_rfl
theorem Ty.isSliceT_22:isSliceT Tryz.prog 22=true:=by kernel_rfl
theorem Ty.isSliceT_23:isSliceT Tryz.prog 23=true:=by kernel_rfl
theorem Ty.isSliceT_233:isSliceT Tryz.prog 233=true:=by kernel_rfl
theorem Ty.isSliceT_263:isSliceT Tryz.prog 263=true:=by kernel_rfl
theorem Ty.isSliceT_28:isSliceT Tryz.prog 28=true:=by kernel_rfl
theorem Ty.isSliceT_40:isSliceT Tryz.prog 40=true:=by kernel_rfl
theorem Ty.isSliceT_45:isSliceT Tryz.prog 45=true:=by kernel_rfl
theorem Ty.isSliceT_46:isSliceT Tryz.prog 46=true:=by kernel_rfl
theorem Ty.isSliceT_47:isSliceT Tryz.prog 47=true:=by kernel_rfl
theorem Ty.isSliceT_55:isSliceT Tryz.prog 55=true:=by kernel_rfl
theorem Ty.isSliceT_62:isSliceT Tryz.prog 62=true:=by kernel_rfl
theorem Ty.isSliceT_89:isSliceT Tryz.prog 89=true:=by kernel_rfl
theorem Ty.isStrT_9:isStrT Tryz.prog 9=true:=by kernel_rfl
theorem Ty.known_21:known Tryz.prog 21=true:=by kernel_rfl
theorem Ty.known_240:known Tryz.prog 240=true:=by kernel_rfl
theorem Ty.known_259:known Tryz.prog 259=true:=by kernel_rfl
theorem Ty.known_261:known Tryz.prog 261=true:=by kernel_rfl
theorem Ty.known_3:known Tryz.prog 3=true:=by kernel_rfl
theorem Ty.known_5:known Tryz.prog 5=true:=by kernel_rfl
theorem Ty.known_60:known Tryz.prog 60=true:=by kernel_rfl
theorem Ty.litSz_100:litSz Tryz.prog 100=some 3:=by kernel_rfl
theorem Ty.litSz_114:litSz Tryz.prog 114=some 1:=by kernel_rfl
theorem Ty.litSz_150:litSz Tryz.prog 150=some 1:=by kernel_rfl
theorem Ty.litSz_22:litSz Tryz.prog 22=some 9:=by kernel_rfl
theorem Ty.litSz_233:litSz Tryz.prog 233=some 1:=by kernel_rfl
theorem Ty.litSz_263:litSz Tryz.prog 263=some 2:=by kernel_rfl
theorem Ty.litSz_28:litSz Tryz.prog 28=some 1:=by kernel_rfl
theorem Ty.litSz_45:litSz Tryz.prog 45=some 3:=by kernel_rfl
theorem Ty.litSz_46:litSz Tryz.prog 46=some 1:=by kernel_rfl
theorem Ty.litSz_55:litSz Tryz.prog 55=some 1:=by kernel_rfl
theorem Ty.litSz_62:litSz Tryz.prog 62=some 2:=by kernel_rfl
theorem Ty.litSz_89:litSz Tryz.prog 89=some 3:=by kernel_rfl
theorem Ty.makeT_263:makeT Tryz.prog 263=some (2,16,[.int .i64 0,.int .i64 0],true):=by kernel_rfl
theorem Ty.makeT_40:makeT Tryz.prog 40=some (8,112,[.int .i64 0,.int .i64 0,.int .i64 0,.int .i64 0,.str [],.slice [] .full,.slice [] .full,.str []],true):=by kernel_rfl
theorem Ty.makeT_46:makeT Tryz.prog 46=some (1,1,[.int .u8 0],false):=by kernel_rfl
theorem Ty.makeT_55:makeT Tryz.prog 55=some (1,16,[.str []],false):=by kernel_rfl
theorem Ty.makeT_62:makeT Tryz.prog 62=some (2,24,[.str [],.int .i64 0],true):=by kernel_rfl
theorem Ty.mapT_126:mapT Tryz.prog 126=some (.int .i64,124):=by kernel_rfl
theorem Ty.mapT_142:mapT Tryz.prog 142=some (.int .i64,24):=by kernel_rfl
theorem Ty.place_102_0:place Tryz.prog 102 0=some (0,1):=by kernel_rfl
theorem Ty.place_102_1:place Tryz.prog 102 1=some (1,1):=by kernel_rfl
theorem Ty.place_102_2:place Tryz.prog 102 2=some (2,1):=by kernel_rfl
theorem Ty.place_102_3:place Tryz.prog 102 3=some (3,1):=by kernel_rfl
theorem Ty.place_102_4:place Tryz.prog 102 4=some (4,1):=by kernel_rfl
theorem Ty.place_102_5:place Tryz.prog 102 5=some (5,1):=by kernel_rfl
theorem Ty.place_106_0:place Tryz.prog 106 0=some (0,1):=by kernel_rfl
theorem Ty.place_106_1:place Tryz.prog 106 1=some (1,1):=by kernel_rfl
theorem Ty.place_106_2:place Tryz.prog 106 2=some (2,1):=by kernel_rfl
theorem Ty.place_106_3:place Tryz.prog 106 3=some (3,1):=by kernel_rfl
theorem Ty.place_106_4:place Tryz.prog 106 4=some (4,1):=by kernel_rfl
theorem Ty.place_106_5:place Tryz.prog 106 5=some (5,1):=by kernel_rfl
theorem Ty.place_106_6:place Tryz.prog 106 6=some (6,1):=by kernel_rfl
theorem Ty.place_106_7:place Tryz.prog 106 7=some (7,1):=by kernel_rfl
theorem Ty.place_109_0:place Tryz.prog 109 0=some (0,1):=by kernel_rfl
theorem Ty.place_109_1:place Tryz.prog 109 1=some (1,1):=by kernel_rfl
theorem Ty.place_109_2:place Tryz.prog 109 2=some (2,1):=by kernel_rfl
theorem Ty.place_116_0:place Tryz.prog 116 0=some (0,1):=by kernel_rfl
theorem Ty.place_116_1:place Tryz.prog 116 1=some (1,1):=by kernel_rfl
theorem Ty.place_121_0:place Tryz.prog 121 0=some (0,3):=by kernel_rfl
theorem Ty.place_121_1:place Tryz.prog 121 1=some (3,1):=by kernel_rfl
theorem Ty.place_121_2:place Tryz.prog 121 2=some (4,12):=by kernel_rfl
theorem Ty.place_139_0:place Tryz.prog 139 0=some (0,3):=by kernel_rfl
theorem Ty.place_139_1:place Tryz.prog 139 1=some (3,1):=by kernel_rfl
theorem Ty.place_139_2:place Tryz.prog 139 2=some (4,7):=by kernel_rfl
theorem Ty.place_139_3:place Tryz.prog 139 3=some (11,7):=by kernel_rfl
theorem Ty.place_139_4:place Tryz.prog 139 4=some (18,7):=by kernel_rfl
theorem Ty.place_139_5:place Tryz.prog 139 5=some (25,1):=by kernel_rfl
theorem Ty.place_194_0:place Tryz.prog 194 0=some (0,1):=by kernel_rfl
theorem Ty.place_194_1:place Tryz.prog 194 1=some (1,1):=by kernel_rfl
theorem Ty.place_194_2:place Tryz.prog 194 2=some (2,1):=by kernel_rfl
theorem Ty.place_208_0:place Tryz.prog 208 0=some (0,3):=by kernel_rfl
theorem Ty.place_208_1:place Tryz.prog 208 1=some (3,7):=by kernel_rfl
theorem Ty.place_208_2:place Tryz.prog 208 2=some (10,7):=by kernel_rfl
theorem Ty.place_265_0:place Tryz.prog 265 0=some (0,1):=by kernel_rfl
theorem Ty.place_265_1:place Tryz.prog 265 1=some (1,1):=by kernel_rfl
theorem Ty.place_30_0:place Tryz.prog 30 0=some (0,1):=by kernel_rfl
theorem Ty.place_30_1:place Tryz.prog 30 1=some (1,1):=by kernel_rfl
theorem Ty.place_30_2:place Tryz.prog 30 2=some (2,1):=by kernel_rfl
theorem Ty.place_36_0:place Tryz.prog 36 0=some (0,1):=by kernel_rfl
theorem Ty.place_36_1:place Tryz.prog 36 1=some (1,1):=by kernel_rfl
theorem Ty.place_36_2:place Tryz.prog 36 2=some (2,1):=by kernel_rfl
theorem Ty.place_36_3:place Tryz.prog 36 3=some (3,1):=by kernel_rfl
theorem Ty.place_36_4:place Tryz.prog 36 4=some (4,1):=by kernel_rfl
theorem Ty.place_36_5:place Tryz.prog 36 5=some (5,1):=by kernel_rfl
theorem Ty.place_36_6:place Tryz.prog 36 6=some (6,1):=by kernel_rfl
theorem Ty.place_38_0:place Tryz.prog 38 0=some (0,1):=by kernel_rfl
theorem Ty.place_38_1:place Tryz.prog 38 1=some (1,1):=by kernel_rfl
theorem Ty.place_38_2:place Tryz.prog 38 2=some (2,1):=by kernel_rfl
theorem Ty.place_38_3:place Tryz.prog 38 3=some (3,1):=by kernel_rfl
theorem Ty.place_38_4:place Tryz.prog 38 4=some (4,1):=by kernel_rfl
theorem Ty.place_38_5:place Tryz.prog 38 5=some (5,1):=by kernel_rfl
theorem Ty.place_38_6:place Tryz.prog 38 6=some (6,1):=by kernel_rfl
theorem Ty.place_42_0:place Tryz.prog 42 0=some (0,1):=by kernel_rfl
theorem Ty.place_51_0:place Tryz.prog 51 0=some (0,1):=by kernel_rfl
theorem Ty.place_51_1:place Tryz.prog 51 1=some (1,1):=by kernel_rfl
theorem Ty.place_51_2:place Tryz.prog 51 2=some (2,1):=by kernel_rfl
theorem Ty.place_51_3:place Tryz.prog 51 3=some (3,1):=by kernel_rfl
theorem Ty.place_51_4:place Tryz.prog 51 4=some (4,1):=by kernel_rfl
theorem Ty.place_51_5:place Tryz.prog 51 5=some (5,1):=by kernel_rfl
theorem Ty.place_54_0:place Tryz.prog 54 0=some (0,1):=by kernel_rfl
theorem Ty.place_54_1:place Tryz.prog 54 1=some (1,1):=by kernel_rfl
theorem Ty.place_54_2:place Tryz.prog 54 2=some (2,1):=by kernel_rfl
theorem Ty.place_54_3:place Tryz.prog 54 3=some (3,1):=by kernel_rfl
theorem Ty.place_54_4:place Tryz.prog 54 4=some (4,1):=by kernel_rfl
theorem Ty.place_54_5:place Tryz.prog 54 5=some (5,1):=by kernel_rfl
theorem Ty.place_54_6:place Tryz.prog 54 6=some (6,1):=by kernel_rfl
theorem Ty.place_57_0:place Tryz.prog 57 0=some (0,1):=by kernel_rfl
theorem Ty.place_57_1:place Tryz.prog 57 1=some (1,1):=by kernel_rfl
theorem Ty.place_57_2:place Tryz.prog 57 2=some (2,7):=by kernel_rfl
theorem Ty.place_57_3:place Tryz.prog 57 3=some (9,1):=by kernel_rfl
theorem Ty.place_57_4:place Tryz.prog 57 4=some (10,1):=by kernel_rfl
theorem Ty.place_57_5:place Tryz.prog 57 5=some (11,1):=by kernel_rfl
theorem Ty.place_64_0:place Tryz.prog 64 0=some (0,1):=by kernel_rfl
theorem Ty.place_64_1:place Tryz.prog 64 1=some (1,1):=by kernel_rfl
theorem Ty.place_64_2:place Tryz.prog 64 2=some (2,1):=by kernel_rfl
theorem Ty.place_64_3:place Tryz.prog 64 3=some (3,1):=by kernel_rfl
theorem Ty.place_64_4:place Tryz.prog 64 4=some (4,1):=by kernel_rfl
theorem Ty.place_64_5:place Tryz.prog 64 5=some (5,1):=by kernel_rfl
theorem Ty.place_64_6:place Tryz.prog 64 6=some (6,1):=by kernel_rfl
theorem Ty.place_74_0:place Tryz.prog 74 0=some (0,1):=by kernel_rfl
theorem Ty.place_74_1:place Tryz.prog 74 1=some (1,1):=by kernel_rfl
theorem Ty.place_74_2:place Tryz.prog 74 2=some (2,1):=by kernel_rfl
theorem Ty.place_74_3:place Tryz.prog 74 3=some (3,1):=by kernel_rfl
theorem Ty.place_80_0:place Tryz.prog 80 0=some (0,1):=by kernel_rfl
theorem Ty.place_80_1:place Tryz.prog 80 1=some (1,1):=by kernel_rfl
theorem Ty.place_80_2:place Tryz.prog 80 2=some (2,1):=by kernel_rfl
theorem Ty.place_80_3:place Tryz.prog 80 3=some (3,1):=by kernel_rfl
theorem Ty.place_80_4:place Tryz.prog 80 4=some (4,1):=by kernel_rfl
theorem Ty.place_80_5:place Tryz.prog 80 5=some (5,1):=by kernel_rfl
theorem Ty.place_80_6:place Tryz.prog 80 6=some (6,1):=by kernel_rfl
theorem Ty.place_80_7:place Tryz.prog 80 7=some (7,1):=by kernel_rfl
theorem Ty.place_80_8:place Tryz.prog 80 8=some (8,1):=by kernel_rfl
theorem Ty.place_85_0:place Tryz.prog 85 0=some (0,1):=by kernel_rfl
theorem Ty.place_85_1:place Tryz.prog 85 1=some (1,168):=by kernel_rfl
theorem Ty.place_96_0:place Tryz.prog 96 0=some (0,1):=by kernel_rfl
theorem Ty.place_96_1:place Tryz.prog 96 1=some (1,1):=by kernel_rfl
theorem Ty.place_98_0:place Tryz.prog 98 0=some (0,1):=by kernel_rfl
theorem Ty.place_98_1:place Tryz.prog 98 1=some (1,2):=by kernel_rfl
theorem Ty.sliceSz_100:sliceSz Tryz.prog 100=some 3:=by kernel_rfl
theorem Ty.sliceSz_114:sliceSz Tryz.prog 114=some 1:=by kernel_rfl
theorem Ty.sliceSz_150:sliceSz Tryz.prog 150=some 1:=by kernel_rfl
theorem Ty.sliceSz_22:sliceSz Tryz.prog 22=some 9:=by kernel_rfl
theorem Ty.sliceSz_23:sliceSz Tryz.prog 23=some 9:=by kernel_rfl
theorem Ty.sliceSz_233:sliceSz Tryz.prog 233=some 1:=by kernel_rfl
theorem Ty.sliceSz_263:sliceSz Tryz.prog 263=some 2:=by kernel_rfl
theorem Ty.sliceSz_28:sliceSz Tryz.prog 28=some 1:=by kernel_rfl
theorem Ty.sliceSz_40:sliceSz Tryz.prog 40=some 8:=by kernel_rfl
theorem Ty.sliceSz_45:sliceSz Tryz.prog 45=some 3:=by kernel_rfl
theorem Ty.sliceSz_46:sliceSz Tryz.prog 46=some 1:=by kernel_rfl
theorem Ty.sliceSz_47:sliceSz Tryz.prog 47=some 6:=by kernel_rfl
theorem Ty.sliceSz_55:sliceSz Tryz.prog 55=some 1:=by kernel_rfl
theorem Ty.sliceSz_62:sliceSz Tryz.prog 62=some 2:=by kernel_rfl
theorem Ty.sliceSz_89:sliceSz Tryz.prog 89=some 3:=by kernel_rfl
theorem Ty.structOk_102:structOk Tryz.prog 102=true:=by kernel_rfl
theorem Ty.structOk_106:structOk Tryz.prog 106=true:=by kernel_rfl
theorem Ty.structOk_109:structOk Tryz.prog 109=true:=by kernel_rfl
theorem Ty.structOk_116:structOk Tryz.prog 116=true:=by kernel_rfl
theorem Ty.structOk_121:structOk Tryz.prog 121=true:=by kernel_rfl
theorem Ty.structOk_139:structOk Tryz.prog 139=true:=by kernel_rfl
theorem Ty.structOk_194:structOk Tryz.prog 194=true:=by kernel_rfl
theorem Ty.structOk_208:structOk Tryz.prog 208=true:=by kernel_rfl
theorem Ty.structOk_265:structOk Tryz.prog 265=true:=by kernel_rfl
theorem Ty.structOk_30:structOk Tryz.prog 30=true:=by kernel_rfl
theorem Ty.structOk_36:structOk Tryz.prog 36=true:=by kernel_rfl
theorem Ty.structOk_38:structOk Tryz.prog 38=true:=by kernel_rfl
theorem Ty.structOk_42:structOk Tryz.prog 42=true:=by kernel_rfl
theorem Ty.structOk_51:structOk Tryz.prog 51=true:=by kernel_rfl
theorem Ty.structOk_54:structOk Tryz.prog 54=true:=by kernel_rfl
theorem Ty.structOk_57:structOk Tryz.prog 57=true:=by kernel_rfl
theorem Ty.structOk_64:structOk Tryz.prog 64=true:=by kernel_rfl
theorem Ty.structOk_74:structOk Tryz.prog 74=true:=by kernel_rfl
theorem Ty.structOk_80:structOk Tryz.prog 80=true:=by kernel_rfl
theorem Ty.structOk_85:structOk Tryz.prog 85=true:=by kernel_rfl
theorem Ty.structOk_96:structOk Tryz.prog 96=true:=by kernel_rfl
theorem Ty.structOk_98:structOk Tryz.prog 98=true:=by kernel_rfl
theorem Ty.tk_100:tk Tryz.prog 100=some .one:=by kernel_rfl
theorem Ty.tk_102:tk Tryz.prog 102=some (.agg 6):=by kernel_rfl
theorem Ty.tk_106:tk Tryz.prog 106=some (.agg 8):=by kernel_rfl
theorem Ty.tk_109:tk Tryz.prog 109=some (.agg 3):=by kernel_rfl
theorem Ty.tk_114:tk Tryz.prog 114=some .one:=by kernel_rfl
theorem Ty.tk_118:tk Tryz.prog 118=some .one:=by kernel_rfl
theorem Ty.tk_119:tk Tryz.prog 119=some (.agg 12):=by kernel_rfl
theorem Ty.tk_139:tk Tryz.prog 139=some (.agg 26):=by kernel_rfl
theorem Ty.tk_188:tk Tryz.prog 188=some .one:=by kernel_rfl
theorem Ty.tk_194:tk Tryz.prog 194=some (.agg 3):=by kernel_rfl
theorem Ty.tk_208:tk Tryz.prog 208=some (.agg 17):=by kernel_rfl
theorem Ty.tk_244:tk Tryz.prog 244=some (.agg 256):=by kernel_rfl
theorem Ty.tk_25:tk Tryz.prog 25=some .one:=by kernel_rfl
theorem Ty.tk_265:tk Tryz.prog 265=some (.agg 2):=by kernel_rfl
theorem Ty.tk_266:tk Tryz.prog 266=some .one:=by kernel_rfl
theorem Ty.tk_28:tk Tryz.prog 28=some .one:=by kernel_rfl
theorem Ty.tk_3:tk Tryz.prog 3=some .one:=by kernel_rfl
theorem Ty.tk_30:tk Tryz.prog 30=some (.agg 3):=by kernel_rfl
theorem Ty.tk_36:tk Tryz.prog 36=some (.agg 7):=by kernel_rfl
theorem Ty.tk_38:tk Tryz.prog 38=some (.agg 7):=by kernel_rfl
theorem Ty.tk_4:tk Tryz.prog 4=some .one:=by kernel_rfl
theorem Ty.tk_40:tk Tryz.prog 40=some .one:=by kernel_rfl
theorem Ty.tk_42:tk Tryz.prog 42=some (.agg 1):=by kernel_rfl
theorem Ty.tk_46:tk Tryz.prog 46=some .one:=by kernel_rfl
theorem Ty.tk_5:tk Tryz.prog 5=some .one:=by kernel_rfl
theorem Ty.tk_51:tk Tryz.prog 51=some (.agg 6):=by kernel_rfl
theorem Ty.tk_52:tk Tryz.prog 52=some .one:=by kernel_rfl
theorem Ty.tk_54:tk Tryz.prog 54=some (.agg 7):=by kernel_rfl
theorem Ty.tk_55:tk Tryz.prog 55=some .one:=by kernel_rfl
theorem Ty.tk_57:tk Tryz.prog 57=some (.agg 12):=by kernel_rfl
theorem Ty.tk_62:tk Tryz.prog 62=some .one:=by kernel_rfl
theorem Ty.tk_64:tk Tryz.prog 64=some (.agg 7):=by kernel_rfl
theorem Ty.tk_74:tk Tryz.prog 74=some (.agg 4):=by kernel_rfl
theorem Ty.tk_80:tk Tryz.prog 80=some (.agg 9):=by kernel_rfl
theorem Ty.tk_85:tk Tryz.prog 85=some (.agg 169):=by kernel_rfl
theorem Ty.tk_88:tk Tryz.prog 88=some (.agg 4):=by kernel_rfl
theorem Ty.tk_89:tk Tryz.prog 89=some .one:=by kernel_rfl
theorem Ty.tk_9:tk Tryz.prog 9=some .one:=by kernel_rfl
theorem Ty.tk_91:tk Tryz.prog 91=some (.agg 6):=by kernel_rfl
theorem Ty.tk_96:tk Tryz.prog 96=some (.agg 2):=by kernel_rfl
theorem Ty.tk_98:tk Tryz.prog 98=some (.agg 3):=by kernel_rfl
attribute [push_cast] Ty.appSz_100 Ty.appSz_114 Ty.appSz_263 Ty.appSz_28 Ty.appSz_40 Ty.appSz_46 Ty.appSz_55 Ty.appSz_62 Ty.appSz_89 Ty.arrSz_119 Ty.arrSz_244 Ty.arrSz_83 Ty.arrSz_88 Ty.arrTK_119 Ty.arrTK_244 Ty.arrTK_83 Ty.arrTK_88 Ty.azero_102 Ty.azero_106 Ty.azero_109 Ty.azero_116 Ty.azero_121 Ty.azero_124 Ty.azero_139 Ty.azero_194 Ty.azero_208 Ty.azero_24 Ty.azero_265 Ty.azero_266 Ty.azero_3 Ty.azero_30 Ty.azero_36 Ty.azero_38 Ty.azero_42 Ty.azero_51 Ty.azero_54 Ty.azero_55 Ty.azero_57 Ty.azero_64 Ty.azero_74 Ty.azero_80 Ty.azero_91 Ty.azero_96 Ty.azero_98 Ty.eqTop_118 Ty.eqTop_129 Ty.eqTop_136 Ty.eqTop_25 Ty.eqTop_36 Ty.eqTop_4 Ty.eqTop_48 Ty.eqTop_54 Ty.eqTop_96 Ty.fldOff_102_0 Ty.fldOff_102_1 Ty.fldOff_102_2 Ty.fldOff_102_3 Ty.fldOff_102_4 Ty.fldOff_102_5 Ty.fldOff_106_0 Ty.fldOff_106_1 Ty.fldOff_106_2 Ty.fldOff_106_3 Ty.fldOff_106_4 Ty.fldOff_106_5 Ty.fldOff_106_6 Ty.fldOff_106_7 Ty.fldOff_109_0 Ty.fldOff_109_1 Ty.fldOff_109_2 Ty.fldOff_116_0 Ty.fldOff_116_1 Ty.fldOff_121_0 Ty.fldOff_121_1 Ty.fldOff_121_2 Ty.fldOff_139_0 Ty.fldOff_139_1 Ty.fldOff_139_2 Ty.fldOff_139_3 Ty.fldOff_139_4 Ty.fldOff_139_5 Ty.fldOff_194_0 Ty.fldOff_194_1 Ty.fldOff_194_2 Ty.fldOff_208_0 Ty.fldOff_208_1 Ty.fldOff_208_2 Ty.fldOff_265_0 Ty.fldOff_265_1 Ty.fldOff_30_0 Ty.fldOff_30_1 Ty.fldOff_30_2 Ty.fldOff_36_0 Ty.fldOff_36_1 Ty.fldOff_36_2 Ty.fldOff_36_3 Ty.fldOff_36_4 Ty.fldOff_36_5 Ty.fldOff_36_6 Ty.fldOff_38_0 Ty.fldOff_38_1 Ty.fldOff_38_2 Ty.fldOff_38_3 Ty.fldOff_38_4 Ty.fldOff_38_5 Ty.fldOff_38_6 Ty.fldOff_42_0 Ty.fldOff_51_0 Ty.fldOff_51_1 Ty.fldOff_51_2 Ty.fldOff_51_3 Ty.fldOff_51_4 Ty.fldOff_51_5 Ty.fldOff_54_0 Ty.fldOff_54_1 Ty.fldOff_57_0 Ty.fldOff_57_2 Ty.fldOff_57_3 Ty.fldOff_57_4 Ty.fldOff_64_0 Ty.fldOff_64_1 Ty.fldOff_64_2 Ty.fldOff_64_3 Ty.fldOff_64_4 Ty.fldOff_64_5 Ty.fldOff_64_6 Ty.fldOff_74_0 Ty.fldOff_74_1 Ty.fldOff_74_2 Ty.fldOff_74_3 Ty.fldOff_80_0 Ty.fldOff_80_1 Ty.fldOff_80_2 Ty.fldOff_80_3 Ty.fldOff_80_4 Ty.fldOff_80_5 Ty.fldOff_80_6 Ty.fldOff_80_7 Ty.fldOff_80_8 Ty.fldOff_82_0 Ty.fldOff_82_1 Ty.fldOff_82_2 Ty.fldOff_85_0 Ty.fldOff_85_1 Ty.fldOff_91_0 Ty.fldOff_91_1 Ty.fldOff_91_2 Ty.fldOff_96_0 Ty.fldOff_96_1 Ty.fldOff_98_0 Ty.fldOff_98_1 Ty.fldTK_36_0 Ty.fldTK_64_2 Ty.intT_21 Ty.intT_240 Ty.intT_259 Ty.intT_266 Ty.intT_3 Ty.intT_5 Ty.intT_9 Ty.isBytesT_46 Ty.isSliceT_100 Ty.isSliceT_114 Ty.isSliceT_150 Ty.isSliceT_22 Ty.isSliceT_23 Ty.isSliceT_233 Ty.isSliceT_263 Ty.isSliceT_28 Ty.isSliceT_40 Ty.isSliceT_45 Ty.isSliceT_46 Ty.isSliceT_47 Ty.isSliceT_55 Ty.isSliceT_62 Ty.isSliceT_89 Ty.isStrT_9 Ty.known_21 Ty.known_240 Ty.known_259 Ty.known_261 Ty.known_3 Ty.known_5 Ty.known_60 Ty.litSz_100 Ty.litSz_114 Ty.litSz_150 Ty.litSz_22 Ty.litSz_233 Ty.litSz_263 Ty.litSz_28 Ty.litSz_45 Ty.litSz_46 Ty.litSz_55 Ty.litSz_62 Ty.litSz_89 Ty.makeT_263 Ty.makeT_40 Ty.makeT_46 Ty.makeT_55 Ty.makeT_62 Ty.mapT_126 Ty.mapT_142 Ty.place_102_0 Ty.place_102_1 Ty.place_102_2 Ty.place_102_3 Ty.place_102_4 Ty.place_102_5 Ty.place_106_0 Ty.place_106_1 Ty.place_106_2 Ty.place_106_3 Ty.place_106_4 Ty.place_106_5 Ty.place_106_6 Ty.place_106_7 Ty.place_109_0 Ty.place_109_1 Ty.place_109_2 Ty.place_116_0 Ty.place_116_1 Ty.place_121_0 Ty.place_121_1 Ty.place_121_2 Ty.place_139_0 Ty.place_139_1 Ty.place_139_2 Ty.place_139_3 Ty.place_139_4 Ty.place_139_5 Ty.place_194_0 Ty.place_194_1 Ty.place_194_2 Ty.place_208_0 Ty.place_208_1 Ty.place_208_2 Ty.place_265_0 Ty.place_265_1 Ty.place_30_0 Ty.place_30_1 Ty.place_30_2 Ty.place_36_0 Ty.place_36_1 Ty.place_36_2 Ty.place_36_3 Ty.place_36_4 Ty.place_36_5 Ty.place_36_6 Ty.place_38_0 Ty.place_38_1 Ty.place_38_2 Ty.place_38_3 Ty.place_38_4 Ty.place_38_5 Ty.place_38_6 Ty.place_42_0 Ty.place_51_0 Ty.place_51_1 Ty.place_51_2 Ty.place_51_3 Ty.place_51_4 Ty.place_51_5 Ty.place_54_0 Ty.place_54_1 Ty.place_54_2 Ty.place_54_3 Ty.place_54_4 Ty.place_54_5 Ty.place_54_6 Ty.place_57_0 Ty.place_57_1 Ty.place_57_2 Ty.place_57_3 Ty.place_57_4 Ty.place_57_5 Ty.place_64_0 Ty.place_64_1 Ty.place_64_2 Ty.place_64_3 Ty.place_64_4 Ty.place_64_5 Ty.place_64_6 Ty.place_74_0 Ty.place_74_1 Ty.place_74_2 Ty.place_74_3 Ty.place_80_0 Ty.place_80_1 Ty.place_80_2 Ty.place_80_3 Ty.place_80_4 Ty.place_80_5 Ty.place_80_6 Ty.place_80_7 Ty.place_80_8 Ty.place_85_0 Ty.place_85_1 Ty.place_96_0 Ty.place_96_1 Ty.place_98_0 Ty.place_98_1 Ty.sliceSz_100 Ty.sliceSz_114 Ty.sliceSz_150 Ty.sliceSz_22 Ty.sliceSz_23 Ty.sliceSz_233 Ty.sliceSz_263 Ty.sliceSz_28 Ty.sliceSz_40 Ty.sliceSz_45 Ty.sliceSz_46 Ty.sliceSz_47 Ty.sliceSz_55 Ty.sliceSz_62 Ty.sliceSz_89 Ty.structOk_102 Ty.structOk_106 Ty.structOk_109 Ty.structOk_116 Ty.structOk_121 Ty.structOk_139 Ty.structOk_194 Ty.structOk_208 Ty.structOk_265 Ty.structOk_30 Ty.structOk_36 Ty.structOk_38 Ty.structOk_42 Ty.structOk_51 Ty.structOk_54 Ty.structOk_57 Ty.structOk_64 Ty.structOk_74 Ty.structOk_80 Ty.structOk_85 Ty.structOk_96 Ty.structOk_98 Ty.tk_100 Ty.tk_102 Ty.tk_106 Ty.tk_109 Ty.tk_114 Ty.tk_118 Ty.tk_119 Ty.tk_139 Ty.tk_188 Ty.tk_194 Ty.tk_208 Ty.tk_244 Ty.tk_25 Ty.tk_265 Ty.tk_266 Ty.tk_28 Ty.tk_3 Ty.tk_30 Ty.tk_36 Ty.tk_38 Ty.tk_4 Ty.tk_40 Ty.tk_42 Ty.tk_46 Ty.tk_5 Ty.tk_51 Ty.tk_52 Ty.tk_54 Ty.tk_55 Ty.tk_57 Ty.tk_62 Ty.tk_64 Ty.tk_74 Ty.tk_80 Ty.tk_85 Ty.tk_88 Ty.tk_89 Ty.tk_9 Ty.tk_91 Ty.tk_96 Ty.tk_98
end Go.Proofs.YtjmlgeckgieaaaaGreat
