import Derived.Test.YtmgnbgniikjhdaaGreatFc
import Derived.Test.YtmgnbgniikjhdaaGreatProg
import Derived.KernelRfl
/-
  What the program's own tables say of its types, as the framework asks it (by a program of this session's own).
-/
set_option linter.unusedVariables false
set_option linter.unusedSimpArgs false
namespace Go.Proofs.YtmgnbgniikjhdaaGreat
open Go.Ab
theorem Ty.appSz_108:appSz Tryz.prog 108=some (4,24):=by kernel_rfl
theorem Ty.appSz_116:appSz Tryz.prog 116=some (1,8):=by kernel_rfl
theorem Ty.appSz_136:appSz Tryz.prog 136=some (2,24):=by kernel_rfl
theorem Ty.appSz_143:appSz Tryz.prog 143=some (2,24):=by kernel_rfl
theorem Ty.appSz_23:appSz Tryz.prog 23=some (1,8):=by kernel_rfl
theorem Ty.appSz_30:appSz Tryz.prog 30=some (8,112):=by kernel_rfl
theorem Ty.appSz_33:appSz Tryz.prog 33=some (5,72):=by kernel_rfl
theorem Ty.appSz_342:appSz Tryz.prog 342=some (2,16):=by kernel_rfl
theorem Ty.appSz_36:appSz Tryz.prog 36=some (2,24):=by kernel_rfl
theorem Ty.appSz_37:appSz Tryz.prog 37=some (1,16):=by kernel_rfl
theorem Ty.appSz_59:appSz Tryz.prog 59=some (1,1):=by kernel_rfl
theorem Ty.appSz_74:appSz Tryz.prog 74=some (2,24):=by kernel_rfl
theorem Ty.appSz_84:appSz Tryz.prog 84=some (2,24):=by kernel_rfl
theorem Ty.arrSz_127:arrSz Tryz.prog 127=some (3,4):=by kernel_rfl
theorem Ty.arrSz_130:arrSz Tryz.prog 130=some (24,7):=by kernel_rfl
theorem Ty.arrSz_347:arrSz Tryz.prog 347=some (256,1):=by kernel_rfl
theorem Ty.arrTK_127:arrTK Tryz.prog 127=some (.agg 4):=by kernel_rfl
theorem Ty.arrTK_130:arrTK Tryz.prog 130=some (.agg 7):=by kernel_rfl
theorem Ty.arrTK_347:arrTK Tryz.prog 347=some .one:=by kernel_rfl
theorem Ty.azero_102:azero Tryz.prog 102=some (.agg [.int .i64 0,.int .i64 0,.int .i64 0,.int .i64 0,.int .i64 0,.int .i64 0,.int .i64 0,.int .i64 0,.int .i64 0,.str [],.slice [] .full,.str []]):=by kernel_rfl
theorem Ty.azero_106:azero Tryz.prog 106=some (.agg [.int .i64 0,.str [],.str [],.int .i64 0,.int .i64 0,.str []]):=by kernel_rfl
theorem Ty.azero_110:azero Tryz.prog 110=some (.agg [.int .i64 0,.int .i64 0,.slice [] .full,.int .i64 0,.slice [] .full]):=by kernel_rfl
theorem Ty.azero_114:azero Tryz.prog 114=some (.agg [.int .i64 0,.int .i64 0,.int .i64 0,.int .i64 0,.str [],.slice [] .full,.slice [] .full,.str []]):=by kernel_rfl
theorem Ty.azero_118:azero Tryz.prog 118=some (.agg [.raw (.pointer none),.slice [] .full]):=by kernel_rfl
theorem Ty.azero_120:azero Tryz.prog 120=some (.agg [.str [],.str [],.int .i64 0,.int .i64 0,.int .i64 0,.int .i64 0,.int .i64 0,.str [],.int .i64 0,.raw .nilFunc]):=by kernel_rfl
theorem Ty.azero_126:azero Tryz.prog 126=some (.agg [.int .i64 0,.int .i64 0,.bool false,.bool false]):=by kernel_rfl
theorem Ty.azero_129:azero Tryz.prog 129=some (.agg [.int .i64 0,.int .i64 0,.slice [] .full,.int .i64 0,.int .i64 0,.int .i64 0,.bool false,.bool false,.int .i64 0,.int .i64 0,.bool false,.bool false,.int .i64 0,.int .i64 0,.bool false,.bool false]):=by kernel_rfl
theorem Ty.azero_138:azero Tryz.prog 138=some (.agg [.slice [] .full,.slice [] .full]):=by kernel_rfl
theorem Ty.azero_145:azero Tryz.prog 145=some (.agg [.slice [] .full,.slice [] .full,.bool false]):=by kernel_rfl
theorem Ty.azero_159:azero Tryz.prog 159=some (.agg [.str [],.int .i64 0]):=by kernel_rfl
theorem Ty.azero_171:azero Tryz.prog 171=some (.raw .nilFunc):=by kernel_rfl
theorem Ty.azero_179:azero Tryz.prog 179=some (.agg [.slice [] .full,.slice [] .full,.str [],.slice [] .full]):=by kernel_rfl
theorem Ty.azero_192:azero Tryz.prog 192=some (.agg [.int .i64 0,.str [],.int .i64 0]):=by kernel_rfl
theorem Ty.azero_204:azero Tryz.prog 204=some (.agg [.int .i64 0,.int .i64 0,.bool false,.bool false]):=by kernel_rfl
theorem Ty.azero_227:azero Tryz.prog 227=some (.agg [.int .u8 0,.str []]):=by kernel_rfl
theorem Ty.azero_230:azero Tryz.prog 230=some (.agg [.int .u8 0,.str []]):=by kernel_rfl
theorem Ty.azero_25:azero Tryz.prog 25=some (.agg [.int .i64 0,.int .i64 0,.slice [] .full]):=by kernel_rfl
theorem Ty.azero_276:azero Tryz.prog 276=some (.agg [.int .i64 0,.str [],.int .i64 0,.int .i64 0,.int .i64 0,.int .i64 0,.int .i64 0,.slice [] .full,.slice [] .full,.str [],.int .i64 0,.int .i64 0,.int .i64 0,.int .i64 0,.slice [] .full,.slice [] .full,.str []]):=by kernel_rfl
theorem Ty.azero_291:azero Tryz.prog 291=some (.agg [.int .i64 0,.str [],.int .i64 0]):=by kernel_rfl
theorem Ty.azero_3:azero Tryz.prog 3=some (.int .i64 0):=by kernel_rfl
theorem Ty.azero_32:azero Tryz.prog 32=some (.agg [.slice [] .full]):=by kernel_rfl
theorem Ty.azero_324:azero Tryz.prog 324=some (.agg [.slice [] .full,.int .i64 0,.int .i64 0,.bool false,.int .i64 0,.str [],.int .i64 0,.int .i64 0]):=by kernel_rfl
theorem Ty.azero_344:azero Tryz.prog 344=some (.agg [.int .i64 0,.int .i64 0]):=by kernel_rfl
theorem Ty.azero_35:azero Tryz.prog 35=some (.agg [.slice [] .full,.slice [] .full]):=by kernel_rfl
theorem Ty.azero_368:azero Tryz.prog 368=some (.int .u64 0):=by kernel_rfl
theorem Ty.azero_37:azero Tryz.prog 37=some (.slice [] .full):=by kernel_rfl
theorem Ty.azero_39:azero Tryz.prog 39=some (.agg [.slice [] .full,.slice [] .full,.int .i64 0,.slice [] .full,.slice [] .full,.int .i64 0]):=by kernel_rfl
theorem Ty.azero_42:azero Tryz.prog 42=some (.agg [.str [],.int .i64 0]):=by kernel_rfl
theorem Ty.azero_49:azero Tryz.prog 49=some (.agg [.int .i64 0,.int .i64 0,.slice [] .full]):=by kernel_rfl
theorem Ty.azero_56:azero Tryz.prog 56=some (.agg [.str [],.int .i64 0]):=by kernel_rfl
theorem Ty.azero_61:azero Tryz.prog 61=some (.agg [.int .i64 0,.str [],.str [],.int .i64 0,.int .i64 0,.slice [] .full]):=by kernel_rfl
theorem Ty.azero_64:azero Tryz.prog 64=some (.agg [.int .i64 0,.int .i64 0,.int .i64 0,.int .i64 0,.int .i64 0,.int .i64 0,.int .i64 0]):=by kernel_rfl
theorem Ty.azero_66:azero Tryz.prog 66=some (.agg [.int .i64 0,.int .i64 0,.int .i64 0,.int .i64 0,.int .i64 0,.int .i64 0,.int .i64 0,.int .i64 0,.int .i64 0,.str [],.slice [] .full,.slice [] .full]):=by kernel_rfl
theorem Ty.azero_76:azero Tryz.prog 76=some (.agg [.int .i64 0,.int .i64 0,.int .i64 0,.int .i64 0,.slice [] .full,.slice [] .full,.str []]):=by kernel_rfl
theorem Ty.azero_90:azero Tryz.prog 90=some (.agg [.slice [] .full,.slice [] .full,.bool false,.bool false,.str [],.slice [] .full,.str [],.str [],.int .i64 0,.int .i64 0,.int .i64 0,.int .i64 0,.int .i64 0,.int .i64 0,.int .i64 0,.raw (.pointer none),.raw .nilFunc]):=by kernel_rfl
theorem Ty.azero_97:azero Tryz.prog 97=some (.agg [.int .i64 0,.int .i64 0,.int .i64 0,.int .i64 0,.int .i64 0,.str [],.slice [] .full,.str [],.int .i64 0]):=by kernel_rfl
theorem Ty.eqTop_124:eqTop Tryz.prog 124=some (.ptr):=by kernel_rfl
theorem Ty.eqTop_133:eqTop Tryz.prog 133=some (.ptr):=by kernel_rfl
theorem Ty.eqTop_152:eqTop Tryz.prog 152=some (.ptr):=by kernel_rfl
theorem Ty.eqTop_159:eqTop Tryz.prog 159=some (.strukt (.cons 0 .one .str (.cons 1 .one .int .nil))):=by kernel_rfl
theorem Ty.eqTop_207:eqTop Tryz.prog 207=some (.ptr):=by kernel_rfl
theorem Ty.eqTop_27:eqTop Tryz.prog 27=some (.ptr):=by kernel_rfl
theorem Ty.eqTop_4:eqTop Tryz.prog 4=some (.bool):=by kernel_rfl
theorem Ty.eqTop_47:eqTop Tryz.prog 47=some (.ptr):=by kernel_rfl
theorem Ty.eqTop_52:eqTop Tryz.prog 52=some (.ptr):=by kernel_rfl
theorem Ty.eqTop_56:eqTop Tryz.prog 56=some (.strukt (.cons 0 .one .str (.cons 1 .one .int .nil))):=by kernel_rfl
theorem Ty.eqTop_64:eqTop Tryz.prog 64=some (.strukt (.cons 0 .one .int (.cons 1 .one .int (.cons 2 .one .int (.cons 3 .one .int (.cons 4 .one .int (.cons 5 .one .int (.cons 6 .one .int .nil)))))))):=by kernel_rfl
theorem Ty.eqTop_79:eqTop Tryz.prog 79=some (.ptr):=by kernel_rfl
theorem Ty.eqTop_88:eqTop Tryz.prog 88=some (.func):=by kernel_rfl
theorem Ty.fldOff_102_0:fldOff Tryz.prog 102 0=some 0:=by kernel_rfl
theorem Ty.fldOff_102_1:fldOff Tryz.prog 102 1=some 1:=by kernel_rfl
theorem Ty.fldOff_102_2:fldOff Tryz.prog 102 2=some 2:=by kernel_rfl
theorem Ty.fldOff_102_3:fldOff Tryz.prog 102 3=some 9:=by kernel_rfl
theorem Ty.fldOff_102_4:fldOff Tryz.prog 102 4=some 10:=by kernel_rfl
theorem Ty.fldOff_102_5:fldOff Tryz.prog 102 5=some 11:=by kernel_rfl
theorem Ty.fldOff_106_0:fldOff Tryz.prog 106 0=some 0:=by kernel_rfl
theorem Ty.fldOff_106_1:fldOff Tryz.prog 106 1=some 1:=by kernel_rfl
theorem Ty.fldOff_106_2:fldOff Tryz.prog 106 2=some 2:=by kernel_rfl
theorem Ty.fldOff_106_3:fldOff Tryz.prog 106 3=some 3:=by kernel_rfl
theorem Ty.fldOff_106_4:fldOff Tryz.prog 106 4=some 4:=by kernel_rfl
theorem Ty.fldOff_106_5:fldOff Tryz.prog 106 5=some 5:=by kernel_rfl
theorem Ty.fldOff_110_0:fldOff Tryz.prog 110 0=some 0:=by kernel_rfl
theorem Ty.fldOff_110_1:fldOff Tryz.prog 110 1=some 3:=by kernel_rfl
theorem Ty.fldOff_110_2:fldOff Tryz.prog 110 2=some 4:=by kernel_rfl
theorem Ty.fldOff_114_0:fldOff Tryz.prog 114 0=some 0:=by kernel_rfl
theorem Ty.fldOff_114_1:fldOff Tryz.prog 114 1=some 1:=by kernel_rfl
theorem Ty.fldOff_114_2:fldOff Tryz.prog 114 2=some 2:=by kernel_rfl
theorem Ty.fldOff_114_3:fldOff Tryz.prog 114 3=some 3:=by kernel_rfl
theorem Ty.fldOff_114_4:fldOff Tryz.prog 114 4=some 4:=by kernel_rfl
theorem Ty.fldOff_114_5:fldOff Tryz.prog 114 5=some 5:=by kernel_rfl
theorem Ty.fldOff_114_6:fldOff Tryz.prog 114 6=some 6:=by kernel_rfl
theorem Ty.fldOff_114_7:fldOff Tryz.prog 114 7=some 7:=by kernel_rfl
theorem Ty.fldOff_118_0:fldOff Tryz.prog 118 0=some 0:=by kernel_rfl
theorem Ty.fldOff_118_1:fldOff Tryz.prog 118 1=some 1:=by kernel_rfl
theorem Ty.fldOff_120_0:fldOff Tryz.prog 120 0=some 0:=by kernel_rfl
theorem Ty.fldOff_120_1:fldOff Tryz.prog 120 1=some 1:=by kernel_rfl
theorem Ty.fldOff_120_2:fldOff Tryz.prog 120 2=some 2:=by kernel_rfl
theorem Ty.fldOff_120_3:fldOff Tryz.prog 120 3=some 3:=by kernel_rfl
theorem Ty.fldOff_120_4:fldOff Tryz.prog 120 4=some 4:=by kernel_rfl
theorem Ty.fldOff_120_5:fldOff Tryz.prog 120 5=some 5:=by kernel_rfl
theorem Ty.fldOff_120_6:fldOff Tryz.prog 120 6=some 6:=by kernel_rfl
theorem Ty.fldOff_120_7:fldOff Tryz.prog 120 7=some 7:=by kernel_rfl
theorem Ty.fldOff_120_8:fldOff Tryz.prog 120 8=some 9:=by kernel_rfl
theorem Ty.fldOff_126_0:fldOff Tryz.prog 126 0=some 0:=by kernel_rfl
theorem Ty.fldOff_126_1:fldOff Tryz.prog 126 1=some 1:=by kernel_rfl
theorem Ty.fldOff_126_2:fldOff Tryz.prog 126 2=some 2:=by kernel_rfl
theorem Ty.fldOff_126_3:fldOff Tryz.prog 126 3=some 3:=by kernel_rfl
theorem Ty.fldOff_129_0:fldOff Tryz.prog 129 0=some 0:=by kernel_rfl
theorem Ty.fldOff_129_1:fldOff Tryz.prog 129 1=some 3:=by kernel_rfl
theorem Ty.fldOff_129_2:fldOff Tryz.prog 129 2=some 4:=by kernel_rfl
theorem Ty.fldOff_132_0:fldOff Tryz.prog 132 0=some 0:=by kernel_rfl
theorem Ty.fldOff_132_1:fldOff Tryz.prog 132 1=some 1:=by kernel_rfl
theorem Ty.fldOff_138_0:fldOff Tryz.prog 138 0=some 0:=by kernel_rfl
theorem Ty.fldOff_138_1:fldOff Tryz.prog 138 1=some 1:=by kernel_rfl
theorem Ty.fldOff_145_0:fldOff Tryz.prog 145 0=some 0:=by kernel_rfl
theorem Ty.fldOff_145_1:fldOff Tryz.prog 145 1=some 1:=by kernel_rfl
theorem Ty.fldOff_145_2:fldOff Tryz.prog 145 2=some 2:=by kernel_rfl
theorem Ty.fldOff_159_0:fldOff Tryz.prog 159 0=some 0:=by kernel_rfl
theorem Ty.fldOff_159_1:fldOff Tryz.prog 159 1=some 1:=by kernel_rfl
theorem Ty.fldOff_179_0:fldOff Tryz.prog 179 0=some 0:=by kernel_rfl
theorem Ty.fldOff_179_1:fldOff Tryz.prog 179 1=some 2:=by kernel_rfl
theorem Ty.fldOff_179_2:fldOff Tryz.prog 179 2=some 3:=by kernel_rfl
theorem Ty.fldOff_192_0:fldOff Tryz.prog 192 0=some 0:=by kernel_rfl
theorem Ty.fldOff_192_1:fldOff Tryz.prog 192 1=some 1:=by kernel_rfl
theorem Ty.fldOff_192_2:fldOff Tryz.prog 192 2=some 2:=by kernel_rfl
theorem Ty.fldOff_204_0:fldOff Tryz.prog 204 0=some 0:=by kernel_rfl
theorem Ty.fldOff_204_1:fldOff Tryz.prog 204 1=some 1:=by kernel_rfl
theorem Ty.fldOff_204_2:fldOff Tryz.prog 204 2=some 2:=by kernel_rfl
theorem Ty.fldOff_204_3:fldOff Tryz.prog 204 3=some 3:=by kernel_rfl
theorem Ty.fldOff_227_0:fldOff Tryz.prog 227 0=some 0:=by kernel_rfl
theorem Ty.fldOff_227_1:fldOff Tryz.prog 227 1=some 1:=by kernel_rfl
theorem Ty.fldOff_25_0:fldOff Tryz.prog 25 0=some 0:=by kernel_rfl
theorem Ty.fldOff_25_1:fldOff Tryz.prog 25 1=some 1:=by kernel_rfl
theorem Ty.fldOff_25_2:fldOff Tryz.prog 25 2=some 2:=by kernel_rfl
theorem Ty.fldOff_276_0:fldOff Tryz.prog 276 0=some 0:=by kernel_rfl
theorem Ty.fldOff_276_1:fldOff Tryz.prog 276 1=some 3:=by kernel_rfl
theorem Ty.fldOff_276_2:fldOff Tryz.prog 276 2=some 10:=by kernel_rfl
theorem Ty.fldOff_291_0:fldOff Tryz.prog 291 0=some 0:=by kernel_rfl
theorem Ty.fldOff_291_1:fldOff Tryz.prog 291 1=some 1:=by kernel_rfl
theorem Ty.fldOff_291_2:fldOff Tryz.prog 291 2=some 2:=by kernel_rfl
theorem Ty.fldOff_324_0:fldOff Tryz.prog 324 0=some 0:=by kernel_rfl
theorem Ty.fldOff_324_1:fldOff Tryz.prog 324 1=some 1:=by kernel_rfl
theorem Ty.fldOff_324_2:fldOff Tryz.prog 324 2=some 2:=by kernel_rfl
theorem Ty.fldOff_324_3:fldOff Tryz.prog 324 3=some 3:=by kernel_rfl
theorem Ty.fldOff_324_4:fldOff Tryz.prog 324 4=some 4:=by kernel_rfl
theorem Ty.fldOff_324_5:fldOff Tryz.prog 324 5=some 7:=by kernel_rfl
theorem Ty.fldOff_32_0:fldOff Tryz.prog 32 0=some 0:=by kernel_rfl
theorem Ty.fldOff_344_0:fldOff Tryz.prog 344 0=some 0:=by kernel_rfl
theorem Ty.fldOff_344_1:fldOff Tryz.prog 344 1=some 1:=by kernel_rfl
theorem Ty.fldOff_35_0:fldOff Tryz.prog 35 0=some 0:=by kernel_rfl
theorem Ty.fldOff_35_1:fldOff Tryz.prog 35 1=some 1:=by kernel_rfl
theorem Ty.fldOff_39_0:fldOff Tryz.prog 39 0=some 0:=by kernel_rfl
theorem Ty.fldOff_39_1:fldOff Tryz.prog 39 1=some 2:=by kernel_rfl
theorem Ty.fldOff_39_2:fldOff Tryz.prog 39 2=some 3:=by kernel_rfl
theorem Ty.fldOff_39_4:fldOff Tryz.prog 39 4=some 5:=by kernel_rfl
theorem Ty.fldOff_42_0:fldOff Tryz.prog 42 0=some 0:=by kernel_rfl
theorem Ty.fldOff_42_1:fldOff Tryz.prog 42 1=some 1:=by kernel_rfl
theorem Ty.fldOff_49_0:fldOff Tryz.prog 49 0=some 0:=by kernel_rfl
theorem Ty.fldOff_49_1:fldOff Tryz.prog 49 1=some 1:=by kernel_rfl
theorem Ty.fldOff_49_2:fldOff Tryz.prog 49 2=some 2:=by kernel_rfl
theorem Ty.fldOff_56_0:fldOff Tryz.prog 56 0=some 0:=by kernel_rfl
theorem Ty.fldOff_56_1:fldOff Tryz.prog 56 1=some 1:=by kernel_rfl
theorem Ty.fldOff_61_0:fldOff Tryz.prog 61 0=some 0:=by kernel_rfl
theorem Ty.fldOff_61_1:fldOff Tryz.prog 61 1=some 1:=by kernel_rfl
theorem Ty.fldOff_61_2:fldOff Tryz.prog 61 2=some 2:=by kernel_rfl
theorem Ty.fldOff_61_3:fldOff Tryz.prog 61 3=some 3:=by kernel_rfl
theorem Ty.fldOff_61_4:fldOff Tryz.prog 61 4=some 4:=by kernel_rfl
theorem Ty.fldOff_61_5:fldOff Tryz.prog 61 5=some 5:=by kernel_rfl
theorem Ty.fldOff_64_0:fldOff Tryz.prog 64 0=some 0:=by kernel_rfl
theorem Ty.fldOff_64_1:fldOff Tryz.prog 64 1=some 1:=by kernel_rfl
theorem Ty.fldOff_64_2:fldOff Tryz.prog 64 2=some 2:=by kernel_rfl
theorem Ty.fldOff_64_3:fldOff Tryz.prog 64 3=some 3:=by kernel_rfl
theorem Ty.fldOff_64_4:fldOff Tryz.prog 64 4=some 4:=by kernel_rfl
theorem Ty.fldOff_66_0:fldOff Tryz.prog 66 0=some 0:=by kernel_rfl
theorem Ty.fldOff_66_1:fldOff Tryz.prog 66 1=some 1:=by kernel_rfl
theorem Ty.fldOff_66_2:fldOff Tryz.prog 66 2=some 2:=by kernel_rfl
theorem Ty.fldOff_66_3:fldOff Tryz.prog 66 3=some 9:=by kernel_rfl
theorem Ty.fldOff_66_4:fldOff Tryz.prog 66 4=some 10:=by kernel_rfl
theorem Ty.fldOff_66_5:fldOff Tryz.prog 66 5=some 11:=by kernel_rfl
theorem Ty.fldOff_76_0:fldOff Tryz.prog 76 0=some 0:=by kernel_rfl
theorem Ty.fldOff_76_1:fldOff Tryz.prog 76 1=some 1:=by kernel_rfl
theorem Ty.fldOff_76_2:fldOff Tryz.prog 76 2=some 2:=by kernel_rfl
theorem Ty.fldOff_76_3:fldOff Tryz.prog 76 3=some 3:=by kernel_rfl
theorem Ty.fldOff_76_4:fldOff Tryz.prog 76 4=some 4:=by kernel_rfl
theorem Ty.fldOff_76_5:fldOff Tryz.prog 76 5=some 5:=by kernel_rfl
theorem Ty.fldOff_76_6:fldOff Tryz.prog 76 6=some 6:=by kernel_rfl
theorem Ty.fldOff_87_0:fldOff Tryz.prog 87 0=some 0:=by kernel_rfl
theorem Ty.fldOff_87_1:fldOff Tryz.prog 87 1=some 1:=by kernel_rfl
theorem Ty.fldOff_90_0:fldOff Tryz.prog 90 0=some 0:=by kernel_rfl
theorem Ty.fldOff_90_1:fldOff Tryz.prog 90 1=some 2:=by kernel_rfl
theorem Ty.fldOff_90_2:fldOff Tryz.prog 90 2=some 3:=by kernel_rfl
theorem Ty.fldOff_90_3:fldOff Tryz.prog 90 3=some 4:=by kernel_rfl
theorem Ty.fldOff_90_4:fldOff Tryz.prog 90 4=some 5:=by kernel_rfl
theorem Ty.fldOff_90_5:fldOff Tryz.prog 90 5=some 6:=by kernel_rfl
theorem Ty.fldOff_90_6:fldOff Tryz.prog 90 6=some 7:=by kernel_rfl
theorem Ty.fldOff_90_7:fldOff Tryz.prog 90 7=some 8:=by kernel_rfl
theorem Ty.fldOff_90_8:fldOff Tryz.prog 90 8=some 15:=by kernel_rfl
theorem Ty.fldOff_90_9:fldOff Tryz.prog 90 9=some 16:=by kernel_rfl
theorem Ty.fldOff_97_0:fldOff Tryz.prog 97 0=some 0:=by kernel_rfl
theorem Ty.fldOff_97_1:fldOff Tryz.prog 97 1=some 1:=by kernel_rfl
theorem Ty.fldOff_97_2:fldOff Tryz.prog 97 2=some 2:=by kernel_rfl
theorem Ty.fldOff_97_3:fldOff Tryz.prog 97 3=some 3:=by kernel_rfl
theorem Ty.fldOff_97_4:fldOff Tryz.prog 97 4=some 4:=by kernel_rfl
theorem Ty.fldOff_97_5:fldOff Tryz.prog 97 5=some 5:=by kernel_rfl
theorem Ty.fldOff_97_6:fldOff Tryz.prog 97 6=some 6:=by kernel_rfl
theorem Ty.fldOff_97_7:fldOff Tryz.prog 97 7=some 7:=by kernel_rfl
theorem Ty.fldOff_97_8:fldOff Tryz.prog 97 8=some 8:=by kernel_rfl
theorem Ty.fldTK_114_0:fldTK Tryz.prog 114 0=some (0,.one):=by kernel_rfl
theorem Ty.fldTK_114_2:fldTK Tryz.prog 114 2=some (2,.one):=by kernel_rfl
theorem Ty.fldTK_114_5:fldTK Tryz.prog 114 5=some (5,.one):=by kernel_rfl
theorem Ty.fldTK_114_7:fldTK Tryz.prog 114 7=some (7,.one):=by kernel_rfl
theorem Ty.intT_21:intT Tryz.prog 21=some .i32:=by kernel_rfl
theorem Ty.intT_3:intT Tryz.prog 3=some .i64:=by kernel_rfl
theorem Ty.intT_338:intT Tryz.prog 338=some .u64:=by kernel_rfl
theorem Ty.intT_363:intT Tryz.prog 363=some .u32:=by kernel_rfl
theorem Ty.intT_368:intT Tryz.prog 368=some .u64:=by kernel_rfl
theorem Ty.intT_5:intT Tryz.prog 5=some .u8:=by kernel_rfl
theorem Ty.intT_9:intT Tryz.prog 9=none:=by kernel_rfl
theorem Ty.isBytesT_59:isBytesT Tryz.prog 59=true:=by kernel_rfl
theorem Ty.isSliceT_108:isSliceT Tryz.prog 108=true:=by kernel_rfl
theorem Ty.isSliceT_116:isSliceT Tryz.prog 116=true:=by kernel_rfl
theorem Ty.isSliceT_136:isSliceT Tryz.prog 136=true:=by kernel_rfl
theorem Ty.isSliceT_143:isSliceT Tryz.prog 143=true:=by kernel_rfl
theorem Ty.isSliceT_162:isSliceT Tryz.prog 162=true:=by kernel_rfl
theorem Ty.isSliceT_22:isSliceT Tryz.prog 22=true:=by kernel_rfl
theorem Ty.isSliceT_23:isSliceT Tryz.prog 23=true:=by kernel_rfl
theorem Ty.isSliceT_30:isSliceT Tryz.prog 30=true:=by kernel_rfl
theorem Ty.isSliceT_33:isSliceT Tryz.prog 33=true:=by kernel_rfl
theorem Ty.isSliceT_339:isSliceT Tryz.prog 339=true:=by kernel_rfl
theorem Ty.isSliceT_342:isSliceT Tryz.prog 342=true:=by kernel_rfl
theorem Ty.isSliceT_36:isSliceT Tryz.prog 36=true:=by kernel_rfl
theorem Ty.isSliceT_37:isSliceT Tryz.prog 37=true:=by kernel_rfl
theorem Ty.isSliceT_51:isSliceT Tryz.prog 51=true:=by kernel_rfl
theorem Ty.isSliceT_59:isSliceT Tryz.prog 59=true:=by kernel_rfl
theorem Ty.isSliceT_70:isSliceT Tryz.prog 70=true:=by kernel_rfl
theorem Ty.isSliceT_74:isSliceT Tryz.prog 74=true:=by kernel_rfl
theorem Ty.isSliceT_84:isSliceT Tryz.prog 84=true:=by kernel_rfl
theorem Ty.isStrT_9:isStrT Tryz.prog 9=true:=by kernel_rfl
theorem Ty.known_21:known Tryz.prog 21=true:=by kernel_rfl
theorem Ty.known_3:known Tryz.prog 3=true:=by kernel_rfl
theorem Ty.known_338:known Tryz.prog 338=true:=by kernel_rfl
theorem Ty.known_363:known Tryz.prog 363=true:=by kernel_rfl
theorem Ty.known_365:known Tryz.prog 365=true:=by kernel_rfl
theorem Ty.known_5:known Tryz.prog 5=true:=by kernel_rfl
theorem Ty.litSz_116:litSz Tryz.prog 116=some 1:=by kernel_rfl
theorem Ty.litSz_136:litSz Tryz.prog 136=some 2:=by kernel_rfl
theorem Ty.litSz_143:litSz Tryz.prog 143=some 2:=by kernel_rfl
theorem Ty.litSz_162:litSz Tryz.prog 162=some 3:=by kernel_rfl
theorem Ty.litSz_22:litSz Tryz.prog 22=some 9:=by kernel_rfl
theorem Ty.litSz_23:litSz Tryz.prog 23=some 1:=by kernel_rfl
theorem Ty.litSz_33:litSz Tryz.prog 33=some 5:=by kernel_rfl
theorem Ty.litSz_339:litSz Tryz.prog 339=some 1:=by kernel_rfl
theorem Ty.litSz_342:litSz Tryz.prog 342=some 2:=by kernel_rfl
theorem Ty.litSz_36:litSz Tryz.prog 36=some 2:=by kernel_rfl
theorem Ty.litSz_37:litSz Tryz.prog 37=some 1:=by kernel_rfl
theorem Ty.litSz_51:litSz Tryz.prog 51=some 3:=by kernel_rfl
theorem Ty.litSz_59:litSz Tryz.prog 59=some 1:=by kernel_rfl
theorem Ty.litSz_74:litSz Tryz.prog 74=some 2:=by kernel_rfl
theorem Ty.litSz_84:litSz Tryz.prog 84=some 2:=by kernel_rfl
theorem Ty.makeT_108:makeT Tryz.prog 108=some (4,24,[.int .i64 0,.int .i64 0,.bool false,.bool false],true):=by kernel_rfl
theorem Ty.makeT_30:makeT Tryz.prog 30=some (8,112,[.int .i64 0,.int .i64 0,.int .i64 0,.int .i64 0,.str [],.slice [] .full,.slice [] .full,.str []],true):=by kernel_rfl
theorem Ty.makeT_342:makeT Tryz.prog 342=some (2,16,[.int .i64 0,.int .i64 0],true):=by kernel_rfl
theorem Ty.makeT_37:makeT Tryz.prog 37=some (1,16,[.str []],false):=by kernel_rfl
theorem Ty.makeT_59:makeT Tryz.prog 59=some (1,1,[.int .u8 0],false):=by kernel_rfl
theorem Ty.makeT_74:makeT Tryz.prog 74=some (2,24,[.str [],.int .i64 0],true):=by kernel_rfl
theorem Ty.mapT_173:mapT Tryz.prog 173=some (.int .i64,171):=by kernel_rfl
theorem Ty.place_102_0:place Tryz.prog 102 0=some (0,1):=by kernel_rfl
theorem Ty.place_102_1:place Tryz.prog 102 1=some (1,1):=by kernel_rfl
theorem Ty.place_102_2:place Tryz.prog 102 2=some (2,7):=by kernel_rfl
theorem Ty.place_102_3:place Tryz.prog 102 3=some (9,1):=by kernel_rfl
theorem Ty.place_102_4:place Tryz.prog 102 4=some (10,1):=by kernel_rfl
theorem Ty.place_102_5:place Tryz.prog 102 5=some (11,1):=by kernel_rfl
theorem Ty.place_106_0:place Tryz.prog 106 0=some (0,1):=by kernel_rfl
theorem Ty.place_106_1:place Tryz.prog 106 1=some (1,1):=by kernel_rfl
theorem Ty.place_106_2:place Tryz.prog 106 2=some (2,1):=by kernel_rfl
theorem Ty.place_106_3:place Tryz.prog 106 3=some (3,1):=by kernel_rfl
theorem Ty.place_106_4:place Tryz.prog 106 4=some (4,1):=by kernel_rfl
theorem Ty.place_106_5:place Tryz.prog 106 5=some (5,1):=by kernel_rfl
theorem Ty.place_110_0:place Tryz.prog 110 0=some (0,3):=by kernel_rfl
theorem Ty.place_110_1:place Tryz.prog 110 1=some (3,1):=by kernel_rfl
theorem Ty.place_110_2:place Tryz.prog 110 2=some (4,1):=by kernel_rfl
theorem Ty.place_114_0:place Tryz.prog 114 0=some (0,1):=by kernel_rfl
theorem Ty.place_114_1:place Tryz.prog 114 1=some (1,1):=by kernel_rfl
theorem Ty.place_114_2:place Tryz.prog 114 2=some (2,1):=by kernel_rfl
theorem Ty.place_114_3:place Tryz.prog 114 3=some (3,1):=by kernel_rfl
theorem Ty.place_114_4:place Tryz.prog 114 4=some (4,1):=by kernel_rfl
theorem Ty.place_114_5:place Tryz.prog 114 5=some (5,1):=by kernel_rfl
theorem Ty.place_114_6:place Tryz.prog 114 6=some (6,1):=by kernel_rfl
theorem Ty.place_114_7:place Tryz.prog 114 7=some (7,1):=by kernel_rfl
theorem Ty.place_118_0:place Tryz.prog 118 0=some (0,1):=by kernel_rfl
theorem Ty.place_118_1:place Tryz.prog 118 1=some (1,1):=by kernel_rfl
theorem Ty.place_120_0:place Tryz.prog 120 0=some (0,1):=by kernel_rfl
theorem Ty.place_120_1:place Tryz.prog 120 1=some (1,1):=by kernel_rfl
theorem Ty.place_120_2:place Tryz.prog 120 2=some (2,1):=by kernel_rfl
theorem Ty.place_120_3:place Tryz.prog 120 3=some (3,1):=by kernel_rfl
theorem Ty.place_120_4:place Tryz.prog 120 4=some (4,1):=by kernel_rfl
theorem Ty.place_120_5:place Tryz.prog 120 5=some (5,1):=by kernel_rfl
theorem Ty.place_120_6:place Tryz.prog 120 6=some (6,1):=by kernel_rfl
theorem Ty.place_120_7:place Tryz.prog 120 7=some (7,2):=by kernel_rfl
theorem Ty.place_120_8:place Tryz.prog 120 8=some (9,1):=by kernel_rfl
theorem Ty.place_126_0:place Tryz.prog 126 0=some (0,1):=by kernel_rfl
theorem Ty.place_126_1:place Tryz.prog 126 1=some (1,1):=by kernel_rfl
theorem Ty.place_126_2:place Tryz.prog 126 2=some (2,1):=by kernel_rfl
theorem Ty.place_126_3:place Tryz.prog 126 3=some (3,1):=by kernel_rfl
theorem Ty.place_129_0:place Tryz.prog 129 0=some (0,3):=by kernel_rfl
theorem Ty.place_129_1:place Tryz.prog 129 1=some (3,1):=by kernel_rfl
theorem Ty.place_129_2:place Tryz.prog 129 2=some (4,12):=by kernel_rfl
theorem Ty.place_132_0:place Tryz.prog 132 0=some (0,1):=by kernel_rfl
theorem Ty.place_132_1:place Tryz.prog 132 1=some (1,168):=by kernel_rfl
theorem Ty.place_138_0:place Tryz.prog 138 0=some (0,1):=by kernel_rfl
theorem Ty.place_138_1:place Tryz.prog 138 1=some (1,1):=by kernel_rfl
theorem Ty.place_145_0:place Tryz.prog 145 0=some (0,1):=by kernel_rfl
theorem Ty.place_145_1:place Tryz.prog 145 1=some (1,1):=by kernel_rfl
theorem Ty.place_145_2:place Tryz.prog 145 2=some (2,1):=by kernel_rfl
theorem Ty.place_159_0:place Tryz.prog 159 0=some (0,1):=by kernel_rfl
theorem Ty.place_159_1:place Tryz.prog 159 1=some (1,1):=by kernel_rfl
theorem Ty.place_179_0:place Tryz.prog 179 0=some (0,2):=by kernel_rfl
theorem Ty.place_179_1:place Tryz.prog 179 1=some (2,1):=by kernel_rfl
theorem Ty.place_179_2:place Tryz.prog 179 2=some (3,1):=by kernel_rfl
theorem Ty.place_192_0:place Tryz.prog 192 0=some (0,1):=by kernel_rfl
theorem Ty.place_192_1:place Tryz.prog 192 1=some (1,1):=by kernel_rfl
theorem Ty.place_192_2:place Tryz.prog 192 2=some (2,1):=by kernel_rfl
theorem Ty.place_204_0:place Tryz.prog 204 0=some (0,1):=by kernel_rfl
theorem Ty.place_204_1:place Tryz.prog 204 1=some (1,1):=by kernel_rfl
theorem Ty.place_204_2:place Tryz.prog 204 2=some (2,1):=by kernel_rfl
theorem Ty.place_204_3:place Tryz.prog 204 3=some (3,1):=by kernel_rfl
theorem Ty.place_227_0:place Tryz.prog 227 0=some (0,1):=by kernel_rfl
theorem Ty.place_227_1:place Tryz.prog 227 1=some (1,1):=by kernel_rfl
theorem Ty.place_230_0:place Tryz.prog 230 0=some (0,1):=by kernel_rfl
theorem Ty.place_230_1:place Tryz.prog 230 1=some (1,1):=by kernel_rfl
theorem Ty.place_25_0:place Tryz.prog 25 0=some (0,1):=by kernel_rfl
theorem Ty.place_25_1:place Tryz.prog 25 1=some (1,1):=by kernel_rfl
theorem Ty.place_25_2:place Tryz.prog 25 2=some (2,1):=by kernel_rfl
theorem Ty.place_276_0:place Tryz.prog 276 0=some (0,3):=by kernel_rfl
theorem Ty.place_276_1:place Tryz.prog 276 1=some (3,7):=by kernel_rfl
theorem Ty.place_276_2:place Tryz.prog 276 2=some (10,7):=by kernel_rfl
theorem Ty.place_291_0:place Tryz.prog 291 0=some (0,1):=by kernel_rfl
theorem Ty.place_291_1:place Tryz.prog 291 1=some (1,1):=by kernel_rfl
theorem Ty.place_291_2:place Tryz.prog 291 2=some (2,1):=by kernel_rfl
theorem Ty.place_324_0:place Tryz.prog 324 0=some (0,1):=by kernel_rfl
theorem Ty.place_324_1:place Tryz.prog 324 1=some (1,1):=by kernel_rfl
theorem Ty.place_324_2:place Tryz.prog 324 2=some (2,1):=by kernel_rfl
theorem Ty.place_324_3:place Tryz.prog 324 3=some (3,1):=by kernel_rfl
theorem Ty.place_324_4:place Tryz.prog 324 4=some (4,3):=by kernel_rfl
theorem Ty.place_324_5:place Tryz.prog 324 5=some (7,1):=by kernel_rfl
theorem Ty.place_32_0:place Tryz.prog 32 0=some (0,1):=by kernel_rfl
theorem Ty.place_344_0:place Tryz.prog 344 0=some (0,1):=by kernel_rfl
theorem Ty.place_344_1:place Tryz.prog 344 1=some (1,1):=by kernel_rfl
theorem Ty.place_35_0:place Tryz.prog 35 0=some (0,1):=by kernel_rfl
theorem Ty.place_35_1:place Tryz.prog 35 1=some (1,1):=by kernel_rfl
theorem Ty.place_39_0:place Tryz.prog 39 0=some (0,2):=by kernel_rfl
theorem Ty.place_39_1:place Tryz.prog 39 1=some (2,1):=by kernel_rfl
theorem Ty.place_39_2:place Tryz.prog 39 2=some (3,1):=by kernel_rfl
theorem Ty.place_39_3:place Tryz.prog 39 3=some (4,1):=by kernel_rfl
theorem Ty.place_39_4:place Tryz.prog 39 4=some (5,1):=by kernel_rfl
theorem Ty.place_42_0:place Tryz.prog 42 0=some (0,1):=by kernel_rfl
theorem Ty.place_42_1:place Tryz.prog 42 1=some (1,1):=by kernel_rfl
theorem Ty.place_49_0:place Tryz.prog 49 0=some (0,1):=by kernel_rfl
theorem Ty.place_49_1:place Tryz.prog 49 1=some (1,1):=by kernel_rfl
theorem Ty.place_49_2:place Tryz.prog 49 2=some (2,1):=by kernel_rfl
theorem Ty.place_56_0:place Tryz.prog 56 0=some (0,1):=by kernel_rfl
theorem Ty.place_56_1:place Tryz.prog 56 1=some (1,1):=by kernel_rfl
theorem Ty.place_61_0:place Tryz.prog 61 0=some (0,1):=by kernel_rfl
theorem Ty.place_61_1:place Tryz.prog 61 1=some (1,1):=by kernel_rfl
theorem Ty.place_61_2:place Tryz.prog 61 2=some (2,1):=by kernel_rfl
theorem Ty.place_61_3:place Tryz.prog 61 3=some (3,1):=by kernel_rfl
theorem Ty.place_61_4:place Tryz.prog 61 4=some (4,1):=by kernel_rfl
theorem Ty.place_61_5:place Tryz.prog 61 5=some (5,1):=by kernel_rfl
theorem Ty.place_64_0:place Tryz.prog 64 0=some (0,1):=by kernel_rfl
theorem Ty.place_64_1:place Tryz.prog 64 1=some (1,1):=by kernel_rfl
theorem Ty.place_64_2:place Tryz.prog 64 2=some (2,1):=by kernel_rfl
theorem Ty.place_64_3:place Tryz.prog 64 3=some (3,1):=by kernel_rfl
theorem Ty.place_64_4:place Tryz.prog 64 4=some (4,1):=by kernel_rfl
theorem Ty.place_64_5:place Tryz.prog 64 5=some (5,1):=by kernel_rfl
theorem Ty.place_64_6:place Tryz.prog 64 6=some (6,1):=by kernel_rfl
theorem Ty.place_66_0:place Tryz.prog 66 0=some (0,1):=by kernel_rfl
theorem Ty.place_66_1:place Tryz.prog 66 1=some (1,1):=by kernel_rfl
theorem Ty.place_66_2:place Tryz.prog 66 2=some (2,7):=by kernel_rfl
theorem Ty.place_66_3:place Tryz.prog 66 3=some (9,1):=by kernel_rfl
theorem Ty.place_66_4:place Tryz.prog 66 4=some (10,1):=by kernel_rfl
theorem Ty.place_66_5:place Tryz.prog 66 5=some (11,1):=by kernel_rfl
theorem Ty.place_76_0:place Tryz.prog 76 0=some (0,1):=by kernel_rfl
theorem Ty.place_76_1:place Tryz.prog 76 1=some (1,1):=by kernel_rfl
theorem Ty.place_76_2:place Tryz.prog 76 2=some (2,1):=by kernel_rfl
theorem Ty.place_76_3:place Tryz.prog 76 3=some (3,1):=by kernel_rfl
theorem Ty.place_76_4:place Tryz.prog 76 4=some (4,1):=by kernel_rfl
theorem Ty.place_76_5:place Tryz.prog 76 5=some (5,1):=by kernel_rfl
theorem Ty.place_76_6:place Tryz.prog 76 6=some (6,1):=by kernel_rfl
theorem Ty.place_90_0:place Tryz.prog 90 0=some (0,2):=by kernel_rfl
theorem Ty.place_90_1:place Tryz.prog 90 1=some (2,1):=by kernel_rfl
theorem Ty.place_90_2:place Tryz.prog 90 2=some (3,1):=by kernel_rfl
theorem Ty.place_90_3:place Tryz.prog 90 3=some (4,1):=by kernel_rfl
theorem Ty.place_90_4:place Tryz.prog 90 4=some (5,1):=by kernel_rfl
theorem Ty.place_90_5:place Tryz.prog 90 5=some (6,1):=by kernel_rfl
theorem Ty.place_90_6:place Tryz.prog 90 6=some (7,1):=by kernel_rfl
theorem Ty.place_90_7:place Tryz.prog 90 7=some (8,7):=by kernel_rfl
theorem Ty.place_90_8:place Tryz.prog 90 8=some (15,1):=by kernel_rfl
theorem Ty.place_90_9:place Tryz.prog 90 9=some (16,1):=by kernel_rfl
theorem Ty.place_97_0:place Tryz.prog 97 0=some (0,1):=by kernel_rfl
theorem Ty.place_97_1:place Tryz.prog 97 1=some (1,1):=by kernel_rfl
theorem Ty.place_97_2:place Tryz.prog 97 2=some (2,1):=by kernel_rfl
theorem Ty.place_97_3:place Tryz.prog 97 3=some (3,1):=by kernel_rfl
theorem Ty.place_97_4:place Tryz.prog 97 4=some (4,1):=by kernel_rfl
theorem Ty.place_97_5:place Tryz.prog 97 5=some (5,1):=by kernel_rfl
theorem Ty.place_97_6:place Tryz.prog 97 6=some (6,1):=by kernel_rfl
theorem Ty.place_97_7:place Tryz.prog 97 7=some (7,1):=by kernel_rfl
theorem Ty.place_97_8:place Tryz.prog 97 8=some (8,1):=by kernel_rfl
theorem Ty.sliceSz_108:sliceSz Tryz.prog 108=some 4:=by kernel_rfl
theorem Ty.sliceSz_116:sliceSz Tryz.prog 116=some 1:=by kernel_rfl
theorem Ty.sliceSz_136:sliceSz Tryz.prog 136=some 2:=by kernel_rfl
theorem Ty.sliceSz_143:sliceSz Tryz.prog 143=some 2:=by kernel_rfl
theorem Ty.sliceSz_162:sliceSz Tryz.prog 162=some 3:=by kernel_rfl
theorem Ty.sliceSz_22:sliceSz Tryz.prog 22=some 9:=by kernel_rfl
theorem Ty.sliceSz_23:sliceSz Tryz.prog 23=some 1:=by kernel_rfl
theorem Ty.sliceSz_30:sliceSz Tryz.prog 30=some 8:=by kernel_rfl
theorem Ty.sliceSz_33:sliceSz Tryz.prog 33=some 5:=by kernel_rfl
theorem Ty.sliceSz_339:sliceSz Tryz.prog 339=some 1:=by kernel_rfl
theorem Ty.sliceSz_342:sliceSz Tryz.prog 342=some 2:=by kernel_rfl
theorem Ty.sliceSz_36:sliceSz Tryz.prog 36=some 2:=by kernel_rfl
theorem Ty.sliceSz_37:sliceSz Tryz.prog 37=some 1:=by kernel_rfl
theorem Ty.sliceSz_51:sliceSz Tryz.prog 51=some 3:=by kernel_rfl
theorem Ty.sliceSz_59:sliceSz Tryz.prog 59=some 1:=by kernel_rfl
theorem Ty.sliceSz_70:sliceSz Tryz.prog 70=some 12:=by kernel_rfl
theorem Ty.sliceSz_74:sliceSz Tryz.prog 74=some 2:=by kernel_rfl
theorem Ty.sliceSz_84:sliceSz Tryz.prog 84=some 2:=by kernel_rfl
theorem Ty.structOk_102:structOk Tryz.prog 102=true:=by kernel_rfl
theorem Ty.structOk_106:structOk Tryz.prog 106=true:=by kernel_rfl
theorem Ty.structOk_110:structOk Tryz.prog 110=true:=by kernel_rfl
theorem Ty.structOk_114:structOk Tryz.prog 114=true:=by kernel_rfl
theorem Ty.structOk_118:structOk Tryz.prog 118=true:=by kernel_rfl
theorem Ty.structOk_120:structOk Tryz.prog 120=true:=by kernel_rfl
theorem Ty.structOk_126:structOk Tryz.prog 126=true:=by kernel_rfl
theorem Ty.structOk_129:structOk Tryz.prog 129=true:=by kernel_rfl
theorem Ty.structOk_132:structOk Tryz.prog 132=true:=by kernel_rfl
theorem Ty.structOk_138:structOk Tryz.prog 138=true:=by kernel_rfl
theorem Ty.structOk_145:structOk Tryz.prog 145=true:=by kernel_rfl
theorem Ty.structOk_159:structOk Tryz.prog 159=true:=by kernel_rfl
theorem Ty.structOk_179:structOk Tryz.prog 179=true:=by kernel_rfl
theorem Ty.structOk_192:structOk Tryz.prog 192=true:=by kernel_rfl
theorem Ty.structOk_204:structOk Tryz.prog 204=true:=by kernel_rfl
theorem Ty.structOk_227:structOk Tryz.prog 227=true:=by kernel_rfl
theorem Ty.structOk_230:structOk Tryz.prog 230=true:=by kernel_rfl
theorem Ty.structOk_25:structOk Tryz.prog 25=true:=by kernel_rfl
theorem Ty.structOk_276:structOk Tryz.prog 276=true:=by kernel_rfl
theorem Ty.structOk_291:structOk Tryz.prog 291=true:=by kernel_rfl
theorem Ty.structOk_32:structOk Tryz.prog 32=true:=by kernel_rfl
theorem Ty.structOk_324:structOk Tryz.prog 324=true:=by kernel_rfl
theorem Ty.structOk_344:structOk Tryz.prog 344=true:=by kernel_rfl
theorem Ty.structOk_35:structOk Tryz.prog 35=true:=by kernel_rfl
theorem Ty.structOk_39:structOk Tryz.prog 39=true:=by kernel_rfl
theorem Ty.structOk_42:structOk Tryz.prog 42=true:=by kernel_rfl
theorem Ty.structOk_49:structOk Tryz.prog 49=true:=by kernel_rfl
theorem Ty.structOk_56:structOk Tryz.prog 56=true:=by kernel_rfl
theorem Ty.structOk_61:structOk Tryz.prog 61=true:=by kernel_rfl
theorem Ty.structOk_64:structOk Tryz.prog 64=true:=by kernel_rfl
theorem Ty.structOk_66:structOk Tryz.prog 66=true:=by kernel_rfl
theorem Ty.structOk_76:structOk Tryz.prog 76=true:=by kernel_rfl
theorem Ty.structOk_90:structOk Tryz.prog 90=true:=by kernel_rfl
theorem Ty.structOk_97:structOk Tryz.prog 97=true:=by kernel_rfl
theorem Ty.tk_102:tk Tryz.prog 102=some (.agg 12):=by kernel_rfl
theorem Ty.tk_106:tk Tryz.prog 106=some (.agg 6):=by kernel_rfl
theorem Ty.tk_108:tk Tryz.prog 108=some .one:=by kernel_rfl
theorem Ty.tk_110:tk Tryz.prog 110=some (.agg 5):=by kernel_rfl
theorem Ty.tk_114:tk Tryz.prog 114=some (.agg 8):=by kernel_rfl
theorem Ty.tk_116:tk Tryz.prog 116=some .one:=by kernel_rfl
theorem Ty.tk_124:tk Tryz.prog 124=some .one:=by kernel_rfl
theorem Ty.tk_126:tk Tryz.prog 126=some (.agg 4):=by kernel_rfl
theorem Ty.tk_127:tk Tryz.prog 127=some (.agg 12):=by kernel_rfl
theorem Ty.tk_132:tk Tryz.prog 132=some (.agg 169):=by kernel_rfl
theorem Ty.tk_136:tk Tryz.prog 136=some .one:=by kernel_rfl
theorem Ty.tk_138:tk Tryz.prog 138=some (.agg 2):=by kernel_rfl
theorem Ty.tk_143:tk Tryz.prog 143=some .one:=by kernel_rfl
theorem Ty.tk_145:tk Tryz.prog 145=some (.agg 3):=by kernel_rfl
theorem Ty.tk_159:tk Tryz.prog 159=some (.agg 2):=by kernel_rfl
theorem Ty.tk_192:tk Tryz.prog 192=some (.agg 3):=by kernel_rfl
theorem Ty.tk_204:tk Tryz.prog 204=some (.agg 4):=by kernel_rfl
theorem Ty.tk_227:tk Tryz.prog 227=some (.agg 2):=by kernel_rfl
theorem Ty.tk_23:tk Tryz.prog 23=some .one:=by kernel_rfl
theorem Ty.tk_25:tk Tryz.prog 25=some (.agg 3):=by kernel_rfl
theorem Ty.tk_276:tk Tryz.prog 276=some (.agg 17):=by kernel_rfl
theorem Ty.tk_286:tk Tryz.prog 286=some .one:=by kernel_rfl
theorem Ty.tk_291:tk Tryz.prog 291=some (.agg 3):=by kernel_rfl
theorem Ty.tk_3:tk Tryz.prog 3=some .one:=by kernel_rfl
theorem Ty.tk_30:tk Tryz.prog 30=some .one:=by kernel_rfl
theorem Ty.tk_32:tk Tryz.prog 32=some (.agg 1):=by kernel_rfl
theorem Ty.tk_324:tk Tryz.prog 324=some (.agg 8):=by kernel_rfl
theorem Ty.tk_33:tk Tryz.prog 33=some .one:=by kernel_rfl
theorem Ty.tk_344:tk Tryz.prog 344=some (.agg 2):=by kernel_rfl
theorem Ty.tk_347:tk Tryz.prog 347=some (.agg 256):=by kernel_rfl
theorem Ty.tk_35:tk Tryz.prog 35=some (.agg 2):=by kernel_rfl
theorem Ty.tk_36:tk Tryz.prog 36=some .one:=by kernel_rfl
theorem Ty.tk_368:tk Tryz.prog 368=some .one:=by kernel_rfl
theorem Ty.tk_37:tk Tryz.prog 37=some .one:=by kernel_rfl
theorem Ty.tk_39:tk Tryz.prog 39=some (.agg 6):=by kernel_rfl
theorem Ty.tk_4:tk Tryz.prog 4=some .one:=by kernel_rfl
theorem Ty.tk_40:tk Tryz.prog 40=some .one:=by kernel_rfl
theorem Ty.tk_42:tk Tryz.prog 42=some (.agg 2):=by kernel_rfl
theorem Ty.tk_47:tk Tryz.prog 47=some .one:=by kernel_rfl
theorem Ty.tk_49:tk Tryz.prog 49=some (.agg 3):=by kernel_rfl
theorem Ty.tk_5:tk Tryz.prog 5=some .one:=by kernel_rfl
theorem Ty.tk_52:tk Tryz.prog 52=some .one:=by kernel_rfl
theorem Ty.tk_56:tk Tryz.prog 56=some (.agg 2):=by kernel_rfl
theorem Ty.tk_59:tk Tryz.prog 59=some .one:=by kernel_rfl
theorem Ty.tk_61:tk Tryz.prog 61=some (.agg 6):=by kernel_rfl
theorem Ty.tk_64:tk Tryz.prog 64=some (.agg 7):=by kernel_rfl
theorem Ty.tk_66:tk Tryz.prog 66=some (.agg 12):=by kernel_rfl
theorem Ty.tk_74:tk Tryz.prog 74=some .one:=by kernel_rfl
theorem Ty.tk_76:tk Tryz.prog 76=some (.agg 7):=by kernel_rfl
theorem Ty.tk_84:tk Tryz.prog 84=some .one:=by kernel_rfl
theorem Ty.tk_88:tk Tryz.prog 88=some .one:=by kernel_rfl
theorem Ty.tk_9:tk Tryz.prog 9=some .one:=by kernel_rfl
theorem Ty.tk_97:tk Tryz.prog 97=some (.agg 9):=by kernel_rfl
attribute [push_cast] Ty.appSz_108 Ty.appSz_116 Ty.appSz_136 Ty.appSz_143 Ty.appSz_23 Ty.appSz_30 Ty.appSz_33 Ty.appSz_342 Ty.appSz_36 Ty.appSz_37 Ty.appSz_59 Ty.appSz_74 Ty.appSz_84 Ty.arrSz_127 Ty.arrSz_130 Ty.arrSz_347 Ty.arrTK_127 Ty.arrTK_130 Ty.arrTK_347 Ty.azero_102 Ty.azero_106 Ty.azero_110 Ty.azero_114 Ty.azero_118 Ty.azero_120 Ty.azero_126 Ty.azero_129 Ty.azero_138 Ty.azero_145 Ty.azero_159 Ty.azero_171 Ty.azero_179 Ty.azero_192 Ty.azero_204 Ty.azero_227 Ty.azero_230 Ty.azero_25 Ty.azero_276 Ty.azero_291 Ty.azero_3 Ty.azero_32 Ty.azero_324 Ty.azero_344 Ty.azero_35 Ty.azero_368 Ty.azero_37 Ty.azero_39 Ty.azero_42 Ty.azero_49 Ty.azero_56 Ty.azero_61 Ty.azero_64 Ty.azero_66 Ty.azero_76 Ty.azero_90 Ty.azero_97 Ty.eqTop_124 Ty.eqTop_133 Ty.eqTop_152 Ty.eqTop_159 Ty.eqTop_207 Ty.eqTop_27 Ty.eqTop_4 Ty.eqTop_47 Ty.eqTop_52 Ty.eqTop_56 Ty.eqTop_64 Ty.eqTop_79 Ty.eqTop_88 Ty.fldOff_102_0 Ty.fldOff_102_1 Ty.fldOff_102_2 Ty.fldOff_102_3 Ty.fldOff_102_4 Ty.fldOff_102_5 Ty.fldOff_106_0 Ty.fldOff_106_1 Ty.fldOff_106_2 Ty.fldOff_106_3 Ty.fldOff_106_4 Ty.fldOff_106_5 Ty.fldOff_110_0 Ty.fldOff_110_1 Ty.fldOff_110_2 Ty.fldOff_114_0 Ty.fldOff_114_1 Ty.fldOff_114_2 Ty.fldOff_114_3 Ty.fldOff_114_4 Ty.fldOff_114_5 Ty.fldOff_114_6 Ty.fldOff_114_7 Ty.fldOff_118_0 Ty.fldOff_118_1 Ty.fldOff_120_0 Ty.fldOff_120_1 Ty.fldOff_120_2 Ty.fldOff_120_3 Ty.fldOff_120_4 Ty.fldOff_120_5 Ty.fldOff_120_6 Ty.fldOff_120_7 Ty.fldOff_120_8 Ty.fldOff_126_0 Ty.fldOff_126_1 Ty.fldOff_126_2 Ty.fldOff_126_3 Ty.fldOff_129_0 Ty.fldOff_129_1 Ty.fldOff_129_2 Ty.fldOff_132_0 Ty.fldOff_132_1 Ty.fldOff_138_0 Ty.fldOff_138_1 Ty.fldOff_145_0 Ty.fldOff_145_1 Ty.fldOff_145_2 Ty.fldOff_159_0 Ty.fldOff_159_1 Ty.fldOff_179_0 Ty.fldOff_179_1 Ty.fldOff_179_2 Ty.fldOff_192_0 Ty.fldOff_192_1 Ty.fldOff_192_2 Ty.fldOff_204_0 Ty.fldOff_204_1 Ty.fldOff_204_2 Ty.fldOff_204_3 Ty.fldOff_227_0 Ty.fldOff_227_1 Ty.fldOff_25_0 Ty.fldOff_25_1 Ty.fldOff_25_2 Ty.fldOff_276_0 Ty.fldOff_276_1 Ty.fldOff_276_2 Ty.fldOff_291_0 Ty.fldOff_291_1 Ty.fldOff_291_2 Ty.fldOff_324_0 Ty.fldOff_324_1 Ty.fldOff_324_2 Ty.fldOff_324_3 Ty.fldOff_324_4 Ty.fldOff_324_5 Ty.fldOff_32_0 Ty.fldOff_344_0 Ty.fldOff_344_1 Ty.fldOff_35_0 Ty.fldOff_35_1 Ty.fldOff_39_0 Ty.fldOff_39_1 Ty.fldOff_39_2 Ty.fldOff_39_4 Ty.fldOff_42_0 Ty.fldOff_42_1 Ty.fldOff_49_0 Ty.fldOff_49_1 Ty.fldOff_49_2 Ty.fldOff_56_0 Ty.fldOff_56_1 Ty.fldOff_61_0 Ty.fldOff_61_1 Ty.fldOff_61_2 Ty.fldOff_61_3 Ty.fldOff_61_4 Ty.fldOff_61_5 Ty.fldOff_64_0 Ty.fldOff_64_1 Ty.fldOff_64_2 Ty.fldOff_64_3 Ty.fldOff_64_4 Ty.fldOff_66_0 Ty.fldOff_66_1 Ty.fldOff_66_2 Ty.fldOff_66_3 Ty.fldOff_66_4 Ty.fldOff_66_5 Ty.fldOff_76_0 Ty.fldOff_76_1 Ty.fldOff_76_2 Ty.fldOff_76_3 Ty.fldOff_76_4 Ty.fldOff_76_5 Ty.fldOff_76_6 Ty.fldOff_87_0 Ty.fldOff_87_1 Ty.fldOff_90_0 Ty.fldOff_90_1 Ty.fldOff_90_2 Ty.fldOff_90_3 Ty.fldOff_90_4 Ty.fldOff_90_5 Ty.fldOff_90_6 Ty.fldOff_90_7 Ty.fldOff_90_8 Ty.fldOff_90_9 Ty.fldOff_97_0 Ty.fldOff_97_1 Ty.fldOff_97_2 Ty.fldOff_97_3 Ty.fldOff_97_4 Ty.fldOff_97_5 Ty.fldOff_97_6 Ty.fldOff_97_7 Ty.fldOff_97_8 Ty.fldTK_114_0 Ty.fldTK_114_2 Ty.fldTK_114_5 Ty.fldTK_114_7 Ty.intT_21 Ty.intT_3 Ty.intT_338 Ty.intT_363 Ty.intT_368 Ty.intT_5 Ty.intT_9 Ty.isBytesT_59 Ty.isSliceT_108 Ty.isSliceT_116 Ty.isSliceT_136 Ty.isSliceT_143 Ty.isSliceT_162 Ty.isSliceT_22 Ty.isSliceT_23 Ty.isSliceT_30 Ty.isSliceT_33 Ty.isSliceT_339 Ty.isSliceT_342 Ty.isSliceT_36 Ty.isSliceT_37 Ty.isSliceT_51 Ty.isSliceT_59 Ty.isSliceT_70 Ty.isSliceT_74 Ty.isSliceT_84 Ty.isStrT_9 Ty.known_21 Ty.known_3 Ty.known_338 Ty.known_363 Ty.known_365 Ty.known_5 Ty.litSz_116 Ty.litSz_136 Ty.litSz_143 Ty.litSz_162 Ty.litSz_22 Ty.litSz_23 Ty.litSz_33 Ty.litSz_339 Ty.litSz_342 Ty.litSz_36 Ty.litSz_37 Ty.litSz_51 Ty.litSz_59 Ty.litSz_74 Ty.litSz_84 Ty.makeT_108 Ty.makeT_30 Ty.makeT_342 Ty.makeT_37 Ty.makeT_59 Ty.makeT_74 Ty.mapT_173 Ty.place_102_0 Ty.place_102_1 Ty.place_102_2 Ty.place_102_3 Ty.place_102_4 Ty.place_102_5 Ty.place_106_0 Ty.place_106_1 Ty.place_106_2 Ty.place_106_3 Ty.place_106_4 Ty.place_106_5 Ty.place_110_0 Ty.place_110_1 Ty.place_110_2 Ty.place_114_0 Ty.place_114_1 Ty.place_114_2 Ty.place_114_3 Ty.place_114_4 Ty.place_114_5 Ty.place_114_6 Ty.place_114_7 Ty.place_118_0 Ty.place_118_1 Ty.place_120_0 Ty.place_120_1 Ty.place_120_2 Ty.place_120_3 Ty.place_120_4 Ty.place_120_5 Ty.place_120_6 Ty.place_120_7 Ty.place_120_8 Ty.place_126_0 Ty.place_126_1 Ty.place_126_2 Ty.place_126_3 Ty.place_129_0 Ty.place_129_1 Ty.place_129_2 Ty.place_132_0 Ty.place_132_1 Ty.place_138_0 Ty.place_138_1 Ty.place_145_0 Ty.place_145_1 Ty.place_145_2 Ty.place_159_0 Ty.place_159_1 Ty.place_179_0 Ty.place_179_1 Ty.place_179_2 Ty.place_192_0 Ty.place_192_1 Ty.place_192_2 Ty.place_204_0 Ty.place_204_1 Ty.place_204_2 Ty.place_204_3 Ty.place_227_0 Ty.place_227_1 Ty.place_230_0 Ty.place_230_1 Ty.place_25_0 Ty.place_25_1 Ty.place_25_2 Ty.place_276_0 Ty.place_276_1 Ty.place_276_2 Ty.place_291_0 Ty.place_291_1 Ty.place_291_2 Ty.place_324_0 Ty.place_324_1 Ty.place_324_2 Ty.place_324_3 Ty.place_324_4 Ty.place_324_5 Ty.place_32_0 Ty.place_344_0 Ty.place_344_1 Ty.place_35_0 Ty.place_35_1 Ty.place_39_0 Ty.place_39_1 Ty.place_39_2 Ty.place_39_3 Ty.place_39_4 Ty.place_42_0 Ty.place_42_1 Ty.place_49_0 Ty.place_49_1 Ty.place_49_2 Ty.place_56_0 Ty.place_56_1 Ty.place_61_0 Ty.place_61_1 Ty.place_61_2 Ty.place_61_3 Ty.place_61_4 Ty.place_61_5 Ty.place_64_0 Ty.place_64_1 Ty.place_64_2 Ty.place_64_3 Ty.place_64_4 Ty.place_64_5 Ty.place_64_6 Ty.place_66_0 Ty.place_66_1 Ty.place_66_2 Ty.place_66_3 Ty.place_66_4 Ty.place_66_5 Ty.place_76_0 Ty.place_76_1 Ty.place_76_2 Ty.place_76_3 Ty.place_76_4 Ty.place_76_5 Ty.place_76_6 Ty.place_90_0 Ty.place_90_1 Ty.place_90_2 Ty.place_90_3 Ty.place_90_4 Ty.place_90_5 Ty.place_90_6 Ty.place_90_7 Ty.place_90_8 Ty.place_90_9 Ty.place_97_0 Ty.place_97_1 Ty.place_97_2 Ty.place_97_3 Ty.place_97_4 Ty.place_97_5 Ty.place_97_6 Ty.place_97_7 Ty.place_97_8 Ty.sliceSz_108 Ty.sliceSz_116 Ty.sliceSz_136 Ty.sliceSz_143 Ty.sliceSz_162 Ty.sliceSz_22 Ty.sliceSz_23 Ty.sliceSz_30 Ty.sliceSz_33 Ty.sliceSz_339 Ty.sliceSz_342 Ty.sliceSz_36 Ty.sliceSz_37 Ty.sliceSz_51 Ty.sliceSz_59 Ty.sliceSz_70 Ty.sliceSz_74 Ty.sliceSz_84 Ty.structOk_102 Ty.structOk_106 Ty.structOk_110 Ty.structOk_114 Ty.structOk_118 Ty.structOk_120 Ty.structOk_126 Ty.structOk_129 Ty.structOk_132 Ty.structOk_138 Ty.structOk_145 Ty.structOk_159 Ty.structOk_179 Ty.structOk_192 Ty.structOk_204 Ty.structOk_227 Ty.structOk_230 Ty.structOk_25 Ty.structOk_276 Ty.structOk_291 Ty.structOk_32 Ty.structOk_324 Ty.structOk_344 Ty.structOk_35 Ty.structOk_39 Ty.structOk_42 Ty.structOk_49 Ty.structOk_56 Ty.structOk_61 Ty.structOk_64 Ty.structOk_66 Ty.structOk_76 Ty.structOk_90 Ty.structOk_97 Ty.tk_102 Ty.tk_106 Ty.tk_108 Ty.tk_110 Ty.tk_114 Ty.tk_116 Ty.tk_124 Ty.tk_126 Ty.tk_127 Ty.tk_132 Ty.tk_136 Ty.tk_138 Ty.tk_143 Ty.tk_145 Ty.tk_159 Ty.tk_192 Ty.tk_204 Ty.tk_227 Ty.tk_23 Ty.tk_25 Ty.tk_276 Ty.tk_286 Ty.tk_291 Ty.tk_3 Ty.tk_30 Ty.tk_32 Ty.tk_324 Ty.tk_33 Ty.tk_344 Ty.tk_347 Ty.tk_35 Ty.tk_36 Ty.tk_368 Ty.tk_37 Ty.tk_39 Ty.tk_4 Ty.tk_40 Ty.tk_42 Ty.tk_47 Ty.tk_49 Ty.tk_5 Ty.tk_52 Ty.tk_56 Ty.tk_59 Ty.tk_61 Ty.tk_64 Ty.tk_66 Ty.tk_74 Ty.tk_76 Ty.tk_84 Ty.tk_88 Ty.tk_9 Ty.tk_97
end Go.Proofs.YtmgnbgniikjhdaaGreat
