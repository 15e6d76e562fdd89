import Derived.Test.YtjlcdkklobcdhaaAb8
import Derived.Test.YtjlcdkklobcdhaaProg
import Derived.KernelRfl
/-
  What the program's own tables say of its types, as the framework asks it (by a program of this session's own).
-/
namespace Go.Proofs.Ytjlcdkklobcdhaa
open Go.Ab
theorem Ty.appSz_22 : appSz Try.prog 22 = some (1, 16) := by kernel_rfl
theorem Ty.appSz_25 : appSz Try.prog 25 = some (2, 24) := by kernel_rfl
theorem Ty.appSz_31 : appSz Try.prog 31 = some (2, 24) := by kernel_rfl
theorem Ty.azero_27 : azero Try.prog 27 = some (.agg [.slice [] .full, .slice [] .full]) := by kernel_rfl
theorem Ty.azero_33 : azero Try.prog 33 = some (.agg [.slice [] .full, .slice [] .full, .bool false]) := by kernel_rfl
theorem Ty.azero_38 : azero Try.prog 38 = some (.agg [.int .u8 0, .str []]) := by kernel_rfl
theorem Ty.azero_39 : azero Try.prog 39 = some (.agg [.int .u8 0, .str []]) := by kernel_rfl
theorem Ty.azero_53 : azero Try.prog 53 = some (.agg [.slice [] .full, .slice [] .full, .str [], .slice [] .full]) := by kernel_rfl
theorem Ty.eqTop_38 : eqTop Try.prog 38 = some (.strukt (.cons 0 .one .int (.cons 1 .one .str .nil))) := by kernel_rfl
theorem Ty.eqTop_4 : eqTop Try.prog 4 = some (.bool) := by kernel_rfl
theorem Ty.fldOff_27_0 : fldOff Try.prog 27 0 = some 0 := by kernel_rfl
theorem Ty.fldOff_27_1 : fldOff Try.prog 27 1 = some 1 := by kernel_rfl
theorem Ty.fldOff_33_0 : fldOff Try.prog 33 0 = some 0 := by kernel_rfl
theorem Ty.fldOff_33_1 : fldOff Try.prog 33 1 = some 1 := by kernel_rfl
theorem Ty.fldOff_33_2 : fldOff Try.prog 33 2 = some 2 := by kernel_rfl
theorem Ty.fldOff_38_0 : fldOff Try.prog 38 0 = some 0 := by kernel_rfl
theorem Ty.fldOff_38_1 : fldOff Try.prog 38 1 = some 1 := by kernel_rfl
theorem Ty.fldOff_39_0 : fldOff Try.prog 39 0 = some 0 := by kernel_rfl
theorem Ty.fldOff_39_1 : fldOff Try.prog 39 1 = some 1 := by kernel_rfl
theorem Ty.fldOff_53_0 : fldOff Try.prog 53 0 = some 0 := by kernel_rfl
theorem Ty.fldOff_53_1 : fldOff Try.prog 53 1 = some 2 := by kernel_rfl
theorem Ty.fldOff_53_2 : fldOff Try.prog 53 2 = some 3 := by kernel_rfl
theorem Ty.intT_3 : intT Try.prog 3 = some .i64 := by kernel_rfl
theorem Ty.isSliceT_22 : isSliceT Try.prog 22 = true := by kernel_rfl
theorem Ty.isSliceT_25 : isSliceT Try.prog 25 = true := by kernel_rfl
theorem Ty.isSliceT_31 : isSliceT Try.prog 31 = true := by kernel_rfl
theorem Ty.isSliceT_48 : isSliceT Try.prog 48 = true := by kernel_rfl
theorem Ty.isStrT_9 : isStrT Try.prog 9 = true := by kernel_rfl
theorem Ty.known_5 : known Try.prog 5 = true := by kernel_rfl
theorem Ty.litSz_22 : litSz Try.prog 22 = some 1 := by kernel_rfl
theorem Ty.litSz_25 : litSz Try.prog 25 = some 2 := by kernel_rfl
theorem Ty.litSz_31 : litSz Try.prog 31 = some 2 := by kernel_rfl
theorem Ty.place_27_0 : place Try.prog 27 0 = some (0, 1) := by kernel_rfl
theorem Ty.place_27_1 : place Try.prog 27 1 = some (1, 1) := by kernel_rfl
theorem Ty.place_33_0 : place Try.prog 33 0 = some (0, 1) := by kernel_rfl
theorem Ty.place_33_1 : place Try.prog 33 1 = some (1, 1) := by kernel_rfl
theorem Ty.place_33_2 : place Try.prog 33 2 = some (2, 1) := by kernel_rfl
theorem Ty.place_38_0 : place Try.prog 38 0 = some (0, 1) := by kernel_rfl
theorem Ty.place_38_1 : place Try.prog 38 1 = some (1, 1) := by kernel_rfl
theorem Ty.place_39_0 : place Try.prog 39 0 = some (0, 1) := by kernel_rfl
theorem Ty.place_39_1 : place Try.prog 39 1 = some (1, 1) := by kernel_rfl
theorem Ty.place_53_0 : place Try.prog 53 0 = some (0, 2) := by kernel_rfl
theorem Ty.place_53_1 : place Try.prog 53 1 = some (2, 1) := by kernel_rfl
theorem Ty.place_53_2 : place Try.prog 53 2 = some (3, 1) := by kernel_rfl
theorem Ty.sliceSz_22 : sliceSz Try.prog 22 = some 1 := by kernel_rfl
theorem Ty.sliceSz_25 : sliceSz Try.prog 25 = some 2 := by kernel_rfl
theorem Ty.sliceSz_31 : sliceSz Try.prog 31 = some 2 := by kernel_rfl
theorem Ty.sliceSz_48 : sliceSz Try.prog 48 = some 1 := by kernel_rfl
theorem Ty.structOk_27 : structOk Try.prog 27 = true := by kernel_rfl
theorem Ty.structOk_33 : structOk Try.prog 33 = true := by kernel_rfl
theorem Ty.structOk_38 : structOk Try.prog 38 = true := by kernel_rfl
theorem Ty.structOk_39 : structOk Try.prog 39 = true := by kernel_rfl
theorem Ty.structOk_53 : structOk Try.prog 53 = true := by kernel_rfl
theorem Ty.tk_22 : tk Try.prog 22 = some .one := by kernel_rfl
theorem Ty.tk_25 : tk Try.prog 25 = some .one := by kernel_rfl
theorem Ty.tk_27 : tk Try.prog 27 = some (.agg 2) := by kernel_rfl
theorem Ty.tk_31 : tk Try.prog 31 = some .one := by kernel_rfl
theorem Ty.tk_33 : tk Try.prog 33 = some (.agg 3) := by kernel_rfl
theorem Ty.tk_38 : tk Try.prog 38 = some (.agg 2) := by kernel_rfl
theorem Ty.tk_4 : tk Try.prog 4 = some .one := by kernel_rfl
theorem Ty.tk_5 : tk Try.prog 5 = some .one := by kernel_rfl
theorem Ty.tk_9 : tk Try.prog 9 = some .one := by kernel_rfl
attribute [push_cast] Ty.appSz_22 Ty.appSz_25 Ty.appSz_31 Ty.azero_27 Ty.azero_33 Ty.azero_38 Ty.azero_39 Ty.azero_53 Ty.eqTop_38 Ty.eqTop_4 Ty.fldOff_27_0 Ty.fldOff_27_1 Ty.fldOff_33_0 Ty.fldOff_33_1 Ty.fldOff_33_2 Ty.fldOff_38_0 Ty.fldOff_38_1 Ty.fldOff_39_0 Ty.fldOff_39_1 Ty.fldOff_53_0 Ty.fldOff_53_1 Ty.fldOff_53_2 Ty.intT_3 Ty.isSliceT_22 Ty.isSliceT_25 Ty.isSliceT_31 Ty.isSliceT_48 Ty.isStrT_9 Ty.known_5 Ty.litSz_22 Ty.litSz_25 Ty.litSz_31 Ty.place_27_0 Ty.place_27_1 Ty.place_33_0 Ty.place_33_1 Ty.place_33_2 Ty.place_38_0 Ty.place_38_1 Ty.place_39_0 Ty.place_39_1 Ty.place_53_0 Ty.place_53_1 Ty.place_53_2 Ty.sliceSz_22 Ty.sliceSz_25 Ty.sliceSz_31 Ty.sliceSz_48 Ty.structOk_27 Ty.structOk_33 Ty.structOk_38 Ty.structOk_39 Ty.structOk_53 Ty.tk_22 Ty.tk_25 Ty.tk_27 Ty.tk_31 Ty.tk_33 Ty.tk_38 Ty.tk_4 Ty.tk_5 Ty.tk_9
end Go.Proofs.Ytjlcdkklobcdhaa
