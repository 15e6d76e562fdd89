/- OptsParse: for every input the law returns true, and each argument reads afterwards as it read before. No condition. -/
import Derived.Test.YtjlcdkklobcdhaaRows
import Derived.Test.YtjlcdkklobcdhaaAb12
import Derived.Test.YtjlcdkklobcdhaaO9
namespace Go.Proofs.Ytjlcdkklobcdhaa
set_option linter.unusedVariables false
set_option linter.unusedSimpArgs false
open Go.Ab Go.RowKit Go.ChangeShapes Go.WideShapes Go.ChangeAt

theorem Try.own : ownKnob Try.prog.godebug = none := by kernel_rfl
theorem Try.laidOut : laidOutB Try.prog = true := by kernel_rfl

theorem u9 : Try.prog.underlying 9 = some .string := by kernel_rfl
theorem u22 : Try.prog.underlying 22 = some (.slice 9) := by kernel_rfl
theorem u4 : Try.prog.underlying 4 = some .bool := by kernel_rfl

theorem optsParse_any (ys : List AV) (h : TVl Try.prog 9 Try.f3.params.toList ys) : ACalls Try.prog 3 ys [] [] (ret (.bool true) [] []) := by
  rw [show Try.f3.params.toList = [9, 22] by rfl] at h
  obtain ⟨a, b, rfl, ha, hb⟩ := TVl_two h
  obtain ⟨may, rfl, _⟩ := TV_str u9 ha
  obtain ⟨args, rfl, hl⟩ := TV_strs u22 u9 hb
  exact c3 may args _ [] [] hl

set_option maxRecDepth 100000 in
theorem optsParse_lifted (os : Os) (started : os.Started) (H : Type) (enc : TypeId × Value → H) :
    ReturnsInHanded {} Try.checked os 3 .any (Rows.optsParseSpec.pre6 enc Try.prog Try.f3 Rows.optsParseRow.domain false) (Rows.optsParseSpec.post enc Try.prog Try.f3 false true false false) := by
  refine returnsInHanded_of_change (C := Try.checked) Try.own started (by kernel_rfl) Try.func3
    (ChangeSpec.witness6 (enc := enc) (C := Try.checked) false ⟨#[], #[.string ⟨#[]⟩, .slice none 0 0], []⟩ 8 (by kernel_rfl) (by kernel_rfl) (by kernel_rfl) (by kernel_rfl)) ?_
  intro W base args ds gs before hval hW hcnd _
  refine law_true (d := 9) (tb := 4) Try.laidOut (by kernel_rfl) (by kernel_rfl) Try.func3 (by kernel_rfl) (by kernel_rfl) (by kernel_rfl) u4 rfl ?_ optsParse_any hval hW
  intro ds hds
  rw [show Try.f3.params.toList = [9, 22] by rfl] at hds
  match ds, hds with
  | [d1, d2], _ => rfl

theorem optsParse_holds : Rows.OptsParseSaid :=
  OpenClaim.holds_of_wide 3 Try.f3 rfl rfl rfl rfl rfl rfl rfl ⟨rfl, rfl, rfl, rfl, rfl⟩ rfl rfl rfl rfl rfl (by kernel_rfl) Try.func3 (by kernel_rfl)
    (of_decide_eq_true (by kernel_rfl)) (by unfold Func.isWrapper; rw [if_neg (by decide +kernel)]; exact ⟨rfl, rfl⟩)
    (fun os started H enc _ => optsParse_lifted os started H enc)

end Go.Proofs.Ytjlcdkklobcdhaa
