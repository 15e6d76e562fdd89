/- OptsValues: for every input the law returns true, and each argument reads afterwards as it read before. No condition. -/
import Derived.Test.YtjlcdkklobcdhaaR1
import Derived.Test.YtjlcdkklobcdhaaO13
namespace Go.Proofs.Ytjlcdkklobcdhaa
set_option linter.unusedVariables false
set_option linter.unusedSimpArgs false
open Go.Ab Go.RowKit Go.ChangeShapes Go.WideShapes Go.ChangeAt

theorem optsValues_any (ys : List AV) (h : TVl Try.prog 9 Try.f7.params.toList ys) : ACalls Try.prog 7 ys [] [] (ret (.bool true) [] []) := by
  rw [show Try.f7.params.toList = [9, 9, 22] by rfl] at h
  obtain ⟨a, b, c, rfl, ha, hb, hc⟩ := TVl_three h
  obtain ⟨may, rfl, _⟩ := TV_str u9 ha
  obtain ⟨args, rfl, _⟩ := TV_str u9 hb
  obtain ⟨rest, rfl, hlr⟩ := TV_strs u22 u9 hc
  exact c7 may args rest _ [] [] hlr

set_option maxRecDepth 100000 in
theorem optsValues_lifted (os : Os) (started : os.Started) (H : Type) (enc : TypeId × Value → H) :
    ReturnsInHanded {} Try.checked os 7 .any (Rows.optsValuesSpec.pre6 enc Try.prog Try.f7 Rows.optsValuesRow.domain false) (Rows.optsValuesSpec.post enc Try.prog Try.f7 false true false false) := by
  refine returnsInHanded_of_change (C := Try.checked) Try.own started (by kernel_rfl) Try.func7
    (ChangeSpec.witness6 (enc := enc) (C := Try.checked) false ⟨#[], #[.string ⟨#[]⟩, .string ⟨#[]⟩, .slice none 0 0], []⟩ 8 (by kernel_rfl) (by kernel_rfl) (by kernel_rfl) (by kernel_rfl)) ?_
  intro W base args ds gs before hval hW hcnd _
  refine law_true (d := 9) (tb := 4) Try.laidOut (by kernel_rfl) (by kernel_rfl) Try.func7 (by kernel_rfl) (by kernel_rfl) (by kernel_rfl) u4 rfl ?_ optsValues_any hval hW
  intro ds hds
  rw [show Try.f7.params.toList = [9, 9, 22] by rfl] at hds
  match ds, hds with
  | [d1, d2, d3], _ => rfl

theorem optsValues_holds : Rows.OptsValuesSaid :=
  OpenClaim.holds_of_wide 7 Try.f7 rfl rfl rfl rfl rfl rfl rfl ⟨rfl, rfl, rfl, rfl, rfl⟩ rfl rfl rfl rfl rfl (by kernel_rfl) Try.func7 (by kernel_rfl)
    (of_decide_eq_true (by kernel_rfl)) (by unfold Func.isWrapper; rw [if_neg (by decide +kernel)]; exact ⟨rfl, rfl⟩)
    (fun os started H enc _ => optsValues_lifted os started H enc)

end Go.Proofs.Ytjlcdkklobcdhaa
