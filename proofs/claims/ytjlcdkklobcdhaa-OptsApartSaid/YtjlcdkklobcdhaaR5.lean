/- OptsApart: for every input the law returns true, and each argument reads afterwards as it read before. No condition. -/
import Derived.Test.YtjlcdkklobcdhaaR1
import Derived.Test.YtjlcdkklobcdhaaO15
namespace Go.Proofs.Ytjlcdkklobcdhaa
set_option linter.unusedVariables false
set_option linter.unusedSimpArgs false
open Go.Ab Go.RowKit Go.ChangeShapes Go.WideShapes Go.ChangeAt

theorem v5 : Try.prog.underlying 5 = some (.int .u8) := by kernel_rfl
theorem u48 : Try.prog.underlying 48 = some (.slice 5) := by kernel_rfl
theorem optsApart_any (ys : List AV) (h : TVl Try.prog 9 Try.f6.params.toList ys) : ACalls Try.prog 6 ys [] [] (ret (.bool true) [] []) := by
  rw [show Try.f6.params.toList = [48, 22] by rfl] at h
  obtain ⟨a, b, rfl, ha, hb⟩ := TVl_two h
  obtain ⟨picks, rfl, hlp⟩ := TV_slice (enc := bV) u48 (fun y hy => by obtain ⟨c, e⟩ := TV_u8 v5 hy; exact ⟨c, e⟩) ha
  obtain ⟨rest, rfl, hlr⟩ := TV_strs u22 u9 hb
  exact c6 picks rest _ _ [] [] hlr hlp

set_option maxRecDepth 100000 in
theorem optsApart_lifted (os : Os) (started : os.Started) (H : Type) (enc : TypeId × Value → H) :
    ReturnsInHanded {} Try.checked os 6 .any (Rows.optsApartSpec.pre6 enc Try.prog Try.f6 Rows.optsApartRow.domain false) (Rows.optsApartSpec.post enc Try.prog Try.f6 false true false false) := by
  refine returnsInHanded_of_change (C := Try.checked) Try.own started (by kernel_rfl) Try.func6
    (ChangeSpec.witness6 (enc := enc) (C := Try.checked) false ⟨#[], #[.slice none 0 0, .slice none 0 0], []⟩ 8 (by kernel_rfl) (by kernel_rfl) (by kernel_rfl) (by kernel_rfl)) ?_
  intro W base args ds gs before hval hW hcnd _
  refine law_true (d := 9) (tb := 4) Try.laidOut (by kernel_rfl) (by kernel_rfl) Try.func6 (by kernel_rfl) (by kernel_rfl) (by kernel_rfl) u4 rfl ?_ optsApart_any hval hW
  intro ds hds
  rw [show Try.f6.params.toList = [48, 22] by rfl] at hds
  match ds, hds with
  | [d1, d2], _ => rfl

theorem optsApart_holds : Rows.OptsApartSaid :=
  OpenClaim.holds_of_wide 6 Try.f6 rfl rfl rfl rfl rfl rfl rfl ⟨rfl, rfl, rfl, rfl, rfl⟩ rfl rfl rfl rfl rfl (by kernel_rfl) Try.func6 (by kernel_rfl)
    (of_decide_eq_true (by kernel_rfl)) (by unfold Func.isWrapper; rw [if_neg (by decide +kernel)]; exact ⟨rfl, rfl⟩)
    (fun os started H enc _ => optsApart_lifted os started H enc)

end Go.Proofs.Ytjlcdkklobcdhaa
