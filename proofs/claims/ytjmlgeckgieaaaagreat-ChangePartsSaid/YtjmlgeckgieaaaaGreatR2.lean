/- ChangeParts: for every input the law returns true, and each argument reads afterwards as it read before. No condition. -/
import Derived.Test.YtjmlgeckgieaaaaGreatRows
import Derived.Test.YtjmlgeckgieaaaaGreatR0
import Derived.Test.YtjmlgeckgieaaaaGreatC6
set_option linter.unusedVariables false
set_option linter.unusedSimpArgs false
namespace Go.Proofs.YtjmlgeckgieaaaaGreat
open Go.Ab Go.RowKit Go.ChangeShapes Go.WideShapes Go.ChangeAt

set_option maxRecDepth 100000 in
theorem changeParts_any (ys : List AV) (h : TVl Tryz.prog 9 Tryz.f5.params.toList ys) : ACalls Tryz.prog 5 ys [] [] (ret (.bool true) [] []) := by
  rw [show Tryz.f5.params.toList = [3, 22, 5, 60, 60, 5] by rfl] at h
  obtain ⟨a, b, i, x, y, u, rfl, ha, hb, ti, tx, ty, tu⟩ := TVl_n6 h
  obtain ⟨room, rfl⟩ := TV_i ha
  obtain ⟨l, rfl, hl⟩ := TV_raws hb
  obtain ⟨i, rfl, hi⟩ := TV_8 ti
  obtain ⟨x, rfl, hx⟩ := TV_16 tx
  obtain ⟨y, rfl, hy⟩ := TV_16 ty
  obtain ⟨u, rfl, hu⟩ := TV_8 tu
  exact c5 room l i x y u [] [] rfl hl hi hx hy hu

set_option maxRecDepth 100000 in
theorem changeParts_lifted (os : Os) (started : os.Started) (H : Type) (enc : TypeId × Value → H) :
    ReturnsInHanded {} Tryz.checked os 5 .any (Rows.changePartsSpec.pre6 enc Tryz.prog Tryz.f5 Rows.changePartsRow.domain false) (Rows.changePartsSpec.post enc Tryz.prog Tryz.f5 false true false false) := by
  refine returnsInHanded_of_change_sized (C := Tryz.checked) own started (by kernel_rfl) Tryz.func5
    (ChangeSpec.witness6 (enc := enc) (C := Tryz.checked) false ⟨#[], #[.int .i64 0, .slice none 0 0, .int .u8 0, .int .u16 0, .int .u16 0, .int .u8 0], []⟩ 8 (by kernel_rfl) (by kernel_rfl) (by kernel_rfl) (by kernel_rfl)) ?_
  intro W base args ds gs before hval hW hcnd hsz _
  refine law_true (d := 9) (tb := 4) laidOut (by kernel_rfl) (by kernel_rfl) Tryz.func5 (by kernel_rfl) (by kernel_rfl) (by kernel_rfl) uBool rfl ?_ changeParts_any hval hW hsz
  intro ds hds
  rw [show Tryz.f5.params.toList = [3, 22, 5, 60, 60, 5] by rfl] at hds
  match ds, hds with
  | [d1, d2, d3, d4, d5, d6], _ => rfl

theorem changeParts_holds : Rows.ChangePartsSaid :=
  OpenClaim.holds_of_wide 5 Tryz.f5 rfl rfl rfl rfl rfl rfl rfl ⟨rfl, rfl, rfl, rfl, rfl⟩ rfl rfl rfl rfl rfl (by kernel_rfl) Tryz.func5 (by kernel_rfl)
    (of_decide_eq_true (by kernel_rfl)) (by unfold Func.isWrapper; rw [if_neg (by decide +kernel)]; exact ⟨rfl, rfl⟩)
    (fun os started H enc _ => changeParts_lifted os started H enc)

end Go.Proofs.YtjmlgeckgieaaaaGreat
