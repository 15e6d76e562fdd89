/- AllowedRoot: for every input the law returns true, and each argument reads afterwards as it read before. No condition. -/
import Derived.Test.YtjoklidphbmpoaaGreatRows
import Derived.Test.YtjoklidphbmpoaaGreatAb12
import Derived.Test.YtjoklidphbmpoaaGreatR0b
import Derived.Test.YtjoklidphbmpoaaGreatA20
namespace Go.Proofs.YtjoklidphbmpoaaGreat
set_option linter.unusedVariables false
set_option linter.unusedSimpArgs false
open Go.Ab Go.RowKit Go.ChangeShapes Go.WideShapes Go.ChangeAt

set_option maxRecDepth 100000 in
theorem allowedRoot_any (ys : List AV) (h : TVl Tryz.prog 9 Tryz.f4.params.toList ys) : ACalls Tryz.prog 4 ys [] [] (ret (.bool true) [] []) := by
  rw [show Tryz.f4.params.toList = [3, 22, 39, 25, 23] by rfl] at h
  obtain ⟨a, b, e, c, i, rfl, ha, hb, he, hc, hi⟩ := TVl_n5 h
  obtain ⟨room, rfl⟩ := TV_i ha
  obtain ⟨l, rfl, hl⟩ := TV_raws hb
  obtain ⟨acs, rfl, hal, han⟩ := TV_acts he
  obtain ⟨c, rfl, hgs⟩ := TV_cred hc
  obtain ⟨ws, rfl, hws⟩ := TV_ints hi
  exact c4 room l acs c ws [] [] rfl hl hal hgs hws han

set_option maxRecDepth 100000 in
theorem allowedRoot_lifted (os : Os) (started : os.Started) (H : Type) (enc : TypeId × Value → H) :
    ReturnsInHanded {} Tryz.checked os 4 .any (Rows.allowedRootSpec.pre6 enc Tryz.prog Tryz.f4 Rows.allowedRootRow.domain false) (Rows.allowedRootSpec.post enc Tryz.prog Tryz.f4 false true false false) := by
  refine returnsInHanded_of_change (C := Tryz.checked) own started (by kernel_rfl) Tryz.func4
    (ChangeSpec.witness6 (enc := enc) (C := Tryz.checked) false ⟨#[], #[.int .i64 0, .slice none 0 0, .slice none 0 0, .agg #[.int .i64 0, .int .i64 0, .slice none 0 0], .slice none 0 0], []⟩ 8 (by kernel_rfl) (by kernel_rfl) (by kernel_rfl) (by kernel_rfl)) ?_
  intro W base args ds gs before hval hW hcnd _
  refine law_true (d := 9) (tb := 4) laidOut (by kernel_rfl) (by kernel_rfl) Tryz.func4 (by kernel_rfl) (by kernel_rfl) (by kernel_rfl) uBool rfl ?_ allowedRoot_any hval hW
  intro ds hds
  rw [show Tryz.f4.params.toList = [3, 22, 39, 25, 23] by rfl] at hds
  match ds, hds with
  | [d1, d2, d3, d4, d5], _ => rfl

theorem allowedRoot_holds : Rows.AllowedRootSaid :=
  OpenClaim.holds_of_wide 4 Tryz.f4 rfl rfl rfl rfl rfl rfl rfl ⟨rfl, rfl, rfl, rfl, rfl⟩ rfl rfl rfl rfl rfl (by kernel_rfl) Tryz.func4 (by kernel_rfl)
    (of_decide_eq_true (by kernel_rfl)) (by unfold Func.isWrapper; rw [if_neg (by decide +kernel)]; exact ⟨rfl, rfl⟩)
    (fun os started H enc _ => allowedRoot_lifted os started H enc)

end Go.Proofs.YtjoklidphbmpoaaGreat
