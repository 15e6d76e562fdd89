/- SysTree: for every input the law returns true, and each argument reads afterwards as it read before. No condition. -/
import Derived.Test.YtegffmibifodcaaGreatRows
import Derived.Test.YtegffmibifodcaaGreatR0
import Derived.Test.YtegffmibifodcaaGreatS35
namespace Go.Proofs.YtegffmibifodcaaGreat
set_option linter.unusedVariables false
set_option linter.unusedSimpArgs false
open Go.Ab Go.RowKit Go.ChangeShapes Go.WideShapes Go.ChangeAt

set_option maxRecDepth 100000 in
theorem sysTree_any (ys : List AV) (h : TVl Tryz.prog 9 Tryz.f7.params.toList ys) : ACalls Tryz.prog 7 ys [] [] (ret (.bool true) [] []) := by
  rw [show Tryz.f7.params.toList = [3, 22, 3, 23, 24] by rfl] at h
  obtain ⟨a, b, u, c, e, rfl, ha, hb, hu, hc, he⟩ := TVl_n5 h
  obtain ⟨room, rfl⟩ := TV_i ha
  obtain ⟨l, rfl, hl⟩ := TV_raws hb
  obtain ⟨um, rfl⟩ := TV_i hu
  obtain ⟨cs, rfl, hcs, hcl⟩ := TV_creds hc
  obtain ⟨acs, rfl, hal⟩ := TV_acts he
  exact c7 room l um cs acs [] [] rfl hl hcs hcl hal

set_option maxRecDepth 100000 in
theorem sysTree_lifted (os : Os) (started : os.Started) (H : Type) (enc : TypeId × Value → H) :
    ReturnsInHanded {} Tryz.checked os 7 .any (Rows.sysTreeSpec.pre6 enc Tryz.prog Tryz.f7 Rows.sysTreeRow.domain false) (Rows.sysTreeSpec.post enc Tryz.prog Tryz.f7 false true false false) := by
  refine returnsInHanded_of_change_sized (C := Tryz.checked) own started (by kernel_rfl) Tryz.func7
    (ChangeSpec.witness6 (enc := enc) (C := Tryz.checked) false ⟨#[], #[.int .i64 0, .slice none 0 0, .int .i64 0, .slice none 0 0, .slice none 0 0], []⟩ 8 (by kernel_rfl) (by kernel_rfl) (by kernel_rfl) (by kernel_rfl)) ?_
  intro W base args ds gs before hval hW hcnd hsz _
  refine law_true (d := 9) (tb := 4) laidOut (by kernel_rfl) (by kernel_rfl) Tryz.func7 (by kernel_rfl) (by kernel_rfl) (by kernel_rfl) uBool rfl ?_ sysTree_any hval hW hsz
  intro ds hds
  rw [show Tryz.f7.params.toList = [3, 22, 3, 23, 24] by rfl] at hds
  match ds, hds with
  | [d1, d2, d3, d4, d5], _ => rfl

theorem sysTree_holds : Rows.SysTreeSaid :=
  OpenClaim.holds_of_wide 7 Tryz.f7 rfl rfl rfl rfl rfl rfl rfl ⟨rfl, rfl, rfl, rfl, rfl⟩ rfl rfl rfl rfl rfl (by kernel_rfl) Tryz.func7 (by kernel_rfl)
    (of_decide_eq_true (by kernel_rfl)) (by unfold Func.isWrapper; rw [if_neg (by decide +kernel)]; exact ⟨rfl, rfl⟩)
    (fun os started H enc _ => sysTree_lifted os started H enc)

end Go.Proofs.YtegffmibifodcaaGreat
