/- AllowedFinds: for every input the law returns true, and each argument reads afterwards as it read before. No condition. -/
import Derived.Test.YtjoklidphbmpoaaGreatRows
import Derived.Test.YtjoklidphbmpoaaGreatAb12
import Derived.Test.YtjoklidphbmpoaaGreatR0
import Derived.Test.YtjoklidphbmpoaaGreatA27
namespace Go.Proofs.YtjoklidphbmpoaaGreat
set_option linter.unusedVariables false
set_option linter.unusedSimpArgs false
open Go.Ab Go.RowKit Go.ChangeShapes Go.WideShapes Go.ChangeAt

set_option maxRecDepth 100000 in
theorem allowedFinds_any (ys : List AV) (h : TVl Tryz.prog 9 Tryz.f5.params.toList ys) : ACalls Tryz.prog 5 ys [] [] (ret (.bool true) [] []) := by
  rw [show Tryz.f5.params.toList = [3, 22, 25, 9] by rfl] at h
  obtain ⟨a, b, c, i, rfl, ha, hb, hc, hi⟩ := TVl_n4 h
  obtain ⟨room, rfl⟩ := TV_i ha
  obtain ⟨l, rfl, hl⟩ := TV_raws hb
  obtain ⟨c, rfl, hgs⟩ := TV_cred hc
  obtain ⟨p, rfl, hp⟩ := TV_str uStr hi
  exact c5 room l c p [] [] rfl hl hgs hp

set_option maxRecDepth 100000 in
theorem allowedFinds_lifted (os : Os) (started : os.Started) (H : Type) (enc : TypeId × Value → H) :
    ReturnsInHanded {} Tryz.checked os 5 .any (Rows.allowedFindsSpec.pre6 enc Tryz.prog Tryz.f5 Rows.allowedFindsRow.domain false) (Rows.allowedFindsSpec.post enc Tryz.prog Tryz.f5 false true false false) := by
  refine returnsInHanded_of_change (C := Tryz.checked) own started (by kernel_rfl) Tryz.func5
    (ChangeSpec.witness6 (enc := enc) (C := Tryz.checked) false ⟨#[], #[.int .i64 0, .slice none 0 0, .agg #[.int .i64 0, .int .i64 0, .slice none 0 0], .string ⟨#[]⟩], []⟩ 8 (by kernel_rfl) (by kernel_rfl) (by kernel_rfl) (by kernel_rfl)) ?_
  intro W base args ds gs before hval hW hcnd _
  refine law_true (d := 9) (tb := 4) laidOut (by kernel_rfl) (by kernel_rfl) Tryz.func5 (by kernel_rfl) (by kernel_rfl) (by kernel_rfl) uBool rfl ?_ allowedFinds_any hval hW
  intro ds hds
  rw [show Tryz.f5.params.toList = [3, 22, 25, 9] by rfl] at hds
  match ds, hds with
  | [d1, d2, d3, d4], _ => rfl

theorem allowedFinds_holds : Rows.AllowedFindsSaid :=
  OpenClaim.holds_of_wide 5 Tryz.f5 rfl rfl rfl rfl rfl rfl rfl ⟨rfl, rfl, rfl, rfl, rfl⟩ rfl rfl rfl rfl rfl (by kernel_rfl) Tryz.func5 (by kernel_rfl)
    (of_decide_eq_true (by kernel_rfl)) (by unfold Func.isWrapper; rw [if_neg (by decide +kernel)]; exact ⟨rfl, rfl⟩)
    (fun os started H enc _ => allowedFinds_lifted os started H enc)

end Go.Proofs.YtjoklidphbmpoaaGreat
