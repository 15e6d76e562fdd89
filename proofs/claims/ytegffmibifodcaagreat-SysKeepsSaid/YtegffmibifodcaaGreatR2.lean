/- SysKeeps: for every input the law returns true, and each argument reads afterwards as it read before. No condition. -/
import Derived.Test.YtegffmibifodcaaGreatRows
import Derived.Test.YtegffmibifodcaaGreatR0
import Derived.Test.YtegffmibifodcaaGreatS30
namespace Go.Proofs.YtegffmibifodcaaGreat
set_option linter.unusedVariables false
set_option linter.unusedSimpArgs false
open Go.Ab Go.RowKit Go.ChangeShapes Go.WideShapes Go.ChangeAt

set_option maxRecDepth 100000 in
theorem sysKeeps_any (ys : List AV) (h : TVl Tryz.prog 9 Tryz.f4.params.toList ys) : ACalls Tryz.prog 4 ys [] [] (ret (.bool true) [] []) := by
  rw [show Tryz.f4.params.toList = [3, 22, 9, 46, 5] by rfl] at h
  obtain ⟨a, b, c, e, f, rfl, ha, hb, hc, he, hf⟩ := TVl_n5 h
  obtain ⟨room, rfl⟩ := TV_i ha
  obtain ⟨l, rfl, hl⟩ := TV_raws hb
  obtain ⟨p, rfl, hp⟩ := TV_str uStr hc
  obtain ⟨q, rfl, hq⟩ := TV_bytes he
  obtain ⟨k, rfl⟩ := TV_u8 uU8 hf
  exact c4 room l p q k [] [] rfl hl hp hq

set_option maxRecDepth 100000 in
theorem sysKeeps_lifted (os : Os) (started : os.Started) (H : Type) (enc : TypeId × Value → H) :
    ReturnsInHanded {} Tryz.checked os 4 .any (Rows.sysKeepsSpec.pre6 enc Tryz.prog Tryz.f4 Rows.sysKeepsRow.domain false) (Rows.sysKeepsSpec.post enc Tryz.prog Tryz.f4 false true false false) := by
  refine returnsInHanded_of_change_sized (C := Tryz.checked) own started (by kernel_rfl) Tryz.func4
    (ChangeSpec.witness6 (enc := enc) (C := Tryz.checked) false ⟨#[], #[.int .i64 0, .slice none 0 0, .string ⟨#[]⟩, .slice none 0 0, .int .u8 0], []⟩ 8 (by kernel_rfl) (by kernel_rfl) (by kernel_rfl) (by kernel_rfl)) ?_
  intro W base args ds gs before hval hW hcnd hsz _
  refine law_true (d := 9) (tb := 4) laidOut (by kernel_rfl) (by kernel_rfl) Tryz.func4 (by kernel_rfl) (by kernel_rfl) (by kernel_rfl) uBool rfl ?_ sysKeeps_any hval hW hsz
  intro ds hds
  rw [show Tryz.f4.params.toList = [3, 22, 9, 46, 5] by rfl] at hds
  match ds, hds with
  | [d1, d2, d3, d4, d5], _ => rfl

theorem sysKeeps_holds : Rows.SysKeepsSaid :=
  OpenClaim.holds_of_wide 4 Tryz.f4 rfl rfl rfl rfl rfl rfl rfl ⟨rfl, rfl, rfl, rfl, rfl⟩ rfl rfl rfl rfl rfl (by kernel_rfl) Tryz.func4 (by kernel_rfl)
    (of_decide_eq_true (by kernel_rfl)) (by unfold Func.isWrapper; rw [if_neg (by decide +kernel)]; exact ⟨rfl, rfl⟩)
    (fun os started H enc _ => sysKeeps_lifted os started H enc)

end Go.Proofs.YtegffmibifodcaaGreat
