/- OptsAsk: for every input the law returns true, and each argument reads afterwards as it read before. No condition. -/
import Derived.Test.YtjlcdkklobcdhaaR1
import Derived.Test.YtjlcdkklobcdhaaAb13
import Derived.Test.YtjlcdkklobcdhaaO10
namespace Go.Proofs.Ytjlcdkklobcdhaa
set_option linter.unusedVariables false
set_option linter.unusedSimpArgs false
open Go.Ab Go.RowKit Go.ChangeShapes Go.WideShapes Go.ChangeAt

theorem u5 : Try.prog.underlying 5 = some (.int .u8) := by kernel_rfl
theorem u25 : Try.prog.underlying 25 = some (.slice 38) := by kernel_rfl
theorem u38 : Try.prog.underlying 38 = some (.struct (Try.prog.fieldsOf 38)) := by kernel_rfl
theorem f38 : (Try.prog.fieldsOf 38).toList.map (·.type) = [5, 9] := by kernel_rfl

theorem TV_fl {d : Nat} {y : AV} (h : TV Try.prog (d + 1 + 1) 38 y) : ∃ f : Fl, y = eF f := by
  obtain ⟨ys, rfl, hs⟩ := TV_struct u38 f38 h
  obtain ⟨a, b, rfl, ha, hb⟩ := TVl_two hs
  obtain ⟨c, rfl⟩ := TV_u8 u5 ha
  obtain ⟨l, rfl, _⟩ := TV_str u9 hb
  exact ⟨(c, l), rfl⟩

theorem optsAsk_any (ys : List AV) (h : TVl Try.prog 9 Try.f4.params.toList ys) : ACalls Try.prog 4 ys [] [] (ret (.bool true) [] []) := by
  rw [show Try.f4.params.toList = [25, 5, 9] by rfl] at h
  obtain ⟨a, b, c, rfl, ha, hb, hc⟩ := TVl_three h
  obtain ⟨l, rfl, _⟩ := TV_slice u25 (fun y hy => TV_fl hy) ha
  obtain ⟨k, rfl⟩ := TV_u8 u5 hb
  obtain ⟨m, rfl, _⟩ := TV_str u9 hc
  exact c4 l _ k m [] []

set_option maxRecDepth 100000 in
theorem optsAsk_lifted (os : Os) (started : os.Started) (H : Type) (enc : TypeId × Value → H) :
    ReturnsInHanded {} Try.checked os 4 .any (Rows.optsAskSpec.pre6 enc Try.prog Try.f4 Rows.optsAskRow.domain false) (Rows.optsAskSpec.post enc Try.prog Try.f4 false true false false) := by
  refine returnsInHanded_of_change (C := Try.checked) Try.own started (by kernel_rfl) Try.func4
    (ChangeSpec.witness6 (enc := enc) (C := Try.checked) false ⟨#[], #[.slice none 0 0, .int .u8 0, .string ⟨#[]⟩], []⟩ 8 (by kernel_rfl) (by kernel_rfl) (by kernel_rfl) (by kernel_rfl)) ?_
  intro W base args ds gs before hval hW hcnd _
  refine law_true (d := 9) (tb := 4) Try.laidOut (by kernel_rfl) (by kernel_rfl) Try.func4 (by kernel_rfl) (by kernel_rfl) (by kernel_rfl) u4 rfl ?_ optsAsk_any hval hW
  intro ds hds
  rw [show Try.f4.params.toList = [25, 5, 9] by rfl] at hds
  match ds, hds with
  | [d1, d2, d3], _ => rfl

theorem optsAsk_holds : Rows.OptsAskSaid :=
  OpenClaim.holds_of_wide 4 Try.f4 rfl rfl rfl rfl rfl rfl rfl ⟨rfl, rfl, rfl, rfl, rfl⟩ rfl rfl rfl rfl rfl (by kernel_rfl) Try.func4 (by kernel_rfl)
    (of_decide_eq_true (by kernel_rfl)) (by unfold Func.isWrapper; rw [if_neg (by decide +kernel)]; exact ⟨rfl, rfl⟩)
    (fun os started H enc _ => optsAsk_lifted os started H enc)

end Go.Proofs.Ytjlcdkklobcdhaa
