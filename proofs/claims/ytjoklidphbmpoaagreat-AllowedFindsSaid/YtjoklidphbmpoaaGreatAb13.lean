import Derived.Test.YtjoklidphbmpoaaGreatAb12
/-
  THE FRAMEWORK, 13: structs among the arguments.
-/
namespace Go.Ab
set_option linter.unusedVariables false
set_option linter.unusedSimpArgs false
section
variable {P : Program} {d : Nat}
theorem TVs_TVl : ∀ {fs : List Field} {ys : List AV}, TVs (TV P d) fs ys → TVl P d (fs.map (·.type)) ys
  | [], [], _ => trivial
  | _ :: _, _ :: _, h => ⟨h.1, TVs_TVl h.2⟩
  | [], _ :: _, h => h.elim
  | _ :: _, [], h => h.elim
theorem TV_struct {t : TypeId} {x : AV} {ts : List TypeId} (hu : P.underlying t = some (.struct (P.fieldsOf t))) (hts : (P.fieldsOf t).toList.map (·.type) = ts) (h : TV P (d + 1) t x) : ∃ ys, x = .agg (ys.flatMap AV.cells) ∧ TVl P d ts ys := by
  unfold TV at h; rw [hu] at h
  obtain ⟨ys, rfl, h⟩ := h
  exact ⟨ys, rfl, hts ▸ TVs_TVl h⟩
end
end Go.Ab
