/- OwnerShow: for every input the law returns true, and each argument reads afterwards as it read before; the listed tables start as the program's text lays them (the card ties them). -/
import Derived.Test.YtlkpgpdhohnncaaDoorR1
import Derived.Test.YtlkpgpdhohnncaaDoorW9
import Derived.Test.YtlkpgpdhohnncaaDoorRows
import Derived.Test.YtlkpgpdhohnncaaDoorCards
import Derived.Test.YtlkpgpdhohnncaaDoorTie
import Derived.SevenTiedAt
namespace Go.Proofs.YtlkpgpdhohnncaaDoor
set_option linter.unusedVariables false
set_option linter.unusedSimpArgs false
open Go.Ab Go.RowKit Go.ChangeShapes Go.WideShapes Go.ChangeAt

theorem ownerShow_any (ob : Obj) (ys : List AV) (h : TVl Tryd.prog 9 Tryd.f4.params.toList ys) : ACalls Tryd.prog 4 ys [.glb 1 pow10T ob] [] (ret (.bool true) [.glb 1 pow10T ob] []) := by
  rw [show Tryd.f4.params.toList = [3, 3] by rfl] at h
  obtain ⟨a, b, rfl, ha, hb⟩ := TVl_two h
  obtain ⟨u, rfl, h1, h2⟩ := TV_int (show Tryd.prog.underlying 3 = some (.int .i64) by kernel_rfl) ha
  obtain ⟨g, rfl, h3, h4⟩ := TV_int (show Tryd.prog.underlying 3 = some (.int .i64) by kernel_rfl) hb
  exact c4 u g _ [] (by simp [globOf]) h1 h2 h3 h4

set_option maxRecDepth 100000 in
theorem ownerShow_lifted (os : Os) (started : os.Started) (H : Type) (enc : TypeId × Value → H) :
    ReturnsInHanded {} Tryd.checked os 4 .any (fun w args => (Rows.ownerShowSpec.pre enc Tryd.prog Tryd.f4 [] false w args ∧ laidMetH Tryd.prog laid3 w) ∧ sizedMet enc Tryd.prog Tryd.f4 (OpenSpec.ofChange Rows.ownerShowSpec) false w args)
      (Rows.ownerShowSpec.post enc Tryd.prog Tryd.f4 false true false false) := by
  refine returnsInHanded_of_change_and (C := Tryd.checked) (X := fun w _ => laidMetH Tryd.prog laid3 w) (fun _ _ _ hh h => h.of_heap hh) own started (by kernel_rfl) Tryd.func4
    (ChangeSpec.witness_shaped (enc := enc) (C := Tryd.checked) (os := os) (X := fun w _ => laidMetH Tryd.prog laid3 w) false (World.doorLaid Tryd.prog 400 os) #[.int .i64 0, .int .i64 0] 8 rfl (World.shaped_of_RefB (by kernel_rfl) (by kernel_rfl)) (by kernel_rfl) (by kernel_rfl) (by kernel_rfl) (door_met os _)) ?_
  intro W base args ds gs before hval hW _ _ hL _
  obtain ⟨e, fz, hg⟩ := pow_tab hL
  refine law_true_laid (d := 9) (tb := 4) laidOut (by kernel_rfl) (by kernel_rfl) (by kernel_rfl) Tryd.func4 (by kernel_rfl) (by kernel_rfl) (by kernel_rfl) u4 rfl ?_ hg ownerShow_any hval hW
  intro ds hds
  rw [show Tryd.f4.params.toList = [3, 3] by rfl] at hds
  match ds, hds with
  | [d1, d2], _ => rfl

theorem ownerShow_row : Rows.OwnerShowSaid :=
  OpenClaim.holds_of_wide 4 Tryd.f4 rfl rfl rfl rfl rfl rfl rfl ⟨rfl, rfl, rfl, rfl, rfl⟩ rfl rfl rfl rfl rfl (by kernel_rfl) Tryd.func4 (by kernel_rfl)
    (of_decide_eq_true (by kernel_rfl)) (by unfold Func.isWrapper; first | (rw [if_pos (by decide +kernel)]; kernel_rfl) | (rw [if_neg (by decide +kernel)]; exact ⟨rfl, rfl⟩))
    (fun os started H enc _ => ownerShow_lifted os started H enc)

theorem ownerShow_card : Rows.OwnerShowCardSaid :=
  Claim7.holds_tied_plain_at .later [] [.data, .data, .data] true (true, "7ab8b0fef4fc87a83b307d618a60a64dea40098feddbd8d7c99c1048f644a71b") false
    ownerShow_row (fun _ h => by cases h) (by kernel_rfl) (fun _ h => by cases h) ownerShow_row_tie rfl ⟨rfl, rfl⟩ (by kernel_rfl) rfl
    (fun f fn hf hfn => by
      obtain rfl : f = 4 := Option.some.inj ((show Tryd.prog.funcNamed "gaoler/gaolerlaw05.OwnerShow" = some 4 by kernel_rfl).symm.trans hf) |>.symm
      obtain rfl : fn = Tryd.f4 := (Option.some.inj (Tryd.func4.symm.trans hfn)).symm
      exact ⟨by kernel_rfl, fun j t ht => by
        rw [show Tryd.f4.params = #[3, 3] by rfl] at ht
        have hm : t ∈ [3, 3] := by simpa using Array.mem_of_getElem? ht
        have hall : ([3, 3].all fun u => !Tryd.prog.wantsStandIn u) = true := by kernel_rfl
        exact (show Tryd.prog.wantsStandIn t = false by simpa using List.all_eq_true.1 hall t hm)⟩)
    (by kernel_rfl)

end Go.Proofs.YtlkpgpdhohnncaaDoor
