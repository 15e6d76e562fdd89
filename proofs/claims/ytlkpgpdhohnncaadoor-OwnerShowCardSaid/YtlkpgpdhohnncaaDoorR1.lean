/- OwnerParse: for every input the law returns true, and each argument reads afterwards as it read before; the listed tables start as the program's text lays them (the card ties them). -/
import Derived.Test.YtlkpgpdhohnncaaDoorAb17
import Derived.Test.YtlkpgpdhohnncaaDoorW9
import Derived.Test.YtlkpgpdhohnncaaDoorRows
import Derived.Test.YtlkpgpdhohnncaaDoorCards
import Derived.Test.YtlkpgpdhohnncaaDoorTie
import Derived.SevenTiedAt
namespace Go.Proofs.YtlkpgpdhohnncaaDoor
set_option linter.unusedVariables false
set_option linter.unusedSimpArgs false
open Go.Ab Go.RowKit Go.ChangeShapes Go.WideShapes Go.ChangeAt

theorem own : ownKnob Tryd.prog.godebug = none := by kernel_rfl
theorem laidOut : laidOutB Tryd.prog = true := by kernel_rfl
theorem u9 : Tryd.prog.underlying 9 = some .string := by kernel_rfl
theorem u4 : Tryd.prog.underlying 4 = some .bool := by kernel_rfl

abbrev laid3 : List (String × DataW Unit) := Rows.ownerParseRow.laid

theorem door_met (os : Os) (args : Array Value) : laidMetH Tryd.prog laid3 ((World.doorLaid Tryd.prog 400 os).forCall (fun _ _ => 0) ⟨#[], args, []⟩).memory :=
  laidMetH_of_parts3 (fuel := 8) (laidMet_of_run' 8 (by kernel_rfl) (by kernel_rfl)) (by kernel_rfl) (by kernel_rfl)

theorem pow_tab {W : World} (h : laidMetH Tryd.prog laid3 W) : ∃ e fz, W.heap[1]? = some (.cells (Lib.pow10Tab.map (Value.int .u64)).toArray e fz) :=
  laid_tab (k := .u64) (zs := Lib.pow10Tab) (t := 65) (e := 59) (n := 20) (by kernel_rfl) (List.mem_cons_of_mem _ (List.mem_cons_of_mem _ (List.mem_cons_self ..))) (by kernel_rfl) (by kernel_rfl) (by kernel_rfl) (by kernel_rfl) (by kernel_rfl) (by kernel_rfl) h

theorem ownerParse_any (ob : Obj) (ys : List AV) (h : TVl Tryd.prog 9 Tryd.f3.params.toList ys) : ACalls Tryd.prog 3 ys [.glb 1 pow10T ob] [] (ret (.bool true) [.glb 1 pow10T ob] []) := by
  rw [show Tryd.f3.params.toList = [9] by rfl] at h
  obtain ⟨a, rfl, ha⟩ := TVl_one h
  obtain ⟨s, rfl, _⟩ := TV_str u9 ha
  exact c3 s _ [] (by simp [globOf])

set_option maxRecDepth 100000 in
theorem ownerParse_lifted (os : Os) (started : os.Started) (H : Type) (enc : TypeId × Value → H) :
    ReturnsInHanded {} Tryd.checked os 3 .any (fun w args => (Rows.ownerParseSpec.pre enc Tryd.prog Tryd.f3 [] false w args ∧ laidMetH Tryd.prog laid3 w) ∧ sizedMet enc Tryd.prog Tryd.f3 (OpenSpec.ofChange Rows.ownerParseSpec) false w args)
      (Rows.ownerParseSpec.post enc Tryd.prog Tryd.f3 false true false false) := by
  refine returnsInHanded_of_change_and (C := Tryd.checked) (X := fun w _ => laidMetH Tryd.prog laid3 w) (fun _ _ _ hh h => h.of_heap hh) own started (by kernel_rfl) Tryd.func3
    (ChangeSpec.witness_shaped (enc := enc) (C := Tryd.checked) (os := os) (X := fun w _ => laidMetH Tryd.prog laid3 w) false (World.doorLaid Tryd.prog 400 os) #[.string ⟨#[]⟩] 8 rfl (World.shaped_of_RefB (by kernel_rfl) (by kernel_rfl)) (by kernel_rfl) (by kernel_rfl) (by kernel_rfl) (door_met os _)) ?_
  intro W base args ds gs before hval hW _ _ hL _
  obtain ⟨e, fz, hg⟩ := pow_tab hL
  refine law_true_laid (d := 9) (tb := 4) laidOut (by kernel_rfl) (by kernel_rfl) (by kernel_rfl) Tryd.func3 (by kernel_rfl) (by kernel_rfl) (by kernel_rfl) u4 rfl ?_ hg ownerParse_any hval hW
  intro ds hds
  rw [show Tryd.f3.params.toList = [9] by rfl] at hds
  match ds, hds with
  | [d1], _ => rfl

theorem ownerParse_row : Rows.OwnerParseSaid :=
  OpenClaim.holds_of_wide 3 Tryd.f3 rfl rfl rfl rfl rfl rfl rfl ⟨rfl, rfl, rfl, rfl, rfl⟩ rfl rfl rfl rfl rfl (by kernel_rfl) Tryd.func3 (by kernel_rfl)
    (of_decide_eq_true (by kernel_rfl)) (by unfold Func.isWrapper; first | (rw [if_pos (by decide +kernel)]; kernel_rfl) | (rw [if_neg (by decide +kernel)]; exact ⟨rfl, rfl⟩))
    (fun os started H enc _ => ownerParse_lifted os started H enc)

theorem ownerParse_card : Rows.OwnerParseCardSaid :=
  Claim7.holds_tied_plain_at .later [] [.data, .data, .data] true (true, "7ab8b0fef4fc87a83b307d618a60a64dea40098feddbd8d7c99c1048f644a71b") false
    ownerParse_row (fun _ h => by cases h) (by kernel_rfl) (fun _ h => by cases h) ownerParse_row_tie rfl ⟨rfl, rfl⟩ (by kernel_rfl) rfl
    (fun f fn hf hfn => by
      obtain rfl : f = 3 := Option.some.inj ((show Tryd.prog.funcNamed "gaoler/gaolerlaw05.OwnerParse" = some 3 by kernel_rfl).symm.trans hf) |>.symm
      obtain rfl : fn = Tryd.f3 := (Option.some.inj (Tryd.func3.symm.trans hfn)).symm
      exact ⟨by kernel_rfl, fun j t ht => by
        rw [show Tryd.f3.params = #[9] by rfl] at ht
        have hm : t ∈ [9] := by simpa using Array.mem_of_getElem? ht
        have hall : ([9].all fun u => !Tryd.prog.wantsStandIn u) = true := by kernel_rfl
        exact (show Tryd.prog.wantsStandIn t = false by simpa using List.all_eq_true.1 hall t hm)⟩)
    (by kernel_rfl)

end Go.Proofs.YtlkpgpdhohnncaaDoor
