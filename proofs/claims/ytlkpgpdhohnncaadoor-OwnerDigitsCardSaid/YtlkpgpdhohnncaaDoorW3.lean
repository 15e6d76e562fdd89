import Derived.Test.YtlkpgpdhohnncaaDoorAb16
import Derived.Test.YtlkpgpdhohnncaaDoorW2
import Derived.Test.YtlkpgpdhohnncaaDoorItoa
/-
  A NUMBER'S DIGITS: what the kit's shelf says of strconv.Itoa, as a contract.
-/
namespace Go.Proofs.YtlkpgpdhohnncaaDoor
open Go.Ab
set_option linter.unusedVariables false
set_option linter.unusedSimpArgs false


/-- The table of powers of ten, as the start-up code lays it. -/
def pow10T : List AV := Lib.pow10Tab.map (AV.int .u64)
theorem c27 (n : Int) (h : List Blk) (live : List Nat) (hg : globOf h 1 = some pow10T) (hlo : -9223372036854775808 ≤ n) (hhi : n ≤ 9223372036854775807) : ACalls Tryd.prog 27 [.int .i64 n] h live (ret (.str (Lib.itoa n)) h live) := by
  refine ACalls.of_calls Tryd.func27 rfl rfl fun w G vs hvl hr hh => ?_
  match vs, hvl with
  | [a], _ =>
    have h0 := hr 0 (by simp)
    simp at h0
    cases h0
    obtain ⟨e, fz, hw⟩ := hh.glob hg
    have htab : Lib.TabIs Tryd.prog w "internal/strconv.uint64pow10" .u64 Lib.pow10Tab := by
      unfold Lib.TabIs World.var?
      rw [show Tryd.prog.globalNamed "internal/strconv.uint64pow10" = some 1 by kernel_rfl]
      simp only [Option.bind_some, hw]
    refine (Tryd.strconv_Itoa n hlo hhi w htab).mono ?_
    rintro e w' ⟨rfl, k, os, rfl⟩
    obtain ⟨hh', hev⟩ := hh.grown k os
    exact ⟨_, rfl, _, h, live, G, ⟨rfl, rfl, rfl⟩, .str _, hh', hev⟩

end Go.Proofs.YtlkpgpdhohnncaaDoor
