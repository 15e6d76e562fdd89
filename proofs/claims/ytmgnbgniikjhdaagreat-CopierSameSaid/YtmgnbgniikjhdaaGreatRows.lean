/-
  No cell of these rows narrows 'for every input' (looked for: loops, veiled, ifaces, maps, wideKeys, modest, calm, conditions, laid).
  DERIVED. THE GIVEN ROWS OF THIS SEAT. 5 by the template 'for every input the law returns true; each argument reads behind the call as it read before'; 0 by the template 'total and deterministic' (their statements: YtmgnbgniikjhdaaGreatTotals.lean).
  GIVEN WITH THE SEED: the statements are not yours to turn. If you find one false, say at which input.
  Laid BY PROGRAM, IN A SANDBOX (cutbox-rows.mjs): the forced cells as the released guide's own fill.sh prints them over the translation 4406002f14afd06d… (all of the seat's roots in one cut). By AI agents, Wed Nov 11 2026. No macro, syntax, notation, axiom, sorry.
-/
import Derived.Test.YtmgnbgniikjhdaaGreatChecked
import GoSem.Claim
import GoSem.ClaimJoined
import GoSem.ClaimMapViews
import Derived.JoinedTies
import Derived.KernelRfl
namespace Go.Proofs.YtmgnbgniikjhdaaGreat
/- THE CELL 'sum', in the pinned program and in every row, IS THE sha256 OF THE DUMP (.gsa) THAT YtmgnbgniikjhdaaGreatProg.lean LOADS. Nothing in Lean hashes anything: it is a label: what it is worth is what the hold of that sum in a sandbox is worth. -/
noncomputable def Tryz.pinned : Pinned := { name := "ytmgnbgniikjhdaagreat", sum := "4406002f14afd06d9e0bbbe035cfbc15a4b79b32ac22e959905b542f872871dd", checked := Tryz.checked }
namespace Rows
def none {H : Type} : Left H := { results := [], args := [] }

/-- 'gaolerlaw24.CopierCopies': WHATEVER THE INPUT: true; the input reads as it did. -/
def copierCopiesSpec : ChangeSpec := { name := "copierCopies", fn := fun _ => fun
  | [d1, d2, d3, d4, d5, d6, d7, d8] => { results := [.lit (.bool true)], args := [d1, d2, d3, d4, d5, d6, d7, d8] }
  | _ => none }
def copierCopiesRow : OpenClaim := { program := "ytmgnbgniikjhdaagreat", sum := "4406002f14afd06d9e0bbbe035cfbc15a4b79b32ac22e959905b542f872871dd", func := "gaoler/gaolerlaw24.CopierCopies", spec := "copierCopies", inPlace := ["internal/bytealg.IndexByteString", "internal/bytealg.IndexString"], unfollowed := true, recurses := true, named := ["internal/bytealg.MaxLen"], apart := false }
def CopierCopiesSaid : Prop := copierCopiesRow.holds Tryz.pinned (OpenSpec.ofChange copierCopiesSpec)

/-- ITS FALSE NEIGHBOUR: 'it returns false'. Refute it at one input. -/
def copierCopiesWrong : ChangeSpec := { name := "copierCopies", fn := fun _ => fun
  | [d1, d2, d3, d4, d5, d6, d7, d8] => { results := [.lit (.bool false)], args := [d1, d2, d3, d4, d5, d6, d7, d8] }
  | _ => none }
def CopierCopiesWrongFalsely : Prop := copierCopiesRow.holds Tryz.pinned (OpenSpec.ofChange copierCopiesWrong)

/-- 'gaolerlaw24.CopierEnds': WHATEVER THE INPUT: true; the input reads as it did. -/
def copierEndsSpec : ChangeSpec := { name := "copierEnds", fn := fun _ => fun
  | [d1, d2, d3, d4, d5] => { results := [.lit (.bool true)], args := [d1, d2, d3, d4, d5] }
  | _ => none }
def copierEndsRow : OpenClaim := { program := "ytmgnbgniikjhdaagreat", sum := "4406002f14afd06d9e0bbbe035cfbc15a4b79b32ac22e959905b542f872871dd", func := "gaoler/gaolerlaw24.CopierEnds", spec := "copierEnds", inPlace := ["internal/bytealg.IndexByteString", "internal/bytealg.IndexString"], unfollowed := true, recurses := true, named := ["internal/bytealg.MaxLen"], apart := false }
def CopierEndsSaid : Prop := copierEndsRow.holds Tryz.pinned (OpenSpec.ofChange copierEndsSpec)

/-- ITS FALSE NEIGHBOUR: 'it returns false'. Refute it at one input. -/
def copierEndsWrong : ChangeSpec := { name := "copierEnds", fn := fun _ => fun
  | [d1, d2, d3, d4, d5] => { results := [.lit (.bool false)], args := [d1, d2, d3, d4, d5] }
  | _ => none }
def CopierEndsWrongFalsely : Prop := copierEndsRow.holds Tryz.pinned (OpenSpec.ofChange copierEndsWrong)

/-- 'gaolerlaw24.CopierSafe': WHATEVER THE INPUT: true; the input reads as it did. -/
def copierSafeSpec : ChangeSpec := { name := "copierSafe", fn := fun _ => fun
  | [d1, d2, d3, d4, d5] => { results := [.lit (.bool true)], args := [d1, d2, d3, d4, d5] }
  | _ => none }
def copierSafeRow : OpenClaim := { program := "ytmgnbgniikjhdaagreat", sum := "4406002f14afd06d9e0bbbe035cfbc15a4b79b32ac22e959905b542f872871dd", func := "gaoler/gaolerlaw24.CopierSafe", spec := "copierSafe", inPlace := ["internal/bytealg.IndexByteString", "internal/bytealg.IndexString"], unfollowed := true, recurses := true, named := ["internal/bytealg.MaxLen"], apart := false }
def CopierSafeSaid : Prop := copierSafeRow.holds Tryz.pinned (OpenSpec.ofChange copierSafeSpec)

/-- ITS FALSE NEIGHBOUR: 'it returns false'. Refute it at one input. -/
def copierSafeWrong : ChangeSpec := { name := "copierSafe", fn := fun _ => fun
  | [d1, d2, d3, d4, d5] => { results := [.lit (.bool false)], args := [d1, d2, d3, d4, d5] }
  | _ => none }
def CopierSafeWrongFalsely : Prop := copierSafeRow.holds Tryz.pinned (OpenSpec.ofChange copierSafeWrong)

/-- 'gaolerlaw24.CopierRuns': WHATEVER THE INPUT: true; the input reads as it did. -/
def copierRunsSpec : ChangeSpec := { name := "copierRuns", fn := fun _ => fun
  | [d1, d2, d3, d4, d5] => { results := [.lit (.bool true)], args := [d1, d2, d3, d4, d5] }
  | _ => none }
def copierRunsRow : OpenClaim := { program := "ytmgnbgniikjhdaagreat", sum := "4406002f14afd06d9e0bbbe035cfbc15a4b79b32ac22e959905b542f872871dd", func := "gaoler/gaolerlaw24.CopierRuns", spec := "copierRuns", inPlace := ["internal/bytealg.IndexByteString", "internal/bytealg.IndexString"], unfollowed := true, recurses := true, named := ["internal/bytealg.MaxLen"], apart := false }
def CopierRunsSaid : Prop := copierRunsRow.holds Tryz.pinned (OpenSpec.ofChange copierRunsSpec)

/-- ITS FALSE NEIGHBOUR: 'it returns false'. Refute it at one input. -/
def copierRunsWrong : ChangeSpec := { name := "copierRuns", fn := fun _ => fun
  | [d1, d2, d3, d4, d5] => { results := [.lit (.bool false)], args := [d1, d2, d3, d4, d5] }
  | _ => none }
def CopierRunsWrongFalsely : Prop := copierRunsRow.holds Tryz.pinned (OpenSpec.ofChange copierRunsWrong)

/-- 'gaolerlaw24.CopierSame': WHATEVER THE INPUT: true; the input reads as it did. -/
def copierSameSpec : ChangeSpec := { name := "copierSame", fn := fun _ => fun
  | [d1, d2, d3, d4, d5, d6] => { results := [.lit (.bool true)], args := [d1, d2, d3, d4, d5, d6] }
  | _ => none }
def copierSameRow : OpenClaim := { program := "ytmgnbgniikjhdaagreat", sum := "4406002f14afd06d9e0bbbe035cfbc15a4b79b32ac22e959905b542f872871dd", func := "gaoler/gaolerlaw24.CopierSame", spec := "copierSame", inPlace := ["internal/bytealg.IndexByteString", "internal/bytealg.IndexString"], unfollowed := true, recurses := true, named := ["internal/bytealg.MaxLen"], apart := false }
def CopierSameSaid : Prop := copierSameRow.holds Tryz.pinned (OpenSpec.ofChange copierSameSpec)

/-- ITS FALSE NEIGHBOUR: 'it returns false'. Refute it at one input. -/
def copierSameWrong : ChangeSpec := { name := "copierSame", fn := fun _ => fun
  | [d1, d2, d3, d4, d5, d6] => { results := [.lit (.bool false)], args := [d1, d2, d3, d4, d5, d6] }
  | _ => none }
def CopierSameWrongFalsely : Prop := copierSameRow.holds Tryz.pinned (OpenSpec.ofChange copierSameWrong)

/- THE SECOND FORM. 'bulk': how many values and letters a reading holds, each counted each time it is reached (what is shared counts as often as it is met; a slice's spare places count too). A statement '..UptoSaid' is the law's where the arguments, and the package variables that the reading takes, are together of bulk at most 1048576: NARROWER than '..Said'. Prove '..Said' where nothing that the law and all that it calls make is longer than what came in: it says more and counts as full. Else prove '..UptoSaid'. A law counts once. -/
mutual
def uptoBulk {H : Type} : DataW H → Nat
  | .lit (.string bytes) => bytes.length + 1
  | .lit _ => 1
  | .nil => 1
  | .ptr d => uptoBulk d + 1
  | .slice elems spare => uptoBulkAll elems + uptoBulkAll spare + 1
  | .agg parts => uptoBulkAll parts + 1
  | .iface _ d => uptoBulk d + 1
  | .map entries => uptoBulkEntries entries + 1
  | .held _ => 1
def uptoBulkAll {H : Type} : List (DataW H) → Nat
  | [] => 0
  | d :: r => uptoBulk d + uptoBulkAll r
def uptoBulkEntries {H : Type} : List (Lit × DataW H) → Nat
  | [] => 0
  | x :: r => uptoBulkEntry x + uptoBulkEntries r
def uptoBulkEntry {H : Type} : Lit × DataW H → Nat
  | (.string bytes, d) => bytes.length + uptoBulk d + 1
  | (_, d) => uptoBulk d + 1
 end
def uptoSmall : (H : Type) → List (DataW H) → Bool := fun _ ds => decide (uptoBulkAll ds ≤ 1048576)
def OpenSpec.upto (s : _root_.Go.ChangeSpec) : _root_.Go.OpenSpec := { _root_.Go.OpenSpec.ofChange s with cond := some uptoSmall }

/-- 'gaolerlaw24.CopierCopies', WHERE WHAT IT READS IS OF BULK AT MOST 1048576: true; the input reads as it did. -/
def copierCopiesUptoRow : OpenClaim := { program := "ytmgnbgniikjhdaagreat", sum := "4406002f14afd06d9e0bbbe035cfbc15a4b79b32ac22e959905b542f872871dd", func := "gaoler/gaolerlaw24.CopierCopies", spec := "copierCopies", inPlace := ["internal/bytealg.IndexByteString", "internal/bytealg.IndexString"], unfollowed := true, recurses := true, named := ["internal/bytealg.MaxLen"], apart := false, narrowed := true }
def CopierCopiesUptoSaid : Prop := copierCopiesUptoRow.holds Tryz.pinned (OpenSpec.upto copierCopiesSpec)

/-- 'gaolerlaw24.CopierEnds', WHERE WHAT IT READS IS OF BULK AT MOST 1048576: true; the input reads as it did. -/
def copierEndsUptoRow : OpenClaim := { program := "ytmgnbgniikjhdaagreat", sum := "4406002f14afd06d9e0bbbe035cfbc15a4b79b32ac22e959905b542f872871dd", func := "gaoler/gaolerlaw24.CopierEnds", spec := "copierEnds", inPlace := ["internal/bytealg.IndexByteString", "internal/bytealg.IndexString"], unfollowed := true, recurses := true, named := ["internal/bytealg.MaxLen"], apart := false, narrowed := true }
def CopierEndsUptoSaid : Prop := copierEndsUptoRow.holds Tryz.pinned (OpenSpec.upto copierEndsSpec)

/-- 'gaolerlaw24.CopierSafe', WHERE WHAT IT READS IS OF BULK AT MOST 1048576: true; the input reads as it did. -/
def copierSafeUptoRow : OpenClaim := { program := "ytmgnbgniikjhdaagreat", sum := "4406002f14afd06d9e0bbbe035cfbc15a4b79b32ac22e959905b542f872871dd", func := "gaoler/gaolerlaw24.CopierSafe", spec := "copierSafe", inPlace := ["internal/bytealg.IndexByteString", "internal/bytealg.IndexString"], unfollowed := true, recurses := true, named := ["internal/bytealg.MaxLen"], apart := false, narrowed := true }
def CopierSafeUptoSaid : Prop := copierSafeUptoRow.holds Tryz.pinned (OpenSpec.upto copierSafeSpec)

/-- 'gaolerlaw24.CopierRuns', WHERE WHAT IT READS IS OF BULK AT MOST 1048576: true; the input reads as it did. -/
def copierRunsUptoRow : OpenClaim := { program := "ytmgnbgniikjhdaagreat", sum := "4406002f14afd06d9e0bbbe035cfbc15a4b79b32ac22e959905b542f872871dd", func := "gaoler/gaolerlaw24.CopierRuns", spec := "copierRuns", inPlace := ["internal/bytealg.IndexByteString", "internal/bytealg.IndexString"], unfollowed := true, recurses := true, named := ["internal/bytealg.MaxLen"], apart := false, narrowed := true }
def CopierRunsUptoSaid : Prop := copierRunsUptoRow.holds Tryz.pinned (OpenSpec.upto copierRunsSpec)

/-- 'gaolerlaw24.CopierSame', WHERE WHAT IT READS IS OF BULK AT MOST 1048576: true; the input reads as it did. -/
def copierSameUptoRow : OpenClaim := { program := "ytmgnbgniikjhdaagreat", sum := "4406002f14afd06d9e0bbbe035cfbc15a4b79b32ac22e959905b542f872871dd", func := "gaoler/gaolerlaw24.CopierSame", spec := "copierSame", inPlace := ["internal/bytealg.IndexByteString", "internal/bytealg.IndexString"], unfollowed := true, recurses := true, named := ["internal/bytealg.MaxLen"], apart := false, narrowed := true }
def CopierSameUptoSaid : Prop := copierSameUptoRow.holds Tryz.pinned (OpenSpec.upto copierSameSpec)

end Rows
end Go.Proofs.YtmgnbgniikjhdaaGreat
