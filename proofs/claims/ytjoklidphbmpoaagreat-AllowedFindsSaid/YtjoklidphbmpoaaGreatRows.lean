/-
  No cell of these rows narrows 'for every input' (looked for: loops, veiled, ifaces, maps, wideKeys, modest, calm, conditions, laid).
  DERIVED. THE GIVEN ROWS OF THIS SEAT. 3 by the template 'for every input the law returns true; each argument reads behind the call as it read before'; 0 by the template 'total and deterministic' (their statements: YtjoklidphbmpoaaGreatTotals.lean).
  GIVEN WITH THE SEED: the statements are not yours to turn. If you find one false, say at which input.
  Laid BY PROGRAM, IN A SANDBOX (cutbox-rows.mjs): the forced cells as the released guide's own fill.sh prints them over the translation 0eecfc16e66c5e1a… (all of the seat's roots in one cut). By AI agents, Wed Nov 11 2026. No macro, syntax, notation, axiom, sorry.
-/
import Derived.Test.YtjoklidphbmpoaaGreatChecked
import GoSem.Claim
import GoSem.ClaimJoined
import GoSem.ClaimMapViews
import Derived.JoinedTies
import Derived.KernelRfl
namespace Go.Proofs.YtjoklidphbmpoaaGreat
/- THE CELL 'sum', in the pinned program and in every row, IS THE sha256 OF THE DUMP (.gsa) THAT YtjoklidphbmpoaaGreatProg.lean LOADS. Nothing in Lean hashes anything: it is a label: what it is worth is what the hold of that sum in a sandbox is worth. -/
noncomputable def Tryz.pinned : Pinned := { name := "ytjoklidphbmpoaagreat", sum := "0eecfc16e66c5e1aaadef9419c794516aea1cd5245d636c52875df547b557d74", checked := Tryz.checked }
namespace Rows
def none {H : Type} : Left H := { results := [], args := [] }

/-- 'gaolerlaw19.AllowedWays': WHATEVER THE INPUT: true; the input reads as it did. -/
def allowedWaysSpec : ChangeSpec := { name := "allowedWays", fn := fun _ => fun
  | [d1, d2, d3, d4] => { results := [.lit (.bool true)], args := [d1, d2, d3, d4] }
  | _ => none }
def allowedWaysRow : OpenClaim := { program := "ytjoklidphbmpoaagreat", sum := "0eecfc16e66c5e1aaadef9419c794516aea1cd5245d636c52875df547b557d74", func := "gaoler/gaolerlaw19.AllowedWays", spec := "allowedWays", inPlace := ["internal/bytealg.IndexByteString", "internal/bytealg.IndexString"], unfollowed := true, recurses := true, named := ["internal/bytealg.MaxLen"], apart := false }
def AllowedWaysSaid : Prop := allowedWaysRow.holds Tryz.pinned (OpenSpec.ofChange allowedWaysSpec)

/-- ITS FALSE NEIGHBOUR: 'it returns false'. Refute it at one input. -/
def allowedWaysWrong : ChangeSpec := { name := "allowedWays", fn := fun _ => fun
  | [d1, d2, d3, d4] => { results := [.lit (.bool false)], args := [d1, d2, d3, d4] }
  | _ => none }
def AllowedWaysWrongFalsely : Prop := allowedWaysRow.holds Tryz.pinned (OpenSpec.ofChange allowedWaysWrong)

/-- 'gaolerlaw19.AllowedRoot': WHATEVER THE INPUT: true; the input reads as it did. -/
def allowedRootSpec : ChangeSpec := { name := "allowedRoot", fn := fun _ => fun
  | [d1, d2, d3, d4, d5] => { results := [.lit (.bool true)], args := [d1, d2, d3, d4, d5] }
  | _ => none }
def allowedRootRow : OpenClaim := { program := "ytjoklidphbmpoaagreat", sum := "0eecfc16e66c5e1aaadef9419c794516aea1cd5245d636c52875df547b557d74", func := "gaoler/gaolerlaw19.AllowedRoot", spec := "allowedRoot", inPlace := ["internal/bytealg.IndexByteString", "internal/bytealg.IndexString"], unfollowed := true, recurses := true, named := ["internal/bytealg.MaxLen"], apart := false }
def AllowedRootSaid : Prop := allowedRootRow.holds Tryz.pinned (OpenSpec.ofChange allowedRootSpec)

/-- ITS FALSE NEIGHBOUR: 'it returns false'. Refute it at one input. -/
def allowedRootWrong : ChangeSpec := { name := "allowedRoot", fn := fun _ => fun
  | [d1, d2, d3, d4, d5] => { results := [.lit (.bool false)], args := [d1, d2, d3, d4, d5] }
  | _ => none }
def AllowedRootWrongFalsely : Prop := allowedRootRow.holds Tryz.pinned (OpenSpec.ofChange allowedRootWrong)

/-- 'gaolerlaw19.AllowedFinds': WHATEVER THE INPUT: true; the input reads as it did. -/
def allowedFindsSpec : ChangeSpec := { name := "allowedFinds", fn := fun _ => fun
  | [d1, d2, d3, d4] => { results := [.lit (.bool true)], args := [d1, d2, d3, d4] }
  | _ => none }
def allowedFindsRow : OpenClaim := { program := "ytjoklidphbmpoaagreat", sum := "0eecfc16e66c5e1aaadef9419c794516aea1cd5245d636c52875df547b557d74", func := "gaoler/gaolerlaw19.AllowedFinds", spec := "allowedFinds", inPlace := ["internal/bytealg.IndexByteString", "internal/bytealg.IndexString"], unfollowed := true, recurses := true, named := ["internal/bytealg.MaxLen"], apart := false }
def AllowedFindsSaid : Prop := allowedFindsRow.holds Tryz.pinned (OpenSpec.ofChange allowedFindsSpec)

/-- ITS FALSE NEIGHBOUR: 'it returns false'. Refute it at one input. -/
def allowedFindsWrong : ChangeSpec := { name := "allowedFinds", fn := fun _ => fun
  | [d1, d2, d3, d4] => { results := [.lit (.bool false)], args := [d1, d2, d3, d4] }
  | _ => none }
def AllowedFindsWrongFalsely : Prop := allowedFindsRow.holds Tryz.pinned (OpenSpec.ofChange allowedFindsWrong)

/- THE SECOND FORM. 'bulk': how many values and letters a reading holds, each counted each time it is reached (what is shared counts as often as it is met; a slice's spare places count too). A statement '..UptoSaid' is the law's where the arguments, and the package variables that the reading takes, are together of bulk at most 1048576: NARROWER than '..Said'. Prove '..Said' where nothing that the law and all that it calls make is longer than what came in: it says more and counts as full. Else prove '..UptoSaid'. A law counts once. -/
mutual
def uptoBulk {H : Type} : DataW H → Nat
  | .lit (.string bytes) => bytes.length + 1
  | .lit _ => 1
  | .nil => 1
  | .ptr d => uptoBulk d + 1
  | .slice elems spare => uptoBulkAll elems + uptoBulkAll spare + 1
  | .agg parts => uptoBulkAll parts + 1
  | .iface _ d => uptoBulk d + 1
  | .map entries => uptoBulkEntries entries + 1
  | .held _ => 1
def uptoBulkAll {H : Type} : List (DataW H) → Nat
  | [] => 0
  | d :: r => uptoBulk d + uptoBulkAll r
def uptoBulkEntries {H : Type} : List (Lit × DataW H) → Nat
  | [] => 0
  | x :: r => uptoBulkEntry x + uptoBulkEntries r
def uptoBulkEntry {H : Type} : Lit × DataW H → Nat
  | (.string bytes, d) => bytes.length + uptoBulk d + 1
  | (_, d) => uptoBulk d + 1
 end
def uptoSmall : (H : Type) → List (DataW H) → Bool := fun _ ds => decide (uptoBulkAll ds ≤ 1048576)
def OpenSpec.upto (s : _root_.Go.ChangeSpec) : _root_.Go.OpenSpec := { _root_.Go.OpenSpec.ofChange s with cond := some uptoSmall }

/-- 'gaolerlaw19.AllowedWays', WHERE WHAT IT READS IS OF BULK AT MOST 1048576: true; the input reads as it did. -/
def allowedWaysUptoRow : OpenClaim := { program := "ytjoklidphbmpoaagreat", sum := "0eecfc16e66c5e1aaadef9419c794516aea1cd5245d636c52875df547b557d74", func := "gaoler/gaolerlaw19.AllowedWays", spec := "allowedWays", inPlace := ["internal/bytealg.IndexByteString", "internal/bytealg.IndexString"], unfollowed := true, recurses := true, named := ["internal/bytealg.MaxLen"], apart := false, narrowed := true }
def AllowedWaysUptoSaid : Prop := allowedWaysUptoRow.holds Tryz.pinned (OpenSpec.upto allowedWaysSpec)

/-- 'gaolerlaw19.AllowedRoot', WHERE WHAT IT READS IS OF BULK AT MOST 1048576: true; the input reads as it did. -/
def allowedRootUptoRow : OpenClaim := { program := "ytjoklidphbmpoaagreat", sum := "0eecfc16e66c5e1aaadef9419c794516aea1cd5245d636c52875df547b557d74", func := "gaoler/gaolerlaw19.AllowedRoot", spec := "allowedRoot", inPlace := ["internal/bytealg.IndexByteString", "internal/bytealg.IndexString"], unfollowed := true, recurses := true, named := ["internal/bytealg.MaxLen"], apart := false, narrowed := true }
def AllowedRootUptoSaid : Prop := allowedRootUptoRow.holds Tryz.pinned (OpenSpec.upto allowedRootSpec)

/-- 'gaolerlaw19.AllowedFinds', WHERE WHAT IT READS IS OF BULK AT MOST 1048576: true; the input reads as it did. -/
def allowedFindsUptoRow : OpenClaim := { program := "ytjoklidphbmpoaagreat", sum := "0eecfc16e66c5e1aaadef9419c794516aea1cd5245d636c52875df547b557d74", func := "gaoler/gaolerlaw19.AllowedFinds", spec := "allowedFinds", inPlace := ["internal/bytealg.IndexByteString", "internal/bytealg.IndexString"], unfollowed := true, recurses := true, named := ["internal/bytealg.MaxLen"], apart := false, narrowed := true }
def AllowedFindsUptoSaid : Prop := allowedFindsUptoRow.holds Tryz.pinned (OpenSpec.upto allowedFindsSpec)

end Rows
end Go.Proofs.YtjoklidphbmpoaaGreat
