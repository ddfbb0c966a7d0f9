/-
  No cell of these rows narrows 'for every input' (looked for: loops, veiled, ifaces, maps, wideKeys, modest, calm, conditions, laid).
  DERIVED. THE GIVEN ROWS OF THIS SEAT. 12 by the template 'for every input the law returns true; each argument reads behind the call as it read before'; 0 by the template 'total and deterministic' (their statements: YtoccimigjjndpaaTotals.lean).
  GIVEN WITH THE SEED: the statements are not yours to turn. If you find one false, say at which input.
  Laid BY PROGRAM, IN A SANDBOX (cutbox-rows.mjs): the forced cells as the released guide's own fill.sh prints them over the translation 91c7ffb10c2cd986… (all of the seat's roots in one cut). By AI agents, Wed Nov 11 2026. No macro, syntax, notation, axiom, sorry.
-/
import Derived.Test.YtoccimigjjndpaaChecked
import GoSem.Claim
import GoSem.ClaimJoined
import GoSem.ClaimMapViews
import Derived.JoinedTies
import Derived.KernelRfl
namespace Go.Proofs.Ytoccimigjjndpaa
/- THE CELL 'sum', in the pinned program and in every row, IS THE sha256 OF THE DUMP (.gsa) THAT YtoccimigjjndpaaProg.lean LOADS. Nothing in Lean hashes anything: it is a label: what it is worth is what the hold of that sum in a sandbox is worth. -/
noncomputable def Try.pinned : Pinned := { name := "ytoccimigjjndpaa", sum := "91c7ffb10c2cd986ea1e24c65f3faaa8e4e06dfbc8b71a890d630ab2ce4d3384", checked := Try.checked }
namespace Rows
def none {H : Type} : Left H := { results := [], args := [] }

/-- 'exactreallaw28.TreePersists': WHATEVER THE INPUT: true; the input reads as it did. -/
def treePersistsSpec : ChangeSpec := { name := "treePersists", fn := fun _ => fun
  | [d1, d2] => { results := [.lit (.bool true)], args := [d1, d2] }
  | _ => none }
def treePersistsRow : OpenClaim := { program := "ytoccimigjjndpaa", sum := "91c7ffb10c2cd986ea1e24c65f3faaa8e4e06dfbc8b71a890d630ab2ce4d3384", func := "exactreal/exactreallaw28.TreePersists", spec := "treePersists", unfollowed := true, recurses := true, apart := false }
def TreePersistsSaid : Prop := treePersistsRow.holds Try.pinned (OpenSpec.ofChange treePersistsSpec)

/-- ITS FALSE NEIGHBOUR: 'it returns false'. Refute it at one input. -/
def treePersistsWrong : ChangeSpec := { name := "treePersists", fn := fun _ => fun
  | [d1, d2] => { results := [.lit (.bool false)], args := [d1, d2] }
  | _ => none }
def TreePersistsWrongFalsely : Prop := treePersistsRow.holds Try.pinned (OpenSpec.ofChange treePersistsWrong)

/-- 'exactreallaw28.TreeParts': WHATEVER THE INPUT: true; the input reads as it did. -/
def treePartsSpec : ChangeSpec := { name := "treeParts", fn := fun _ => fun
  | [d1, d2, d3] => { results := [.lit (.bool true)], args := [d1, d2, d3] }
  | _ => none }
def treePartsRow : OpenClaim := { program := "ytoccimigjjndpaa", sum := "91c7ffb10c2cd986ea1e24c65f3faaa8e4e06dfbc8b71a890d630ab2ce4d3384", func := "exactreal/exactreallaw28.TreeParts", spec := "treeParts", unfollowed := true, recurses := true, apart := false }
def TreePartsSaid : Prop := treePartsRow.holds Try.pinned (OpenSpec.ofChange treePartsSpec)

/-- ITS FALSE NEIGHBOUR: 'it returns false'. Refute it at one input. -/
def treePartsWrong : ChangeSpec := { name := "treeParts", fn := fun _ => fun
  | [d1, d2, d3] => { results := [.lit (.bool false)], args := [d1, d2, d3] }
  | _ => none }
def TreePartsWrongFalsely : Prop := treePartsRow.holds Try.pinned (OpenSpec.ofChange treePartsWrong)

/-- 'exactreallaw28.TreeCopies': WHATEVER THE INPUT: true; the input reads as it did. -/
def treeCopiesSpec : ChangeSpec := { name := "treeCopies", fn := fun _ => fun
  | [d1, d2] => { results := [.lit (.bool true)], args := [d1, d2] }
  | _ => none }
def treeCopiesRow : OpenClaim := { program := "ytoccimigjjndpaa", sum := "91c7ffb10c2cd986ea1e24c65f3faaa8e4e06dfbc8b71a890d630ab2ce4d3384", func := "exactreal/exactreallaw28.TreeCopies", spec := "treeCopies", unfollowed := true, recurses := true, apart := false }
def TreeCopiesSaid : Prop := treeCopiesRow.holds Try.pinned (OpenSpec.ofChange treeCopiesSpec)

/-- ITS FALSE NEIGHBOUR: 'it returns false'. Refute it at one input. -/
def treeCopiesWrong : ChangeSpec := { name := "treeCopies", fn := fun _ => fun
  | [d1, d2] => { results := [.lit (.bool false)], args := [d1, d2] }
  | _ => none }
def TreeCopiesWrongFalsely : Prop := treeCopiesRow.holds Try.pinned (OpenSpec.ofChange treeCopiesWrong)

/-- 'exactreallaw28.TreeBalances': WHATEVER THE INPUT: true; the input reads as it did. -/
def treeBalancesSpec : ChangeSpec := { name := "treeBalances", fn := fun _ => fun
  | [d1, d2] => { results := [.lit (.bool true)], args := [d1, d2] }
  | _ => none }
def treeBalancesRow : OpenClaim := { program := "ytoccimigjjndpaa", sum := "91c7ffb10c2cd986ea1e24c65f3faaa8e4e06dfbc8b71a890d630ab2ce4d3384", func := "exactreal/exactreallaw28.TreeBalances", spec := "treeBalances", unfollowed := true, recurses := true, apart := false }
def TreeBalancesSaid : Prop := treeBalancesRow.holds Try.pinned (OpenSpec.ofChange treeBalancesSpec)

/-- ITS FALSE NEIGHBOUR: 'it returns false'. Refute it at one input. -/
def treeBalancesWrong : ChangeSpec := { name := "treeBalances", fn := fun _ => fun
  | [d1, d2] => { results := [.lit (.bool false)], args := [d1, d2] }
  | _ => none }
def TreeBalancesWrongFalsely : Prop := treeBalancesRow.holds Try.pinned (OpenSpec.ofChange treeBalancesWrong)

/-- 'exactreallaw28.TreeFinds': WHATEVER THE INPUT: true; the input reads as it did. -/
def treeFindsSpec : ChangeSpec := { name := "treeFinds", fn := fun _ => fun
  | [d1, d2, d3, d4] => { results := [.lit (.bool true)], args := [d1, d2, d3, d4] }
  | _ => none }
def treeFindsRow : OpenClaim := { program := "ytoccimigjjndpaa", sum := "91c7ffb10c2cd986ea1e24c65f3faaa8e4e06dfbc8b71a890d630ab2ce4d3384", func := "exactreal/exactreallaw28.TreeFinds", spec := "treeFinds", unfollowed := true, recurses := true, apart := false }
def TreeFindsSaid : Prop := treeFindsRow.holds Try.pinned (OpenSpec.ofChange treeFindsSpec)

/-- ITS FALSE NEIGHBOUR: 'it returns false'. Refute it at one input. -/
def treeFindsWrong : ChangeSpec := { name := "treeFinds", fn := fun _ => fun
  | [d1, d2, d3, d4] => { results := [.lit (.bool false)], args := [d1, d2, d3, d4] }
  | _ => none }
def TreeFindsWrongFalsely : Prop := treeFindsRow.holds Try.pinned (OpenSpec.ofChange treeFindsWrong)

/-- 'exactreallaw28.TreeBuilds': WHATEVER THE INPUT: true; the input reads as it did. -/
def treeBuildsSpec : ChangeSpec := { name := "treeBuilds", fn := fun _ => fun
  | [d1, d2] => { results := [.lit (.bool true)], args := [d1, d2] }
  | _ => none }
def treeBuildsRow : OpenClaim := { program := "ytoccimigjjndpaa", sum := "91c7ffb10c2cd986ea1e24c65f3faaa8e4e06dfbc8b71a890d630ab2ce4d3384", func := "exactreal/exactreallaw28.TreeBuilds", spec := "treeBuilds", unfollowed := true, recurses := true, apart := false }
def TreeBuildsSaid : Prop := treeBuildsRow.holds Try.pinned (OpenSpec.ofChange treeBuildsSpec)

/-- ITS FALSE NEIGHBOUR: 'it returns false'. Refute it at one input. -/
def treeBuildsWrong : ChangeSpec := { name := "treeBuilds", fn := fun _ => fun
  | [d1, d2] => { results := [.lit (.bool false)], args := [d1, d2] }
  | _ => none }
def TreeBuildsWrongFalsely : Prop := treeBuildsRow.holds Try.pinned (OpenSpec.ofChange treeBuildsWrong)

/-- 'exactreallaw29.DiffBetween': WHATEVER THE INPUT: true; the input reads as it did. -/
def diffBetweenSpec : ChangeSpec := { name := "diffBetween", fn := fun _ => fun
  | [d1, d2] => { results := [.lit (.bool true)], args := [d1, d2] }
  | _ => none }
def diffBetweenRow : OpenClaim := { program := "ytoccimigjjndpaa", sum := "91c7ffb10c2cd986ea1e24c65f3faaa8e4e06dfbc8b71a890d630ab2ce4d3384", func := "exactreal/exactreallaw29.DiffBetween", spec := "diffBetween", inPlace := ["internal/abi.NoEscape", "internal/bytealg.MakeNoZero"], unfollowed := true, recurses := true, apart := false }
def DiffBetweenSaid : Prop := diffBetweenRow.holds Try.pinned (OpenSpec.ofChange diffBetweenSpec)

/-- ITS FALSE NEIGHBOUR: 'it returns false'. Refute it at one input. -/
def diffBetweenWrong : ChangeSpec := { name := "diffBetween", fn := fun _ => fun
  | [d1, d2] => { results := [.lit (.bool false)], args := [d1, d2] }
  | _ => none }
def DiffBetweenWrongFalsely : Prop := diffBetweenRow.holds Try.pinned (OpenSpec.ofChange diffBetweenWrong)

/-- 'exactreallaw29.DiffValid': WHATEVER THE INPUT: true; the input reads as it did. -/
def diffValidSpec : ChangeSpec := { name := "diffValid", fn := fun _ => fun
  | [d1, d2, d3, d4, d5, d6] => { results := [.lit (.bool true)], args := [d1, d2, d3, d4, d5, d6] }
  | _ => none }
def diffValidRow : OpenClaim := { program := "ytoccimigjjndpaa", sum := "91c7ffb10c2cd986ea1e24c65f3faaa8e4e06dfbc8b71a890d630ab2ce4d3384", func := "exactreal/exactreallaw29.DiffValid", spec := "diffValid", inPlace := ["internal/abi.NoEscape", "internal/bytealg.MakeNoZero"], unfollowed := true, recurses := true, apart := false }
def DiffValidSaid : Prop := diffValidRow.holds Try.pinned (OpenSpec.ofChange diffValidSpec)

/-- ITS FALSE NEIGHBOUR: 'it returns false'. Refute it at one input. -/
def diffValidWrong : ChangeSpec := { name := "diffValid", fn := fun _ => fun
  | [d1, d2, d3, d4, d5, d6] => { results := [.lit (.bool false)], args := [d1, d2, d3, d4, d5, d6] }
  | _ => none }
def DiffValidWrongFalsely : Prop := diffValidRow.holds Try.pinned (OpenSpec.ofChange diffValidWrong)

/-- 'exactreallaw29.DiffComposes': WHATEVER THE INPUT: true; the input reads as it did. -/
def diffComposesSpec : ChangeSpec := { name := "diffComposes", fn := fun _ => fun
  | [d1, d2, d3, d4] => { results := [.lit (.bool true)], args := [d1, d2, d3, d4] }
  | _ => none }
def diffComposesRow : OpenClaim := { program := "ytoccimigjjndpaa", sum := "91c7ffb10c2cd986ea1e24c65f3faaa8e4e06dfbc8b71a890d630ab2ce4d3384", func := "exactreal/exactreallaw29.DiffComposes", spec := "diffComposes", inPlace := ["internal/abi.NoEscape", "internal/bytealg.MakeNoZero"], unfollowed := true, recurses := true, apart := false }
def DiffComposesSaid : Prop := diffComposesRow.holds Try.pinned (OpenSpec.ofChange diffComposesSpec)

/-- ITS FALSE NEIGHBOUR: 'it returns false'. Refute it at one input. -/
def diffComposesWrong : ChangeSpec := { name := "diffComposes", fn := fun _ => fun
  | [d1, d2, d3, d4] => { results := [.lit (.bool false)], args := [d1, d2, d3, d4] }
  | _ => none }
def DiffComposesWrongFalsely : Prop := diffComposesRow.holds Try.pinned (OpenSpec.ofChange diffComposesWrong)

/-- 'exactreallaw29.DiffMerges': WHATEVER THE INPUT: true; the input reads as it did. -/
def diffMergesSpec : ChangeSpec := { name := "diffMerges", fn := fun _ => fun
  | [d1, d2, d3] => { results := [.lit (.bool true)], args := [d1, d2, d3] }
  | _ => none }
def diffMergesRow : OpenClaim := { program := "ytoccimigjjndpaa", sum := "91c7ffb10c2cd986ea1e24c65f3faaa8e4e06dfbc8b71a890d630ab2ce4d3384", func := "exactreal/exactreallaw29.DiffMerges", spec := "diffMerges", inPlace := ["internal/abi.NoEscape", "internal/bytealg.MakeNoZero"], unfollowed := true, recurses := true, apart := false }
def DiffMergesSaid : Prop := diffMergesRow.holds Try.pinned (OpenSpec.ofChange diffMergesSpec)

/-- ITS FALSE NEIGHBOUR: 'it returns false'. Refute it at one input. -/
def diffMergesWrong : ChangeSpec := { name := "diffMerges", fn := fun _ => fun
  | [d1, d2, d3] => { results := [.lit (.bool false)], args := [d1, d2, d3] }
  | _ => none }
def DiffMergesWrongFalsely : Prop := diffMergesRow.holds Try.pinned (OpenSpec.ofChange diffMergesWrong)

/-- 'exactreallaw29.DiffApplies': WHATEVER THE INPUT: true; the input reads as it did. -/
def diffAppliesSpec : ChangeSpec := { name := "diffApplies", fn := fun _ => fun
  | [d1, d2, d3, d4] => { results := [.lit (.bool true)], args := [d1, d2, d3, d4] }
  | _ => none }
def diffAppliesRow : OpenClaim := { program := "ytoccimigjjndpaa", sum := "91c7ffb10c2cd986ea1e24c65f3faaa8e4e06dfbc8b71a890d630ab2ce4d3384", func := "exactreal/exactreallaw29.DiffApplies", spec := "diffApplies", inPlace := ["internal/abi.NoEscape", "internal/bytealg.MakeNoZero"], unfollowed := true, recurses := true, apart := false }
def DiffAppliesSaid : Prop := diffAppliesRow.holds Try.pinned (OpenSpec.ofChange diffAppliesSpec)

/-- ITS FALSE NEIGHBOUR: 'it returns false'. Refute it at one input. -/
def diffAppliesWrong : ChangeSpec := { name := "diffApplies", fn := fun _ => fun
  | [d1, d2, d3, d4] => { results := [.lit (.bool false)], args := [d1, d2, d3, d4] }
  | _ => none }
def DiffAppliesWrongFalsely : Prop := diffAppliesRow.holds Try.pinned (OpenSpec.ofChange diffAppliesWrong)

/-- 'exactreallaw29.DiffInverts': WHATEVER THE INPUT: true; the input reads as it did. -/
def diffInvertsSpec : ChangeSpec := { name := "diffInverts", fn := fun _ => fun
  | [d1, d2] => { results := [.lit (.bool true)], args := [d1, d2] }
  | _ => none }
def diffInvertsRow : OpenClaim := { program := "ytoccimigjjndpaa", sum := "91c7ffb10c2cd986ea1e24c65f3faaa8e4e06dfbc8b71a890d630ab2ce4d3384", func := "exactreal/exactreallaw29.DiffInverts", spec := "diffInverts", inPlace := ["internal/abi.NoEscape", "internal/bytealg.MakeNoZero"], unfollowed := true, recurses := true, apart := false }
def DiffInvertsSaid : Prop := diffInvertsRow.holds Try.pinned (OpenSpec.ofChange diffInvertsSpec)

/-- ITS FALSE NEIGHBOUR: 'it returns false'. Refute it at one input. -/
def diffInvertsWrong : ChangeSpec := { name := "diffInverts", fn := fun _ => fun
  | [d1, d2] => { results := [.lit (.bool false)], args := [d1, d2] }
  | _ => none }
def DiffInvertsWrongFalsely : Prop := diffInvertsRow.holds Try.pinned (OpenSpec.ofChange diffInvertsWrong)

/- THE SECOND FORM. 'bulk': how many values and letters a reading holds, each counted each time it is reached (what is shared counts as often as it is met; a slice's spare places count too). A statement '..UptoSaid' is the law's where the arguments, and the package variables that the reading takes, are together of bulk at most 1048576: NARROWER than '..Said'. Prove '..Said' where nothing that the law and all that it calls make is longer than what came in: it says more and counts as full. Else prove '..UptoSaid'. A law counts once. -/
mutual
def uptoBulk {H : Type} : DataW H → Nat
  | .lit (.string bytes) => bytes.length + 1
  | .lit _ => 1
  | .nil => 1
  | .ptr d => uptoBulk d + 1
  | .slice elems spare => uptoBulkAll elems + uptoBulkAll spare + 1
  | .agg parts => uptoBulkAll parts + 1
  | .iface _ d => uptoBulk d + 1
  | .map entries => uptoBulkEntries entries + 1
  | .held _ => 1
def uptoBulkAll {H : Type} : List (DataW H) → Nat
  | [] => 0
  | d :: r => uptoBulk d + uptoBulkAll r
def uptoBulkEntries {H : Type} : List (Lit × DataW H) → Nat
  | [] => 0
  | x :: r => uptoBulkEntry x + uptoBulkEntries r
def uptoBulkEntry {H : Type} : Lit × DataW H → Nat
  | (.string bytes, d) => bytes.length + uptoBulk d + 1
  | (_, d) => uptoBulk d + 1
 end
def uptoSmall : (H : Type) → List (DataW H) → Bool := fun _ ds => decide (uptoBulkAll ds ≤ 1048576)
def OpenSpec.upto (s : _root_.Go.ChangeSpec) : _root_.Go.OpenSpec := { _root_.Go.OpenSpec.ofChange s with cond := some uptoSmall }

/-- 'exactreallaw28.TreePersists', WHERE WHAT IT READS IS OF BULK AT MOST 1048576: true; the input reads as it did. -/
def treePersistsUptoRow : OpenClaim := { program := "ytoccimigjjndpaa", sum := "91c7ffb10c2cd986ea1e24c65f3faaa8e4e06dfbc8b71a890d630ab2ce4d3384", func := "exactreal/exactreallaw28.TreePersists", spec := "treePersists", unfollowed := true, recurses := true, apart := false, narrowed := true }
def TreePersistsUptoSaid : Prop := treePersistsUptoRow.holds Try.pinned (OpenSpec.upto treePersistsSpec)

/-- 'exactreallaw28.TreeParts', WHERE WHAT IT READS IS OF BULK AT MOST 1048576: true; the input reads as it did. -/
def treePartsUptoRow : OpenClaim := { program := "ytoccimigjjndpaa", sum := "91c7ffb10c2cd986ea1e24c65f3faaa8e4e06dfbc8b71a890d630ab2ce4d3384", func := "exactreal/exactreallaw28.TreeParts", spec := "treeParts", unfollowed := true, recurses := true, apart := false, narrowed := true }
def TreePartsUptoSaid : Prop := treePartsUptoRow.holds Try.pinned (OpenSpec.upto treePartsSpec)

/-- 'exactreallaw28.TreeCopies', WHERE WHAT IT READS IS OF BULK AT MOST 1048576: true; the input reads as it did. -/
def treeCopiesUptoRow : OpenClaim := { program := "ytoccimigjjndpaa", sum := "91c7ffb10c2cd986ea1e24c65f3faaa8e4e06dfbc8b71a890d630ab2ce4d3384", func := "exactreal/exactreallaw28.TreeCopies", spec := "treeCopies", unfollowed := true, recurses := true, apart := false, narrowed := true }
def TreeCopiesUptoSaid : Prop := treeCopiesUptoRow.holds Try.pinned (OpenSpec.upto treeCopiesSpec)

/-- 'exactreallaw28.TreeBalances', WHERE WHAT IT READS IS OF BULK AT MOST 1048576: true; the input reads as it did. -/
def treeBalancesUptoRow : OpenClaim := { program := "ytoccimigjjndpaa", sum := "91c7ffb10c2cd986ea1e24c65f3faaa8e4e06dfbc8b71a890d630ab2ce4d3384", func := "exactreal/exactreallaw28.TreeBalances", spec := "treeBalances", unfollowed := true, recurses := true, apart := false, narrowed := true }
def TreeBalancesUptoSaid : Prop := treeBalancesUptoRow.holds Try.pinned (OpenSpec.upto treeBalancesSpec)

/-- 'exactreallaw28.TreeFinds', WHERE WHAT IT READS IS OF BULK AT MOST 1048576: true; the input reads as it did. -/
def treeFindsUptoRow : OpenClaim := { program := "ytoccimigjjndpaa", sum := "91c7ffb10c2cd986ea1e24c65f3faaa8e4e06dfbc8b71a890d630ab2ce4d3384", func := "exactreal/exactreallaw28.TreeFinds", spec := "treeFinds", unfollowed := true, recurses := true, apart := false, narrowed := true }
def TreeFindsUptoSaid : Prop := treeFindsUptoRow.holds Try.pinned (OpenSpec.upto treeFindsSpec)

/-- 'exactreallaw28.TreeBuilds', WHERE WHAT IT READS IS OF BULK AT MOST 1048576: true; the input reads as it did. -/
def treeBuildsUptoRow : OpenClaim := { program := "ytoccimigjjndpaa", sum := "91c7ffb10c2cd986ea1e24c65f3faaa8e4e06dfbc8b71a890d630ab2ce4d3384", func := "exactreal/exactreallaw28.TreeBuilds", spec := "treeBuilds", unfollowed := true, recurses := true, apart := false, narrowed := true }
def TreeBuildsUptoSaid : Prop := treeBuildsUptoRow.holds Try.pinned (OpenSpec.upto treeBuildsSpec)

/-- 'exactreallaw29.DiffBetween', WHERE WHAT IT READS IS OF BULK AT MOST 1048576: true; the input reads as it did. -/
def diffBetweenUptoRow : OpenClaim := { program := "ytoccimigjjndpaa", sum := "91c7ffb10c2cd986ea1e24c65f3faaa8e4e06dfbc8b71a890d630ab2ce4d3384", func := "exactreal/exactreallaw29.DiffBetween", spec := "diffBetween", inPlace := ["internal/abi.NoEscape", "internal/bytealg.MakeNoZero"], unfollowed := true, recurses := true, apart := false, narrowed := true }
def DiffBetweenUptoSaid : Prop := diffBetweenUptoRow.holds Try.pinned (OpenSpec.upto diffBetweenSpec)

/-- 'exactreallaw29.DiffValid', WHERE WHAT IT READS IS OF BULK AT MOST 1048576: true; the input reads as it did. -/
def diffValidUptoRow : OpenClaim := { program := "ytoccimigjjndpaa", sum := "91c7ffb10c2cd986ea1e24c65f3faaa8e4e06dfbc8b71a890d630ab2ce4d3384", func := "exactreal/exactreallaw29.DiffValid", spec := "diffValid", inPlace := ["internal/abi.NoEscape", "internal/bytealg.MakeNoZero"], unfollowed := true, recurses := true, apart := false, narrowed := true }
def DiffValidUptoSaid : Prop := diffValidUptoRow.holds Try.pinned (OpenSpec.upto diffValidSpec)

/-- 'exactreallaw29.DiffComposes', WHERE WHAT IT READS IS OF BULK AT MOST 1048576: true; the input reads as it did. -/
def diffComposesUptoRow : OpenClaim := { program := "ytoccimigjjndpaa", sum := "91c7ffb10c2cd986ea1e24c65f3faaa8e4e06dfbc8b71a890d630ab2ce4d3384", func := "exactreal/exactreallaw29.DiffComposes", spec := "diffComposes", inPlace := ["internal/abi.NoEscape", "internal/bytealg.MakeNoZero"], unfollowed := true, recurses := true, apart := false, narrowed := true }
def DiffComposesUptoSaid : Prop := diffComposesUptoRow.holds Try.pinned (OpenSpec.upto diffComposesSpec)

/-- 'exactreallaw29.DiffMerges', WHERE WHAT IT READS IS OF BULK AT MOST 1048576: true; the input reads as it did. -/
def diffMergesUptoRow : OpenClaim := { program := "ytoccimigjjndpaa", sum := "91c7ffb10c2cd986ea1e24c65f3faaa8e4e06dfbc8b71a890d630ab2ce4d3384", func := "exactreal/exactreallaw29.DiffMerges", spec := "diffMerges", inPlace := ["internal/abi.NoEscape", "internal/bytealg.MakeNoZero"], unfollowed := true, recurses := true, apart := false, narrowed := true }
def DiffMergesUptoSaid : Prop := diffMergesUptoRow.holds Try.pinned (OpenSpec.upto diffMergesSpec)

/-- 'exactreallaw29.DiffApplies', WHERE WHAT IT READS IS OF BULK AT MOST 1048576: true; the input reads as it did. -/
def diffAppliesUptoRow : OpenClaim := { program := "ytoccimigjjndpaa", sum := "91c7ffb10c2cd986ea1e24c65f3faaa8e4e06dfbc8b71a890d630ab2ce4d3384", func := "exactreal/exactreallaw29.DiffApplies", spec := "diffApplies", inPlace := ["internal/abi.NoEscape", "internal/bytealg.MakeNoZero"], unfollowed := true, recurses := true, apart := false, narrowed := true }
def DiffAppliesUptoSaid : Prop := diffAppliesUptoRow.holds Try.pinned (OpenSpec.upto diffAppliesSpec)

/-- 'exactreallaw29.DiffInverts', WHERE WHAT IT READS IS OF BULK AT MOST 1048576: true; the input reads as it did. -/
def diffInvertsUptoRow : OpenClaim := { program := "ytoccimigjjndpaa", sum := "91c7ffb10c2cd986ea1e24c65f3faaa8e4e06dfbc8b71a890d630ab2ce4d3384", func := "exactreal/exactreallaw29.DiffInverts", spec := "diffInverts", inPlace := ["internal/abi.NoEscape", "internal/bytealg.MakeNoZero"], unfollowed := true, recurses := true, apart := false, narrowed := true }
def DiffInvertsUptoSaid : Prop := diffInvertsUptoRow.holds Try.pinned (OpenSpec.upto diffInvertsSpec)

end Rows
end Go.Proofs.Ytoccimigjjndpaa
