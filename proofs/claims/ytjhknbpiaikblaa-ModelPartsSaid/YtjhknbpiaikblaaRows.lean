/-
  No cell of these rows narrows 'for every input' (looked for: loops, veiled, ifaces, maps, wideKeys, modest, calm, conditions, laid).
  DERIVED. THE GIVEN ROWS OF THIS SEAT. 14 by the template 'for every input the law returns true; each argument reads behind the call as it read before'; 0 by the template 'total and deterministic' (their statements: YtjhknbpiaikblaaTotals.lean).
  GIVEN WITH THE SEED: the statements are not yours to turn. If you find one false, say at which input.
  Laid BY PROGRAM, IN A SANDBOX (cutbox-rows.mjs): the forced cells as the released guide's own fill.sh prints them over the translation c94c258a8f58f951… (all of the seat's roots in one cut). By AI agents, Wed Nov 11 2026. No macro, syntax, notation, axiom, sorry.
-/
import Derived.Test.YtjhknbpiaikblaaChecked
import GoSem.Claim
import GoSem.ClaimJoined
import GoSem.ClaimMapViews
import Derived.JoinedTies
import Derived.KernelRfl
namespace Go.Proofs.Ytjhknbpiaikblaa
/- THE CELL 'sum', in the pinned program and in every row, IS THE sha256 OF THE DUMP (.gsa) THAT YtjhknbpiaikblaaProg.lean LOADS. Nothing in Lean hashes anything: it is a label: what it is worth is what the hold of that sum in a sandbox is worth. -/
noncomputable def Try.pinned : Pinned := { name := "ytjhknbpiaikblaa", sum := "c94c258a8f58f9514f1d74f1f7bcceaf08e139870f128e0f8e650f1d1553e998", checked := Try.checked }
namespace Rows
def none {H : Type} : Left H := { results := [], args := [] }

/-- 'lidarlaw09.ModelAmounts': WHATEVER THE INPUT: true; the input reads as it did. -/
def modelAmountsSpec : ChangeSpec := { name := "modelAmounts", fn := fun _ => fun
  | [d1, d2, d3] => { results := [.lit (.bool true)], args := [d1, d2, d3] }
  | _ => none }
def modelAmountsRow : OpenClaim := { program := "ytjhknbpiaikblaa", sum := "c94c258a8f58f9514f1d74f1f7bcceaf08e139870f128e0f8e650f1d1553e998", func := "lidar/lidarlaw09.ModelAmounts", spec := "modelAmounts", apart := false }
def ModelAmountsSaid : Prop := modelAmountsRow.holds Try.pinned (OpenSpec.ofChange modelAmountsSpec)

/-- ITS FALSE NEIGHBOUR: 'it returns false'. Refute it at one input. -/
def modelAmountsWrong : ChangeSpec := { name := "modelAmounts", fn := fun _ => fun
  | [d1, d2, d3] => { results := [.lit (.bool false)], args := [d1, d2, d3] }
  | _ => none }
def ModelAmountsWrongFalsely : Prop := modelAmountsRow.holds Try.pinned (OpenSpec.ofChange modelAmountsWrong)

/-- 'lidarlaw09.ModelNodes': WHATEVER THE INPUT: true; the input reads as it did. -/
def modelNodesSpec : ChangeSpec := { name := "modelNodes", fn := fun _ => fun
  | [d1, d2] => { results := [.lit (.bool true)], args := [d1, d2] }
  | _ => none }
def modelNodesRow : OpenClaim := { program := "ytjhknbpiaikblaa", sum := "c94c258a8f58f9514f1d74f1f7bcceaf08e139870f128e0f8e650f1d1553e998", func := "lidar/lidarlaw09.ModelNodes", spec := "modelNodes", apart := false }
def ModelNodesSaid : Prop := modelNodesRow.holds Try.pinned (OpenSpec.ofChange modelNodesSpec)

/-- ITS FALSE NEIGHBOUR: 'it returns false'. Refute it at one input. -/
def modelNodesWrong : ChangeSpec := { name := "modelNodes", fn := fun _ => fun
  | [d1, d2] => { results := [.lit (.bool false)], args := [d1, d2] }
  | _ => none }
def ModelNodesWrongFalsely : Prop := modelNodesRow.holds Try.pinned (OpenSpec.ofChange modelNodesWrong)

/-- 'lidarlaw09.ModelCuts': WHATEVER THE INPUT: true; the input reads as it did. -/
def modelCutsSpec : ChangeSpec := { name := "modelCuts", fn := fun _ => fun
  | [d1, d2] => { results := [.lit (.bool true)], args := [d1, d2] }
  | _ => none }
def modelCutsRow : OpenClaim := { program := "ytjhknbpiaikblaa", sum := "c94c258a8f58f9514f1d74f1f7bcceaf08e139870f128e0f8e650f1d1553e998", func := "lidar/lidarlaw09.ModelCuts", spec := "modelCuts", apart := false }
def ModelCutsSaid : Prop := modelCutsRow.holds Try.pinned (OpenSpec.ofChange modelCutsSpec)

/-- ITS FALSE NEIGHBOUR: 'it returns false'. Refute it at one input. -/
def modelCutsWrong : ChangeSpec := { name := "modelCuts", fn := fun _ => fun
  | [d1, d2] => { results := [.lit (.bool false)], args := [d1, d2] }
  | _ => none }
def ModelCutsWrongFalsely : Prop := modelCutsRow.holds Try.pinned (OpenSpec.ofChange modelCutsWrong)

/-- 'lidarlaw09.ModelCompares': WHATEVER THE INPUT: true; the input reads as it did. -/
def modelComparesSpec : ChangeSpec := { name := "modelCompares", fn := fun _ => fun
  | [d1, d2] => { results := [.lit (.bool true)], args := [d1, d2] }
  | _ => none }
def modelComparesRow : OpenClaim := { program := "ytjhknbpiaikblaa", sum := "c94c258a8f58f9514f1d74f1f7bcceaf08e139870f128e0f8e650f1d1553e998", func := "lidar/lidarlaw09.ModelCompares", spec := "modelCompares", unfollowed := true, recurses := true, apart := false }
def ModelComparesSaid : Prop := modelComparesRow.holds Try.pinned (OpenSpec.ofChange modelComparesSpec)

/-- ITS FALSE NEIGHBOUR: 'it returns false'. Refute it at one input. -/
def modelComparesWrong : ChangeSpec := { name := "modelCompares", fn := fun _ => fun
  | [d1, d2] => { results := [.lit (.bool false)], args := [d1, d2] }
  | _ => none }
def ModelComparesWrongFalsely : Prop := modelComparesRow.holds Try.pinned (OpenSpec.ofChange modelComparesWrong)

/-- 'lidarlaw09.ModelExchanges': WHATEVER THE INPUT: true; the input reads as it did. -/
def modelExchangesSpec : ChangeSpec := { name := "modelExchanges", fn := fun _ => fun
  | [d1, d2] => { results := [.lit (.bool true)], args := [d1, d2] }
  | _ => none }
def modelExchangesRow : OpenClaim := { program := "ytjhknbpiaikblaa", sum := "c94c258a8f58f9514f1d74f1f7bcceaf08e139870f128e0f8e650f1d1553e998", func := "lidar/lidarlaw09.ModelExchanges", spec := "modelExchanges", apart := false }
def ModelExchangesSaid : Prop := modelExchangesRow.holds Try.pinned (OpenSpec.ofChange modelExchangesSpec)

/-- ITS FALSE NEIGHBOUR: 'it returns false'. Refute it at one input. -/
def modelExchangesWrong : ChangeSpec := { name := "modelExchanges", fn := fun _ => fun
  | [d1, d2] => { results := [.lit (.bool false)], args := [d1, d2] }
  | _ => none }
def ModelExchangesWrongFalsely : Prop := modelExchangesRow.holds Try.pinned (OpenSpec.ofChange modelExchangesWrong)

/-- 'lidarlaw09.ModelEncodes': WHATEVER THE INPUT: true; the input reads as it did. -/
def modelEncodesSpec : ChangeSpec := { name := "modelEncodes", fn := fun _ => fun
  | [d] => { results := [.lit (.bool true)], args := [d] }
  | _ => none }
def modelEncodesRow : OpenClaim := { program := "ytjhknbpiaikblaa", sum := "c94c258a8f58f9514f1d74f1f7bcceaf08e139870f128e0f8e650f1d1553e998", func := "lidar/lidarlaw09.ModelEncodes", spec := "modelEncodes", apart := false }
def ModelEncodesSaid : Prop := modelEncodesRow.holds Try.pinned (OpenSpec.ofChange modelEncodesSpec)

/-- ITS FALSE NEIGHBOUR: 'it returns false'. Refute it at one input. -/
def modelEncodesWrong : ChangeSpec := { name := "modelEncodes", fn := fun _ => fun
  | [d] => { results := [.lit (.bool false)], args := [d] }
  | _ => none }
def ModelEncodesWrongFalsely : Prop := modelEncodesRow.holds Try.pinned (OpenSpec.ofChange modelEncodesWrong)

/-- 'lidarlaw09.ModelCoarsens': WHATEVER THE INPUT: true; the input reads as it did. -/
def modelCoarsensSpec : ChangeSpec := { name := "modelCoarsens", fn := fun _ => fun
  | [d1, d2] => { results := [.lit (.bool true)], args := [d1, d2] }
  | _ => none }
def modelCoarsensRow : OpenClaim := { program := "ytjhknbpiaikblaa", sum := "c94c258a8f58f9514f1d74f1f7bcceaf08e139870f128e0f8e650f1d1553e998", func := "lidar/lidarlaw09.ModelCoarsens", spec := "modelCoarsens", apart := false }
def ModelCoarsensSaid : Prop := modelCoarsensRow.holds Try.pinned (OpenSpec.ofChange modelCoarsensSpec)

/-- ITS FALSE NEIGHBOUR: 'it returns false'. Refute it at one input. -/
def modelCoarsensWrong : ChangeSpec := { name := "modelCoarsens", fn := fun _ => fun
  | [d1, d2] => { results := [.lit (.bool false)], args := [d1, d2] }
  | _ => none }
def ModelCoarsensWrongFalsely : Prop := modelCoarsensRow.holds Try.pinned (OpenSpec.ofChange modelCoarsensWrong)

/-- 'lidarlaw09.ModelLevels': WHATEVER THE INPUT: true; the input reads as it did. -/
def modelLevelsSpec : ChangeSpec := { name := "modelLevels", fn := fun _ => fun
  | [d1, d2, d3] => { results := [.lit (.bool true)], args := [d1, d2, d3] }
  | _ => none }
def modelLevelsRow : OpenClaim := { program := "ytjhknbpiaikblaa", sum := "c94c258a8f58f9514f1d74f1f7bcceaf08e139870f128e0f8e650f1d1553e998", func := "lidar/lidarlaw09.ModelLevels", spec := "modelLevels", apart := false }
def ModelLevelsSaid : Prop := modelLevelsRow.holds Try.pinned (OpenSpec.ofChange modelLevelsSpec)

/-- ITS FALSE NEIGHBOUR: 'it returns false'. Refute it at one input. -/
def modelLevelsWrong : ChangeSpec := { name := "modelLevels", fn := fun _ => fun
  | [d1, d2, d3] => { results := [.lit (.bool false)], args := [d1, d2, d3] }
  | _ => none }
def ModelLevelsWrongFalsely : Prop := modelLevelsRow.holds Try.pinned (OpenSpec.ofChange modelLevelsWrong)

/-- 'lidarlaw09.ModelDecodes': WHATEVER THE INPUT: true; the input reads as it did. -/
def modelDecodesSpec : ChangeSpec := { name := "modelDecodes", fn := fun _ => fun
  | [d] => { results := [.lit (.bool true)], args := [d] }
  | _ => none }
def modelDecodesRow : OpenClaim := { program := "ytjhknbpiaikblaa", sum := "c94c258a8f58f9514f1d74f1f7bcceaf08e139870f128e0f8e650f1d1553e998", func := "lidar/lidarlaw09.ModelDecodes", spec := "modelDecodes", apart := false }
def ModelDecodesSaid : Prop := modelDecodesRow.holds Try.pinned (OpenSpec.ofChange modelDecodesSpec)

/-- ITS FALSE NEIGHBOUR: 'it returns false'. Refute it at one input. -/
def modelDecodesWrong : ChangeSpec := { name := "modelDecodes", fn := fun _ => fun
  | [d] => { results := [.lit (.bool false)], args := [d] }
  | _ => none }
def ModelDecodesWrongFalsely : Prop := modelDecodesRow.holds Try.pinned (OpenSpec.ofChange modelDecodesWrong)

/-- 'lidarlaw09.ModelReturns': WHATEVER THE INPUT: true; the input reads as it did. -/
def modelReturnsSpec : ChangeSpec := { name := "modelReturns", fn := fun _ => fun
  | [d] => { results := [.lit (.bool true)], args := [d] }
  | _ => none }
def modelReturnsRow : OpenClaim := { program := "ytjhknbpiaikblaa", sum := "c94c258a8f58f9514f1d74f1f7bcceaf08e139870f128e0f8e650f1d1553e998", func := "lidar/lidarlaw09.ModelReturns", spec := "modelReturns", apart := false }
def ModelReturnsSaid : Prop := modelReturnsRow.holds Try.pinned (OpenSpec.ofChange modelReturnsSpec)

/-- ITS FALSE NEIGHBOUR: 'it returns false'. Refute it at one input. -/
def modelReturnsWrong : ChangeSpec := { name := "modelReturns", fn := fun _ => fun
  | [d] => { results := [.lit (.bool false)], args := [d] }
  | _ => none }
def ModelReturnsWrongFalsely : Prop := modelReturnsRow.holds Try.pinned (OpenSpec.ofChange modelReturnsWrong)

/-- 'lidarlaw09.ModelVoids': WHATEVER THE INPUT: true; the input reads as it did. -/
def modelVoidsSpec : ChangeSpec := { name := "modelVoids", fn := fun _ => fun
  | [d] => { results := [.lit (.bool true)], args := [d] }
  | _ => none }
def modelVoidsRow : OpenClaim := { program := "ytjhknbpiaikblaa", sum := "c94c258a8f58f9514f1d74f1f7bcceaf08e139870f128e0f8e650f1d1553e998", func := "lidar/lidarlaw09.ModelVoids", spec := "modelVoids", recurses := true, apart := false }
def ModelVoidsSaid : Prop := modelVoidsRow.holds Try.pinned (OpenSpec.ofChange modelVoidsSpec)

/-- ITS FALSE NEIGHBOUR: 'it returns false'. Refute it at one input. -/
def modelVoidsWrong : ChangeSpec := { name := "modelVoids", fn := fun _ => fun
  | [d] => { results := [.lit (.bool false)], args := [d] }
  | _ => none }
def ModelVoidsWrongFalsely : Prop := modelVoidsRow.holds Try.pinned (OpenSpec.ofChange modelVoidsWrong)

/-- 'lidarlaw09.ModelRegions': WHATEVER THE INPUT: true; the input reads as it did. -/
def modelRegionsSpec : ChangeSpec := { name := "modelRegions", fn := fun _ => fun
  | [d1, d2, d3] => { results := [.lit (.bool true)], args := [d1, d2, d3] }
  | _ => none }
def modelRegionsRow : OpenClaim := { program := "ytjhknbpiaikblaa", sum := "c94c258a8f58f9514f1d74f1f7bcceaf08e139870f128e0f8e650f1d1553e998", func := "lidar/lidarlaw09.ModelRegions", spec := "modelRegions", recurses := true, apart := false }
def ModelRegionsSaid : Prop := modelRegionsRow.holds Try.pinned (OpenSpec.ofChange modelRegionsSpec)

/-- ITS FALSE NEIGHBOUR: 'it returns false'. Refute it at one input. -/
def modelRegionsWrong : ChangeSpec := { name := "modelRegions", fn := fun _ => fun
  | [d1, d2, d3] => { results := [.lit (.bool false)], args := [d1, d2, d3] }
  | _ => none }
def ModelRegionsWrongFalsely : Prop := modelRegionsRow.holds Try.pinned (OpenSpec.ofChange modelRegionsWrong)

/-- 'lidarlaw09.ModelParts': WHATEVER THE INPUT: true; the input reads as it did. -/
def modelPartsSpec : ChangeSpec := { name := "modelParts", fn := fun _ => fun
  | [d1, d2, d3] => { results := [.lit (.bool true)], args := [d1, d2, d3] }
  | _ => none }
def modelPartsRow : OpenClaim := { program := "ytjhknbpiaikblaa", sum := "c94c258a8f58f9514f1d74f1f7bcceaf08e139870f128e0f8e650f1d1553e998", func := "lidar/lidarlaw09.ModelParts", spec := "modelParts", recurses := true, apart := false }
def ModelPartsSaid : Prop := modelPartsRow.holds Try.pinned (OpenSpec.ofChange modelPartsSpec)

/-- ITS FALSE NEIGHBOUR: 'it returns false'. Refute it at one input. -/
def modelPartsWrong : ChangeSpec := { name := "modelParts", fn := fun _ => fun
  | [d1, d2, d3] => { results := [.lit (.bool false)], args := [d1, d2, d3] }
  | _ => none }
def ModelPartsWrongFalsely : Prop := modelPartsRow.holds Try.pinned (OpenSpec.ofChange modelPartsWrong)

/-- 'lidarlaw09.ModelHoles': WHATEVER THE INPUT: true; the input reads as it did. -/
def modelHolesSpec : ChangeSpec := { name := "modelHoles", fn := fun _ => fun
  | [d] => { results := [.lit (.bool true)], args := [d] }
  | _ => none }
def modelHolesRow : OpenClaim := { program := "ytjhknbpiaikblaa", sum := "c94c258a8f58f9514f1d74f1f7bcceaf08e139870f128e0f8e650f1d1553e998", func := "lidar/lidarlaw09.ModelHoles", spec := "modelHoles", recurses := true, apart := false }
def ModelHolesSaid : Prop := modelHolesRow.holds Try.pinned (OpenSpec.ofChange modelHolesSpec)

/-- ITS FALSE NEIGHBOUR: 'it returns false'. Refute it at one input. -/
def modelHolesWrong : ChangeSpec := { name := "modelHoles", fn := fun _ => fun
  | [d] => { results := [.lit (.bool false)], args := [d] }
  | _ => none }
def ModelHolesWrongFalsely : Prop := modelHolesRow.holds Try.pinned (OpenSpec.ofChange modelHolesWrong)

/- THE SECOND FORM. 'bulk': how many values and letters a reading holds, each counted each time it is reached (what is shared counts as often as it is met; a slice's spare places count too). A statement '..UptoSaid' is the law's where the arguments, and the package variables that the reading takes, are together of bulk at most 1048576: NARROWER than '..Said'. Prove '..Said' where nothing that the law and all that it calls make is longer than what came in: it says more and counts as full. Else prove '..UptoSaid'. A law counts once. -/
mutual
def uptoBulk {H : Type} : DataW H → Nat
  | .lit (.string bytes) => bytes.length + 1
  | .lit _ => 1
  | .nil => 1
  | .ptr d => uptoBulk d + 1
  | .slice elems spare => uptoBulkAll elems + uptoBulkAll spare + 1
  | .agg parts => uptoBulkAll parts + 1
  | .iface _ d => uptoBulk d + 1
  | .map entries => uptoBulkEntries entries + 1
  | .held _ => 1
def uptoBulkAll {H : Type} : List (DataW H) → Nat
  | [] => 0
  | d :: r => uptoBulk d + uptoBulkAll r
def uptoBulkEntries {H : Type} : List (Lit × DataW H) → Nat
  | [] => 0
  | x :: r => uptoBulkEntry x + uptoBulkEntries r
def uptoBulkEntry {H : Type} : Lit × DataW H → Nat
  | (.string bytes, d) => bytes.length + uptoBulk d + 1
  | (_, d) => uptoBulk d + 1
 end
def uptoSmall : (H : Type) → List (DataW H) → Bool := fun _ ds => decide (uptoBulkAll ds ≤ 1048576)
def OpenSpec.upto (s : _root_.Go.ChangeSpec) : _root_.Go.OpenSpec := { _root_.Go.OpenSpec.ofChange s with cond := some uptoSmall }

/-- 'lidarlaw09.ModelAmounts', WHERE WHAT IT READS IS OF BULK AT MOST 1048576: true; the input reads as it did. -/
def modelAmountsUptoRow : OpenClaim := { program := "ytjhknbpiaikblaa", sum := "c94c258a8f58f9514f1d74f1f7bcceaf08e139870f128e0f8e650f1d1553e998", func := "lidar/lidarlaw09.ModelAmounts", spec := "modelAmounts", apart := false, narrowed := true }
def ModelAmountsUptoSaid : Prop := modelAmountsUptoRow.holds Try.pinned (OpenSpec.upto modelAmountsSpec)

/-- 'lidarlaw09.ModelNodes', WHERE WHAT IT READS IS OF BULK AT MOST 1048576: true; the input reads as it did. -/
def modelNodesUptoRow : OpenClaim := { program := "ytjhknbpiaikblaa", sum := "c94c258a8f58f9514f1d74f1f7bcceaf08e139870f128e0f8e650f1d1553e998", func := "lidar/lidarlaw09.ModelNodes", spec := "modelNodes", apart := false, narrowed := true }
def ModelNodesUptoSaid : Prop := modelNodesUptoRow.holds Try.pinned (OpenSpec.upto modelNodesSpec)

/-- 'lidarlaw09.ModelCuts', WHERE WHAT IT READS IS OF BULK AT MOST 1048576: true; the input reads as it did. -/
def modelCutsUptoRow : OpenClaim := { program := "ytjhknbpiaikblaa", sum := "c94c258a8f58f9514f1d74f1f7bcceaf08e139870f128e0f8e650f1d1553e998", func := "lidar/lidarlaw09.ModelCuts", spec := "modelCuts", apart := false, narrowed := true }
def ModelCutsUptoSaid : Prop := modelCutsUptoRow.holds Try.pinned (OpenSpec.upto modelCutsSpec)

/-- 'lidarlaw09.ModelCompares', WHERE WHAT IT READS IS OF BULK AT MOST 1048576: true; the input reads as it did. -/
def modelComparesUptoRow : OpenClaim := { program := "ytjhknbpiaikblaa", sum := "c94c258a8f58f9514f1d74f1f7bcceaf08e139870f128e0f8e650f1d1553e998", func := "lidar/lidarlaw09.ModelCompares", spec := "modelCompares", unfollowed := true, recurses := true, apart := false, narrowed := true }
def ModelComparesUptoSaid : Prop := modelComparesUptoRow.holds Try.pinned (OpenSpec.upto modelComparesSpec)

/-- 'lidarlaw09.ModelExchanges', WHERE WHAT IT READS IS OF BULK AT MOST 1048576: true; the input reads as it did. -/
def modelExchangesUptoRow : OpenClaim := { program := "ytjhknbpiaikblaa", sum := "c94c258a8f58f9514f1d74f1f7bcceaf08e139870f128e0f8e650f1d1553e998", func := "lidar/lidarlaw09.ModelExchanges", spec := "modelExchanges", apart := false, narrowed := true }
def ModelExchangesUptoSaid : Prop := modelExchangesUptoRow.holds Try.pinned (OpenSpec.upto modelExchangesSpec)

/-- 'lidarlaw09.ModelEncodes', WHERE WHAT IT READS IS OF BULK AT MOST 1048576: true; the input reads as it did. -/
def modelEncodesUptoRow : OpenClaim := { program := "ytjhknbpiaikblaa", sum := "c94c258a8f58f9514f1d74f1f7bcceaf08e139870f128e0f8e650f1d1553e998", func := "lidar/lidarlaw09.ModelEncodes", spec := "modelEncodes", apart := false, narrowed := true }
def ModelEncodesUptoSaid : Prop := modelEncodesUptoRow.holds Try.pinned (OpenSpec.upto modelEncodesSpec)

/-- 'lidarlaw09.ModelCoarsens', WHERE WHAT IT READS IS OF BULK AT MOST 1048576: true; the input reads as it did. -/
def modelCoarsensUptoRow : OpenClaim := { program := "ytjhknbpiaikblaa", sum := "c94c258a8f58f9514f1d74f1f7bcceaf08e139870f128e0f8e650f1d1553e998", func := "lidar/lidarlaw09.ModelCoarsens", spec := "modelCoarsens", apart := false, narrowed := true }
def ModelCoarsensUptoSaid : Prop := modelCoarsensUptoRow.holds Try.pinned (OpenSpec.upto modelCoarsensSpec)

/-- 'lidarlaw09.ModelLevels', WHERE WHAT IT READS IS OF BULK AT MOST 1048576: true; the input reads as it did. -/
def modelLevelsUptoRow : OpenClaim := { program := "ytjhknbpiaikblaa", sum := "c94c258a8f58f9514f1d74f1f7bcceaf08e139870f128e0f8e650f1d1553e998", func := "lidar/lidarlaw09.ModelLevels", spec := "modelLevels", apart := false, narrowed := true }
def ModelLevelsUptoSaid : Prop := modelLevelsUptoRow.holds Try.pinned (OpenSpec.upto modelLevelsSpec)

/-- 'lidarlaw09.ModelDecodes', WHERE WHAT IT READS IS OF BULK AT MOST 1048576: true; the input reads as it did. -/
def modelDecodesUptoRow : OpenClaim := { program := "ytjhknbpiaikblaa", sum := "c94c258a8f58f9514f1d74f1f7bcceaf08e139870f128e0f8e650f1d1553e998", func := "lidar/lidarlaw09.ModelDecodes", spec := "modelDecodes", apart := false, narrowed := true }
def ModelDecodesUptoSaid : Prop := modelDecodesUptoRow.holds Try.pinned (OpenSpec.upto modelDecodesSpec)

/-- 'lidarlaw09.ModelReturns', WHERE WHAT IT READS IS OF BULK AT MOST 1048576: true; the input reads as it did. -/
def modelReturnsUptoRow : OpenClaim := { program := "ytjhknbpiaikblaa", sum := "c94c258a8f58f9514f1d74f1f7bcceaf08e139870f128e0f8e650f1d1553e998", func := "lidar/lidarlaw09.ModelReturns", spec := "modelReturns", apart := false, narrowed := true }
def ModelReturnsUptoSaid : Prop := modelReturnsUptoRow.holds Try.pinned (OpenSpec.upto modelReturnsSpec)

/-- 'lidarlaw09.ModelVoids', WHERE WHAT IT READS IS OF BULK AT MOST 1048576: true; the input reads as it did. -/
def modelVoidsUptoRow : OpenClaim := { program := "ytjhknbpiaikblaa", sum := "c94c258a8f58f9514f1d74f1f7bcceaf08e139870f128e0f8e650f1d1553e998", func := "lidar/lidarlaw09.ModelVoids", spec := "modelVoids", recurses := true, apart := false, narrowed := true }
def ModelVoidsUptoSaid : Prop := modelVoidsUptoRow.holds Try.pinned (OpenSpec.upto modelVoidsSpec)

/-- 'lidarlaw09.ModelRegions', WHERE WHAT IT READS IS OF BULK AT MOST 1048576: true; the input reads as it did. -/
def modelRegionsUptoRow : OpenClaim := { program := "ytjhknbpiaikblaa", sum := "c94c258a8f58f9514f1d74f1f7bcceaf08e139870f128e0f8e650f1d1553e998", func := "lidar/lidarlaw09.ModelRegions", spec := "modelRegions", recurses := true, apart := false, narrowed := true }
def ModelRegionsUptoSaid : Prop := modelRegionsUptoRow.holds Try.pinned (OpenSpec.upto modelRegionsSpec)

/-- 'lidarlaw09.ModelParts', WHERE WHAT IT READS IS OF BULK AT MOST 1048576: true; the input reads as it did. -/
def modelPartsUptoRow : OpenClaim := { program := "ytjhknbpiaikblaa", sum := "c94c258a8f58f9514f1d74f1f7bcceaf08e139870f128e0f8e650f1d1553e998", func := "lidar/lidarlaw09.ModelParts", spec := "modelParts", recurses := true, apart := false, narrowed := true }
def ModelPartsUptoSaid : Prop := modelPartsUptoRow.holds Try.pinned (OpenSpec.upto modelPartsSpec)

/-- 'lidarlaw09.ModelHoles', WHERE WHAT IT READS IS OF BULK AT MOST 1048576: true; the input reads as it did. -/
def modelHolesUptoRow : OpenClaim := { program := "ytjhknbpiaikblaa", sum := "c94c258a8f58f9514f1d74f1f7bcceaf08e139870f128e0f8e650f1d1553e998", func := "lidar/lidarlaw09.ModelHoles", spec := "modelHoles", recurses := true, apart := false, narrowed := true }
def ModelHolesUptoSaid : Prop := modelHolesUptoRow.holds Try.pinned (OpenSpec.upto modelHolesSpec)

end Rows
end Go.Proofs.Ytjhknbpiaikblaa
