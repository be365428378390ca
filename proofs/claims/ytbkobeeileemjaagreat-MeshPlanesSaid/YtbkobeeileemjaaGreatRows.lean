/-
  No cell of these rows narrows 'for every input' (looked for: loops, veiled, ifaces, maps, wideKeys, modest, calm, conditions, laid).
  DERIVED. THE GIVEN ROWS OF THIS SEAT. 12 by the template 'for every input the law returns true; each argument reads behind the call as it read before'; 0 by the template 'total and deterministic' (their statements: YtbkobeeileemjaaGreatTotals.lean).
  GIVEN WITH THE SEED: the statements are not yours to turn. If you find one false, say at which input.
  Laid BY PROGRAM, IN A SANDBOX (cutbox-rows.mjs): the forced cells as the released guide's own fill.sh prints them over the translation 72bdf95cea6fb071… (all of the seat's roots in one cut). By AI agents, Wed Nov 11 2026. No macro, syntax, notation, axiom, sorry.
-/
import Derived.Test.YtbkobeeileemjaaGreatChecked
import GoSem.Claim
import GoSem.ClaimJoined
import GoSem.ClaimMapViews
import Derived.JoinedTies
import Derived.KernelRfl
namespace Go.Proofs.YtbkobeeileemjaaGreat
/- THE CELL 'sum', in the pinned program and in every row, IS THE sha256 OF THE DUMP (.gsa) THAT YtbkobeeileemjaaGreatProg.lean LOADS. Nothing in Lean hashes anything: it is a label: what it is worth is what the hold of that sum in a sandbox is worth. -/
noncomputable def Tryz.pinned : Pinned := { name := "ytbkobeeileemjaagreat", sum := "72bdf95cea6fb0716c5bd736a1bf9228d104d3c545f193656ad0f62311b089d4", checked := Tryz.checked }
namespace Rows
def none {H : Type} : Left H := { results := [], args := [] }

/-- 'lidarlaw06.MeshPlanes': WHATEVER THE INPUT: true; the input reads as it did. -/
def meshPlanesSpec : ChangeSpec := { name := "meshPlanes", fn := fun _ => fun
  | [d1, d2, d3] => { results := [.lit (.bool true)], args := [d1, d2, d3] }
  | _ => none }
def meshPlanesRow : OpenClaim := { program := "ytbkobeeileemjaagreat", sum := "72bdf95cea6fb0716c5bd736a1bf9228d104d3c545f193656ad0f62311b089d4", func := "lidar/lidarlaw06.MeshPlanes", spec := "meshPlanes", unfollowed := true, recurses := true, plainKeys := false, apart := false }
def MeshPlanesSaid : Prop := meshPlanesRow.holds Tryz.pinned (OpenSpec.ofChange meshPlanesSpec)

/-- ITS FALSE NEIGHBOUR: 'it returns false'. Refute it at one input. -/
def meshPlanesWrong : ChangeSpec := { name := "meshPlanes", fn := fun _ => fun
  | [d1, d2, d3] => { results := [.lit (.bool false)], args := [d1, d2, d3] }
  | _ => none }
def MeshPlanesWrongFalsely : Prop := meshPlanesRow.holds Tryz.pinned (OpenSpec.ofChange meshPlanesWrong)

/-- 'lidarlaw07.LabelSurfaces': WHATEVER THE INPUT: true; the input reads as it did. -/
def labelSurfacesSpec : ChangeSpec := { name := "labelSurfaces", fn := fun _ => fun
  | [d1, d2] => { results := [.lit (.bool true)], args := [d1, d2] }
  | _ => none }
def labelSurfacesRow : OpenClaim := { program := "ytbkobeeileemjaagreat", sum := "72bdf95cea6fb0716c5bd736a1bf9228d104d3c545f193656ad0f62311b089d4", func := "lidar/lidarlaw07.LabelSurfaces", spec := "labelSurfaces", unfollowed := true, recurses := true, plainKeys := false, apart := false }
def LabelSurfacesSaid : Prop := labelSurfacesRow.holds Tryz.pinned (OpenSpec.ofChange labelSurfacesSpec)

/-- ITS FALSE NEIGHBOUR: 'it returns false'. Refute it at one input. -/
def labelSurfacesWrong : ChangeSpec := { name := "labelSurfaces", fn := fun _ => fun
  | [d1, d2] => { results := [.lit (.bool false)], args := [d1, d2] }
  | _ => none }
def LabelSurfacesWrongFalsely : Prop := labelSurfacesRow.holds Tryz.pinned (OpenSpec.ofChange labelSurfacesWrong)

/-- 'lidarlaw07.LabelGrows': WHATEVER THE INPUT: true; the input reads as it did. -/
def labelGrowsSpec : ChangeSpec := { name := "labelGrows", fn := fun _ => fun
  | [d1, d2, d3] => { results := [.lit (.bool true)], args := [d1, d2, d3] }
  | _ => none }
def labelGrowsRow : OpenClaim := { program := "ytbkobeeileemjaagreat", sum := "72bdf95cea6fb0716c5bd736a1bf9228d104d3c545f193656ad0f62311b089d4", func := "lidar/lidarlaw07.LabelGrows", spec := "labelGrows", inPlace := ["math/bits.Add64"], unfollowed := true, recurses := true, named := ["math/bits.divideError", "math/bits.overflowError"], plainKeys := false, apart := false }
def LabelGrowsSaid : Prop := labelGrowsRow.holds Tryz.pinned (OpenSpec.ofChange labelGrowsSpec)

/-- ITS FALSE NEIGHBOUR: 'it returns false'. Refute it at one input. -/
def labelGrowsWrong : ChangeSpec := { name := "labelGrows", fn := fun _ => fun
  | [d1, d2, d3] => { results := [.lit (.bool false)], args := [d1, d2, d3] }
  | _ => none }
def LabelGrowsWrongFalsely : Prop := labelGrowsRow.holds Tryz.pinned (OpenSpec.ofChange labelGrowsWrong)

/-- 'lidarlaw07.LabelGrounds': WHATEVER THE INPUT: true; the input reads as it did. -/
def labelGroundsSpec : ChangeSpec := { name := "labelGrounds", fn := fun _ => fun
  | [d1, d2] => { results := [.lit (.bool true)], args := [d1, d2] }
  | _ => none }
def labelGroundsRow : OpenClaim := { program := "ytbkobeeileemjaagreat", sum := "72bdf95cea6fb0716c5bd736a1bf9228d104d3c545f193656ad0f62311b089d4", func := "lidar/lidarlaw07.LabelGrounds", spec := "labelGrounds", inPlace := ["math/bits.Add64"], unfollowed := true, recurses := true, named := ["math/bits.divideError", "math/bits.overflowError"], plainKeys := false, apart := false }
def LabelGroundsSaid : Prop := labelGroundsRow.holds Tryz.pinned (OpenSpec.ofChange labelGroundsSpec)

/-- ITS FALSE NEIGHBOUR: 'it returns false'. Refute it at one input. -/
def labelGroundsWrong : ChangeSpec := { name := "labelGrounds", fn := fun _ => fun
  | [d1, d2] => { results := [.lit (.bool false)], args := [d1, d2] }
  | _ => none }
def LabelGroundsWrongFalsely : Prop := labelGroundsRow.holds Tryz.pinned (OpenSpec.ofChange labelGroundsWrong)

/-- 'lidarlaw07.LabelRoofs': WHATEVER THE INPUT: true; the input reads as it did. -/
def labelRoofsSpec : ChangeSpec := { name := "labelRoofs", fn := fun _ => fun
  | [d1, d2, d3] => { results := [.lit (.bool true)], args := [d1, d2, d3] }
  | _ => none }
def labelRoofsRow : OpenClaim := { program := "ytbkobeeileemjaagreat", sum := "72bdf95cea6fb0716c5bd736a1bf9228d104d3c545f193656ad0f62311b089d4", func := "lidar/lidarlaw07.LabelRoofs", spec := "labelRoofs", inPlace := ["math/bits.Add64"], unfollowed := true, recurses := true, named := ["math/bits.divideError", "math/bits.overflowError"], plainKeys := false, apart := false }
def LabelRoofsSaid : Prop := labelRoofsRow.holds Tryz.pinned (OpenSpec.ofChange labelRoofsSpec)

/-- ITS FALSE NEIGHBOUR: 'it returns false'. Refute it at one input. -/
def labelRoofsWrong : ChangeSpec := { name := "labelRoofs", fn := fun _ => fun
  | [d1, d2, d3] => { results := [.lit (.bool false)], args := [d1, d2, d3] }
  | _ => none }
def LabelRoofsWrongFalsely : Prop := labelRoofsRow.holds Tryz.pinned (OpenSpec.ofChange labelRoofsWrong)

/-- 'lidarlaw07.LabelFixed': WHATEVER THE INPUT: true; the input reads as it did. -/
def labelFixedSpec : ChangeSpec := { name := "labelFixed", fn := fun _ => fun
  | [d1, d2] => { results := [.lit (.bool true)], args := [d1, d2] }
  | _ => none }
def labelFixedRow : OpenClaim := { program := "ytbkobeeileemjaagreat", sum := "72bdf95cea6fb0716c5bd736a1bf9228d104d3c545f193656ad0f62311b089d4", func := "lidar/lidarlaw07.LabelFixed", spec := "labelFixed", inPlace := ["math/bits.Add64"], unfollowed := true, recurses := true, named := ["math/bits.divideError", "math/bits.overflowError"], plainKeys := false, apart := false }
def LabelFixedSaid : Prop := labelFixedRow.holds Tryz.pinned (OpenSpec.ofChange labelFixedSpec)

/-- ITS FALSE NEIGHBOUR: 'it returns false'. Refute it at one input. -/
def labelFixedWrong : ChangeSpec := { name := "labelFixed", fn := fun _ => fun
  | [d1, d2] => { results := [.lit (.bool false)], args := [d1, d2] }
  | _ => none }
def LabelFixedWrongFalsely : Prop := labelFixedRow.holds Tryz.pinned (OpenSpec.ofChange labelFixedWrong)

/-- 'lidarlaw07.LabelRefuses': WHATEVER THE INPUT: true; the input reads as it did. -/
def labelRefusesSpec : ChangeSpec := { name := "labelRefuses", fn := fun _ => fun
  | [d1, d2] => { results := [.lit (.bool true)], args := [d1, d2] }
  | _ => none }
def labelRefusesRow : OpenClaim := { program := "ytbkobeeileemjaagreat", sum := "72bdf95cea6fb0716c5bd736a1bf9228d104d3c545f193656ad0f62311b089d4", func := "lidar/lidarlaw07.LabelRefuses", spec := "labelRefuses", inPlace := ["math/bits.Add64"], unfollowed := true, recurses := true, named := ["math/bits.divideError", "math/bits.overflowError"], plainKeys := false, apart := false }
def LabelRefusesSaid : Prop := labelRefusesRow.holds Tryz.pinned (OpenSpec.ofChange labelRefusesSpec)

/-- ITS FALSE NEIGHBOUR: 'it returns false'. Refute it at one input. -/
def labelRefusesWrong : ChangeSpec := { name := "labelRefuses", fn := fun _ => fun
  | [d1, d2] => { results := [.lit (.bool false)], args := [d1, d2] }
  | _ => none }
def LabelRefusesWrongFalsely : Prop := labelRefusesRow.holds Tryz.pinned (OpenSpec.ofChange labelRefusesWrong)

/-- 'lidarlaw07.LabelClassifies': WHATEVER THE INPUT: true; the input reads as it did. -/
def labelClassifiesSpec : ChangeSpec := { name := "labelClassifies", fn := fun _ => fun
  | [d1, d2] => { results := [.lit (.bool true)], args := [d1, d2] }
  | _ => none }
def labelClassifiesRow : OpenClaim := { program := "ytbkobeeileemjaagreat", sum := "72bdf95cea6fb0716c5bd736a1bf9228d104d3c545f193656ad0f62311b089d4", func := "lidar/lidarlaw07.LabelClassifies", spec := "labelClassifies", inPlace := ["math/bits.Add64"], unfollowed := true, recurses := true, named := ["math/bits.divideError", "math/bits.overflowError"], plainKeys := false, apart := false }
def LabelClassifiesSaid : Prop := labelClassifiesRow.holds Tryz.pinned (OpenSpec.ofChange labelClassifiesSpec)

/-- ITS FALSE NEIGHBOUR: 'it returns false'. Refute it at one input. -/
def labelClassifiesWrong : ChangeSpec := { name := "labelClassifies", fn := fun _ => fun
  | [d1, d2] => { results := [.lit (.bool false)], args := [d1, d2] }
  | _ => none }
def LabelClassifiesWrongFalsely : Prop := labelClassifiesRow.holds Tryz.pinned (OpenSpec.ofChange labelClassifiesWrong)

/-- 'lidarlaw07.LabelLifts': WHATEVER THE INPUT: true; the input reads as it did. -/
def labelLiftsSpec : ChangeSpec := { name := "labelLifts", fn := fun _ => fun
  | [d1, d2, d3] => { results := [.lit (.bool true)], args := [d1, d2, d3] }
  | _ => none }
def labelLiftsRow : OpenClaim := { program := "ytbkobeeileemjaagreat", sum := "72bdf95cea6fb0716c5bd736a1bf9228d104d3c545f193656ad0f62311b089d4", func := "lidar/lidarlaw07.LabelLifts", spec := "labelLifts", inPlace := ["math/bits.Add64"], unfollowed := true, recurses := true, named := ["math/bits.divideError", "math/bits.overflowError"], plainKeys := false, apart := false }
def LabelLiftsSaid : Prop := labelLiftsRow.holds Tryz.pinned (OpenSpec.ofChange labelLiftsSpec)

/-- ITS FALSE NEIGHBOUR: 'it returns false'. Refute it at one input. -/
def labelLiftsWrong : ChangeSpec := { name := "labelLifts", fn := fun _ => fun
  | [d1, d2, d3] => { results := [.lit (.bool false)], args := [d1, d2, d3] }
  | _ => none }
def LabelLiftsWrongFalsely : Prop := labelLiftsRow.holds Tryz.pinned (OpenSpec.ofChange labelLiftsWrong)

/-- 'lidarlaw07.LabelLabels': WHATEVER THE INPUT: true; the input reads as it did. -/
def labelLabelsSpec : ChangeSpec := { name := "labelLabels", fn := fun _ => fun
  | [d1, d2, d3] => { results := [.lit (.bool true)], args := [d1, d2, d3] }
  | _ => none }
def labelLabelsRow : OpenClaim := { program := "ytbkobeeileemjaagreat", sum := "72bdf95cea6fb0716c5bd736a1bf9228d104d3c545f193656ad0f62311b089d4", func := "lidar/lidarlaw07.LabelLabels", spec := "labelLabels", inPlace := ["math/bits.Add64"], unfollowed := true, recurses := true, named := ["math/bits.divideError", "math/bits.overflowError"], plainKeys := false, apart := false }
def LabelLabelsSaid : Prop := labelLabelsRow.holds Tryz.pinned (OpenSpec.ofChange labelLabelsSpec)

/-- ITS FALSE NEIGHBOUR: 'it returns false'. Refute it at one input. -/
def labelLabelsWrong : ChangeSpec := { name := "labelLabels", fn := fun _ => fun
  | [d1, d2, d3] => { results := [.lit (.bool false)], args := [d1, d2, d3] }
  | _ => none }
def LabelLabelsWrongFalsely : Prop := labelLabelsRow.holds Tryz.pinned (OpenSpec.ofChange labelLabelsWrong)

/-- 'lidarlaw07.LabelStays': WHATEVER THE INPUT: true; the input reads as it did. -/
def labelStaysSpec : ChangeSpec := { name := "labelStays", fn := fun _ => fun
  | [d] => { results := [.lit (.bool true)], args := [d] }
  | _ => none }
def labelStaysRow : OpenClaim := { program := "ytbkobeeileemjaagreat", sum := "72bdf95cea6fb0716c5bd736a1bf9228d104d3c545f193656ad0f62311b089d4", func := "lidar/lidarlaw07.LabelStays", spec := "labelStays", inPlace := ["math/bits.Add64"], unfollowed := true, recurses := true, named := ["math/bits.divideError", "math/bits.overflowError"], plainKeys := false, apart := false }
def LabelStaysSaid : Prop := labelStaysRow.holds Tryz.pinned (OpenSpec.ofChange labelStaysSpec)

/-- ITS FALSE NEIGHBOUR: 'it returns false'. Refute it at one input. -/
def labelStaysWrong : ChangeSpec := { name := "labelStays", fn := fun _ => fun
  | [d] => { results := [.lit (.bool false)], args := [d] }
  | _ => none }
def LabelStaysWrongFalsely : Prop := labelStaysRow.holds Tryz.pinned (OpenSpec.ofChange labelStaysWrong)

/-- 'lidarlaw07.LabelKinds': WHATEVER THE INPUT: true; the input reads as it did. -/
def labelKindsSpec : ChangeSpec := { name := "labelKinds", fn := fun _ => fun
  | [d1, d2] => { results := [.lit (.bool true)], args := [d1, d2] }
  | _ => none }
def labelKindsRow : OpenClaim := { program := "ytbkobeeileemjaagreat", sum := "72bdf95cea6fb0716c5bd736a1bf9228d104d3c545f193656ad0f62311b089d4", func := "lidar/lidarlaw07.LabelKinds", spec := "labelKinds", inPlace := ["math/bits.Add64"], unfollowed := true, recurses := true, named := ["math/bits.divideError", "math/bits.overflowError"], plainKeys := false, apart := false }
def LabelKindsSaid : Prop := labelKindsRow.holds Tryz.pinned (OpenSpec.ofChange labelKindsSpec)

/-- ITS FALSE NEIGHBOUR: 'it returns false'. Refute it at one input. -/
def labelKindsWrong : ChangeSpec := { name := "labelKinds", fn := fun _ => fun
  | [d1, d2] => { results := [.lit (.bool false)], args := [d1, d2] }
  | _ => none }
def LabelKindsWrongFalsely : Prop := labelKindsRow.holds Tryz.pinned (OpenSpec.ofChange labelKindsWrong)

/- THE SECOND FORM. 'bulk': how many values and letters a reading holds, each counted each time it is reached (what is shared counts as often as it is met; a slice's spare places count too). A statement '..UptoSaid' is the law's where the arguments, and the package variables that the reading takes, are together of bulk at most 1048576: NARROWER than '..Said'. Prove '..Said' where nothing that the law and all that it calls make is longer than what came in: it says more and counts as full. Else prove '..UptoSaid'. A law counts once. -/
mutual
def uptoBulk {H : Type} : DataW H → Nat
  | .lit (.string bytes) => bytes.length + 1
  | .lit _ => 1
  | .nil => 1
  | .ptr d => uptoBulk d + 1
  | .slice elems spare => uptoBulkAll elems + uptoBulkAll spare + 1
  | .agg parts => uptoBulkAll parts + 1
  | .iface _ d => uptoBulk d + 1
  | .map entries => uptoBulkEntries entries + 1
  | .held _ => 1
def uptoBulkAll {H : Type} : List (DataW H) → Nat
  | [] => 0
  | d :: r => uptoBulk d + uptoBulkAll r
def uptoBulkEntries {H : Type} : List (Lit × DataW H) → Nat
  | [] => 0
  | x :: r => uptoBulkEntry x + uptoBulkEntries r
def uptoBulkEntry {H : Type} : Lit × DataW H → Nat
  | (.string bytes, d) => bytes.length + uptoBulk d + 1
  | (_, d) => uptoBulk d + 1
 end
def uptoSmall : (H : Type) → List (DataW H) → Bool := fun _ ds => decide (uptoBulkAll ds ≤ 1048576)
def OpenSpec.upto (s : _root_.Go.ChangeSpec) : _root_.Go.OpenSpec := { _root_.Go.OpenSpec.ofChange s with cond := some uptoSmall }

/-- 'lidarlaw06.MeshPlanes', WHERE WHAT IT READS IS OF BULK AT MOST 1048576: true; the input reads as it did. -/
def meshPlanesUptoRow : OpenClaim := { program := "ytbkobeeileemjaagreat", sum := "72bdf95cea6fb0716c5bd736a1bf9228d104d3c545f193656ad0f62311b089d4", func := "lidar/lidarlaw06.MeshPlanes", spec := "meshPlanes", unfollowed := true, recurses := true, plainKeys := false, apart := false, narrowed := true }
def MeshPlanesUptoSaid : Prop := meshPlanesUptoRow.holds Tryz.pinned (OpenSpec.upto meshPlanesSpec)

/-- 'lidarlaw07.LabelSurfaces', WHERE WHAT IT READS IS OF BULK AT MOST 1048576: true; the input reads as it did. -/
def labelSurfacesUptoRow : OpenClaim := { program := "ytbkobeeileemjaagreat", sum := "72bdf95cea6fb0716c5bd736a1bf9228d104d3c545f193656ad0f62311b089d4", func := "lidar/lidarlaw07.LabelSurfaces", spec := "labelSurfaces", unfollowed := true, recurses := true, plainKeys := false, apart := false, narrowed := true }
def LabelSurfacesUptoSaid : Prop := labelSurfacesUptoRow.holds Tryz.pinned (OpenSpec.upto labelSurfacesSpec)

/-- 'lidarlaw07.LabelGrows', WHERE WHAT IT READS IS OF BULK AT MOST 1048576: true; the input reads as it did. -/
def labelGrowsUptoRow : OpenClaim := { program := "ytbkobeeileemjaagreat", sum := "72bdf95cea6fb0716c5bd736a1bf9228d104d3c545f193656ad0f62311b089d4", func := "lidar/lidarlaw07.LabelGrows", spec := "labelGrows", inPlace := ["math/bits.Add64"], unfollowed := true, recurses := true, named := ["math/bits.divideError", "math/bits.overflowError"], plainKeys := false, apart := false, narrowed := true }
def LabelGrowsUptoSaid : Prop := labelGrowsUptoRow.holds Tryz.pinned (OpenSpec.upto labelGrowsSpec)

/-- 'lidarlaw07.LabelGrounds', WHERE WHAT IT READS IS OF BULK AT MOST 1048576: true; the input reads as it did. -/
def labelGroundsUptoRow : OpenClaim := { program := "ytbkobeeileemjaagreat", sum := "72bdf95cea6fb0716c5bd736a1bf9228d104d3c545f193656ad0f62311b089d4", func := "lidar/lidarlaw07.LabelGrounds", spec := "labelGrounds", inPlace := ["math/bits.Add64"], unfollowed := true, recurses := true, named := ["math/bits.divideError", "math/bits.overflowError"], plainKeys := false, apart := false, narrowed := true }
def LabelGroundsUptoSaid : Prop := labelGroundsUptoRow.holds Tryz.pinned (OpenSpec.upto labelGroundsSpec)

/-- 'lidarlaw07.LabelRoofs', WHERE WHAT IT READS IS OF BULK AT MOST 1048576: true; the input reads as it did. -/
def labelRoofsUptoRow : OpenClaim := { program := "ytbkobeeileemjaagreat", sum := "72bdf95cea6fb0716c5bd736a1bf9228d104d3c545f193656ad0f62311b089d4", func := "lidar/lidarlaw07.LabelRoofs", spec := "labelRoofs", inPlace := ["math/bits.Add64"], unfollowed := true, recurses := true, named := ["math/bits.divideError", "math/bits.overflowError"], plainKeys := false, apart := false, narrowed := true }
def LabelRoofsUptoSaid : Prop := labelRoofsUptoRow.holds Tryz.pinned (OpenSpec.upto labelRoofsSpec)

/-- 'lidarlaw07.LabelFixed', WHERE WHAT IT READS IS OF BULK AT MOST 1048576: true; the input reads as it did. -/
def labelFixedUptoRow : OpenClaim := { program := "ytbkobeeileemjaagreat", sum := "72bdf95cea6fb0716c5bd736a1bf9228d104d3c545f193656ad0f62311b089d4", func := "lidar/lidarlaw07.LabelFixed", spec := "labelFixed", inPlace := ["math/bits.Add64"], unfollowed := true, recurses := true, named := ["math/bits.divideError", "math/bits.overflowError"], plainKeys := false, apart := false, narrowed := true }
def LabelFixedUptoSaid : Prop := labelFixedUptoRow.holds Tryz.pinned (OpenSpec.upto labelFixedSpec)

/-- 'lidarlaw07.LabelRefuses', WHERE WHAT IT READS IS OF BULK AT MOST 1048576: true; the input reads as it did. -/
def labelRefusesUptoRow : OpenClaim := { program := "ytbkobeeileemjaagreat", sum := "72bdf95cea6fb0716c5bd736a1bf9228d104d3c545f193656ad0f62311b089d4", func := "lidar/lidarlaw07.LabelRefuses", spec := "labelRefuses", inPlace := ["math/bits.Add64"], unfollowed := true, recurses := true, named := ["math/bits.divideError", "math/bits.overflowError"], plainKeys := false, apart := false, narrowed := true }
def LabelRefusesUptoSaid : Prop := labelRefusesUptoRow.holds Tryz.pinned (OpenSpec.upto labelRefusesSpec)

/-- 'lidarlaw07.LabelClassifies', WHERE WHAT IT READS IS OF BULK AT MOST 1048576: true; the input reads as it did. -/
def labelClassifiesUptoRow : OpenClaim := { program := "ytbkobeeileemjaagreat", sum := "72bdf95cea6fb0716c5bd736a1bf9228d104d3c545f193656ad0f62311b089d4", func := "lidar/lidarlaw07.LabelClassifies", spec := "labelClassifies", inPlace := ["math/bits.Add64"], unfollowed := true, recurses := true, named := ["math/bits.divideError", "math/bits.overflowError"], plainKeys := false, apart := false, narrowed := true }
def LabelClassifiesUptoSaid : Prop := labelClassifiesUptoRow.holds Tryz.pinned (OpenSpec.upto labelClassifiesSpec)

/-- 'lidarlaw07.LabelLifts', WHERE WHAT IT READS IS OF BULK AT MOST 1048576: true; the input reads as it did. -/
def labelLiftsUptoRow : OpenClaim := { program := "ytbkobeeileemjaagreat", sum := "72bdf95cea6fb0716c5bd736a1bf9228d104d3c545f193656ad0f62311b089d4", func := "lidar/lidarlaw07.LabelLifts", spec := "labelLifts", inPlace := ["math/bits.Add64"], unfollowed := true, recurses := true, named := ["math/bits.divideError", "math/bits.overflowError"], plainKeys := false, apart := false, narrowed := true }
def LabelLiftsUptoSaid : Prop := labelLiftsUptoRow.holds Tryz.pinned (OpenSpec.upto labelLiftsSpec)

/-- 'lidarlaw07.LabelLabels', WHERE WHAT IT READS IS OF BULK AT MOST 1048576: true; the input reads as it did. -/
def labelLabelsUptoRow : OpenClaim := { program := "ytbkobeeileemjaagreat", sum := "72bdf95cea6fb0716c5bd736a1bf9228d104d3c545f193656ad0f62311b089d4", func := "lidar/lidarlaw07.LabelLabels", spec := "labelLabels", inPlace := ["math/bits.Add64"], unfollowed := true, recurses := true, named := ["math/bits.divideError", "math/bits.overflowError"], plainKeys := false, apart := false, narrowed := true }
def LabelLabelsUptoSaid : Prop := labelLabelsUptoRow.holds Tryz.pinned (OpenSpec.upto labelLabelsSpec)

/-- 'lidarlaw07.LabelStays', WHERE WHAT IT READS IS OF BULK AT MOST 1048576: true; the input reads as it did. -/
def labelStaysUptoRow : OpenClaim := { program := "ytbkobeeileemjaagreat", sum := "72bdf95cea6fb0716c5bd736a1bf9228d104d3c545f193656ad0f62311b089d4", func := "lidar/lidarlaw07.LabelStays", spec := "labelStays", inPlace := ["math/bits.Add64"], unfollowed := true, recurses := true, named := ["math/bits.divideError", "math/bits.overflowError"], plainKeys := false, apart := false, narrowed := true }
def LabelStaysUptoSaid : Prop := labelStaysUptoRow.holds Tryz.pinned (OpenSpec.upto labelStaysSpec)

/-- 'lidarlaw07.LabelKinds', WHERE WHAT IT READS IS OF BULK AT MOST 1048576: true; the input reads as it did. -/
def labelKindsUptoRow : OpenClaim := { program := "ytbkobeeileemjaagreat", sum := "72bdf95cea6fb0716c5bd736a1bf9228d104d3c545f193656ad0f62311b089d4", func := "lidar/lidarlaw07.LabelKinds", spec := "labelKinds", inPlace := ["math/bits.Add64"], unfollowed := true, recurses := true, named := ["math/bits.divideError", "math/bits.overflowError"], plainKeys := false, apart := false, narrowed := true }
def LabelKindsUptoSaid : Prop := labelKindsUptoRow.holds Tryz.pinned (OpenSpec.upto labelKindsSpec)

end Rows
end Go.Proofs.YtbkobeeileemjaaGreat
