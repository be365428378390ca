/-
  No cell of these rows narrows 'for every input' (looked for: loops, veiled, ifaces, maps, wideKeys, modest, calm, conditions, laid).
  DERIVED. THE GIVEN ROWS OF THIS SEAT. 6 by the template 'for every input the law returns true; each argument reads behind the call as it read before'; 0 by the template 'total and deterministic' (their statements: YtlejkgngmjchdaaGreatTotals.lean).
  GIVEN WITH THE SEED: the statements are not yours to turn. If you find one false, say at which input.
  Laid BY PROGRAM, IN A SANDBOX (cutbox-rows.mjs): the forced cells as the released guide's own fill.sh prints them over the translation d0002332e4b360d1… (all of the seat's roots in one cut). By AI agents, Wed Nov 11 2026. No macro, syntax, notation, axiom, sorry.
-/
import Derived.Test.YtlejkgngmjchdaaGreatChecked
import GoSem.Claim
import GoSem.ClaimJoined
import GoSem.ClaimMapViews
import Derived.JoinedTies
import Derived.KernelRfl
namespace Go.Proofs.YtlejkgngmjchdaaGreat
/- THE CELL 'sum', in the pinned program and in every row, IS THE sha256 OF THE DUMP (.gsa) THAT YtlejkgngmjchdaaGreatProg.lean LOADS. Nothing in Lean hashes anything: it is a label: what it is worth is what the hold of that sum in a sandbox is worth. -/
noncomputable def Tryz.pinned : Pinned := { name := "ytlejkgngmjchdaagreat", sum := "d0002332e4b360d1b40ce921b0bbd22bb0f3a5e3259bad42dccffb21a7000adc", checked := Tryz.checked }
namespace Rows
def none {H : Type} : Left H := { results := [], args := [] }

/-- 'lidarlaw07.LabelFits': WHATEVER THE INPUT: true; the input reads as it did. -/
def labelFitsSpec : ChangeSpec := { name := "labelFits", fn := fun _ => fun
  | [d1, d2, d3] => { results := [.lit (.bool true)], args := [d1, d2, d3] }
  | _ => none }
def labelFitsRow : OpenClaim := { program := "ytlejkgngmjchdaagreat", sum := "d0002332e4b360d1b40ce921b0bbd22bb0f3a5e3259bad42dccffb21a7000adc", func := "lidar/lidarlaw07.LabelFits", spec := "labelFits", inPlace := ["math/bits.Add64"], unfollowed := true, recurses := true, named := ["math/bits.divideError", "math/bits.overflowError"], plainKeys := false, apart := false }
def LabelFitsSaid : Prop := labelFitsRow.holds Tryz.pinned (OpenSpec.ofChange labelFitsSpec)

/-- ITS FALSE NEIGHBOUR: 'it returns false'. Refute it at one input. -/
def labelFitsWrong : ChangeSpec := { name := "labelFits", fn := fun _ => fun
  | [d1, d2, d3] => { results := [.lit (.bool false)], args := [d1, d2, d3] }
  | _ => none }
def LabelFitsWrongFalsely : Prop := labelFitsRow.holds Tryz.pinned (OpenSpec.ofChange labelFitsWrong)

/-- 'lidarlaw06.MeshFinds': WHATEVER THE INPUT: true; the input reads as it did. -/
def meshFindsSpec : ChangeSpec := { name := "meshFinds", fn := fun _ => fun
  | [d1, d2] => { results := [.lit (.bool true)], args := [d1, d2] }
  | _ => none }
def meshFindsRow : OpenClaim := { program := "ytlejkgngmjchdaagreat", sum := "d0002332e4b360d1b40ce921b0bbd22bb0f3a5e3259bad42dccffb21a7000adc", func := "lidar/lidarlaw06.MeshFinds", spec := "meshFinds", unfollowed := true, recurses := true, plainKeys := false, apart := false }
def MeshFindsSaid : Prop := meshFindsRow.holds Tryz.pinned (OpenSpec.ofChange meshFindsSpec)

/-- ITS FALSE NEIGHBOUR: 'it returns false'. Refute it at one input. -/
def meshFindsWrong : ChangeSpec := { name := "meshFinds", fn := fun _ => fun
  | [d1, d2] => { results := [.lit (.bool false)], args := [d1, d2] }
  | _ => none }
def MeshFindsWrongFalsely : Prop := meshFindsRow.holds Tryz.pinned (OpenSpec.ofChange meshFindsWrong)

/-- 'lidarlaw06.MeshProfiles': WHATEVER THE INPUT: true; the input reads as it did. -/
def meshProfilesSpec : ChangeSpec := { name := "meshProfiles", fn := fun _ => fun
  | [d1, d2, d3] => { results := [.lit (.bool true)], args := [d1, d2, d3] }
  | _ => none }
def meshProfilesRow : OpenClaim := { program := "ytlejkgngmjchdaagreat", sum := "d0002332e4b360d1b40ce921b0bbd22bb0f3a5e3259bad42dccffb21a7000adc", func := "lidar/lidarlaw06.MeshProfiles", spec := "meshProfiles", unfollowed := true, recurses := true, plainKeys := false, apart := false }
def MeshProfilesSaid : Prop := meshProfilesRow.holds Tryz.pinned (OpenSpec.ofChange meshProfilesSpec)

/-- ITS FALSE NEIGHBOUR: 'it returns false'. Refute it at one input. -/
def meshProfilesWrong : ChangeSpec := { name := "meshProfiles", fn := fun _ => fun
  | [d1, d2, d3] => { results := [.lit (.bool false)], args := [d1, d2, d3] }
  | _ => none }
def MeshProfilesWrongFalsely : Prop := meshProfilesRow.holds Tryz.pinned (OpenSpec.ofChange meshProfilesWrong)

/-- 'lidarlaw06.MeshLinear': WHATEVER THE INPUT: true; the input reads as it did. -/
def meshLinearSpec : ChangeSpec := { name := "meshLinear", fn := fun _ => fun
  | [d1, d2, d3] => { results := [.lit (.bool true)], args := [d1, d2, d3] }
  | _ => none }
def meshLinearRow : OpenClaim := { program := "ytlejkgngmjchdaagreat", sum := "d0002332e4b360d1b40ce921b0bbd22bb0f3a5e3259bad42dccffb21a7000adc", func := "lidar/lidarlaw06.MeshLinear", spec := "meshLinear", unfollowed := true, recurses := true, plainKeys := false, apart := false }
def MeshLinearSaid : Prop := meshLinearRow.holds Tryz.pinned (OpenSpec.ofChange meshLinearSpec)

/-- ITS FALSE NEIGHBOUR: 'it returns false'. Refute it at one input. -/
def meshLinearWrong : ChangeSpec := { name := "meshLinear", fn := fun _ => fun
  | [d1, d2, d3] => { results := [.lit (.bool false)], args := [d1, d2, d3] }
  | _ => none }
def MeshLinearWrongFalsely : Prop := meshLinearRow.holds Tryz.pinned (OpenSpec.ofChange meshLinearWrong)

/-- 'lidarlaw06.MeshContours': WHATEVER THE INPUT: true; the input reads as it did. -/
def meshContoursSpec : ChangeSpec := { name := "meshContours", fn := fun _ => fun
  | [d1, d2] => { results := [.lit (.bool true)], args := [d1, d2] }
  | _ => none }
def meshContoursRow : OpenClaim := { program := "ytlejkgngmjchdaagreat", sum := "d0002332e4b360d1b40ce921b0bbd22bb0f3a5e3259bad42dccffb21a7000adc", func := "lidar/lidarlaw06.MeshContours", spec := "meshContours", unfollowed := true, recurses := true, plainKeys := false, apart := false }
def MeshContoursSaid : Prop := meshContoursRow.holds Tryz.pinned (OpenSpec.ofChange meshContoursSpec)

/-- ITS FALSE NEIGHBOUR: 'it returns false'. Refute it at one input. -/
def meshContoursWrong : ChangeSpec := { name := "meshContours", fn := fun _ => fun
  | [d1, d2] => { results := [.lit (.bool false)], args := [d1, d2] }
  | _ => none }
def MeshContoursWrongFalsely : Prop := meshContoursRow.holds Tryz.pinned (OpenSpec.ofChange meshContoursWrong)

/-- 'lidarlaw06.MeshCrossings': WHATEVER THE INPUT: true; the input reads as it did. -/
def meshCrossingsSpec : ChangeSpec := { name := "meshCrossings", fn := fun _ => fun
  | [d1, d2, d3] => { results := [.lit (.bool true)], args := [d1, d2, d3] }
  | _ => none }
def meshCrossingsRow : OpenClaim := { program := "ytlejkgngmjchdaagreat", sum := "d0002332e4b360d1b40ce921b0bbd22bb0f3a5e3259bad42dccffb21a7000adc", func := "lidar/lidarlaw06.MeshCrossings", spec := "meshCrossings", unfollowed := true, recurses := true, plainKeys := false, apart := false }
def MeshCrossingsSaid : Prop := meshCrossingsRow.holds Tryz.pinned (OpenSpec.ofChange meshCrossingsSpec)

/-- ITS FALSE NEIGHBOUR: 'it returns false'. Refute it at one input. -/
def meshCrossingsWrong : ChangeSpec := { name := "meshCrossings", fn := fun _ => fun
  | [d1, d2, d3] => { results := [.lit (.bool false)], args := [d1, d2, d3] }
  | _ => none }
def MeshCrossingsWrongFalsely : Prop := meshCrossingsRow.holds Tryz.pinned (OpenSpec.ofChange meshCrossingsWrong)

/- THE SECOND FORM. 'bulk': how many values and letters a reading holds, each counted each time it is reached (what is shared counts as often as it is met; a slice's spare places count too). A statement '..UptoSaid' is the law's where the arguments, and the package variables that the reading takes, are together of bulk at most 1048576: NARROWER than '..Said'. Prove '..Said' where nothing that the law and all that it calls make is longer than what came in: it says more and counts as full. Else prove '..UptoSaid'. A law counts once. -/
mutual
def uptoBulk {H : Type} : DataW H → Nat
  | .lit (.string bytes) => bytes.length + 1
  | .lit _ => 1
  | .nil => 1
  | .ptr d => uptoBulk d + 1
  | .slice elems spare => uptoBulkAll elems + uptoBulkAll spare + 1
  | .agg parts => uptoBulkAll parts + 1
  | .iface _ d => uptoBulk d + 1
  | .map entries => uptoBulkEntries entries + 1
  | .held _ => 1
def uptoBulkAll {H : Type} : List (DataW H) → Nat
  | [] => 0
  | d :: r => uptoBulk d + uptoBulkAll r
def uptoBulkEntries {H : Type} : List (Lit × DataW H) → Nat
  | [] => 0
  | x :: r => uptoBulkEntry x + uptoBulkEntries r
def uptoBulkEntry {H : Type} : Lit × DataW H → Nat
  | (.string bytes, d) => bytes.length + uptoBulk d + 1
  | (_, d) => uptoBulk d + 1
 end
def uptoSmall : (H : Type) → List (DataW H) → Bool := fun _ ds => decide (uptoBulkAll ds ≤ 1048576)
def OpenSpec.upto (s : _root_.Go.ChangeSpec) : _root_.Go.OpenSpec := { _root_.Go.OpenSpec.ofChange s with cond := some uptoSmall }

/-- 'lidarlaw07.LabelFits', WHERE WHAT IT READS IS OF BULK AT MOST 1048576: true; the input reads as it did. -/
def labelFitsUptoRow : OpenClaim := { program := "ytlejkgngmjchdaagreat", sum := "d0002332e4b360d1b40ce921b0bbd22bb0f3a5e3259bad42dccffb21a7000adc", func := "lidar/lidarlaw07.LabelFits", spec := "labelFits", inPlace := ["math/bits.Add64"], unfollowed := true, recurses := true, named := ["math/bits.divideError", "math/bits.overflowError"], plainKeys := false, apart := false, narrowed := true }
def LabelFitsUptoSaid : Prop := labelFitsUptoRow.holds Tryz.pinned (OpenSpec.upto labelFitsSpec)

/-- 'lidarlaw06.MeshFinds', WHERE WHAT IT READS IS OF BULK AT MOST 1048576: true; the input reads as it did. -/
def meshFindsUptoRow : OpenClaim := { program := "ytlejkgngmjchdaagreat", sum := "d0002332e4b360d1b40ce921b0bbd22bb0f3a5e3259bad42dccffb21a7000adc", func := "lidar/lidarlaw06.MeshFinds", spec := "meshFinds", unfollowed := true, recurses := true, plainKeys := false, apart := false, narrowed := true }
def MeshFindsUptoSaid : Prop := meshFindsUptoRow.holds Tryz.pinned (OpenSpec.upto meshFindsSpec)

/-- 'lidarlaw06.MeshProfiles', WHERE WHAT IT READS IS OF BULK AT MOST 1048576: true; the input reads as it did. -/
def meshProfilesUptoRow : OpenClaim := { program := "ytlejkgngmjchdaagreat", sum := "d0002332e4b360d1b40ce921b0bbd22bb0f3a5e3259bad42dccffb21a7000adc", func := "lidar/lidarlaw06.MeshProfiles", spec := "meshProfiles", unfollowed := true, recurses := true, plainKeys := false, apart := false, narrowed := true }
def MeshProfilesUptoSaid : Prop := meshProfilesUptoRow.holds Tryz.pinned (OpenSpec.upto meshProfilesSpec)

/-- 'lidarlaw06.MeshLinear', WHERE WHAT IT READS IS OF BULK AT MOST 1048576: true; the input reads as it did. -/
def meshLinearUptoRow : OpenClaim := { program := "ytlejkgngmjchdaagreat", sum := "d0002332e4b360d1b40ce921b0bbd22bb0f3a5e3259bad42dccffb21a7000adc", func := "lidar/lidarlaw06.MeshLinear", spec := "meshLinear", unfollowed := true, recurses := true, plainKeys := false, apart := false, narrowed := true }
def MeshLinearUptoSaid : Prop := meshLinearUptoRow.holds Tryz.pinned (OpenSpec.upto meshLinearSpec)

/-- 'lidarlaw06.MeshContours', WHERE WHAT IT READS IS OF BULK AT MOST 1048576: true; the input reads as it did. -/
def meshContoursUptoRow : OpenClaim := { program := "ytlejkgngmjchdaagreat", sum := "d0002332e4b360d1b40ce921b0bbd22bb0f3a5e3259bad42dccffb21a7000adc", func := "lidar/lidarlaw06.MeshContours", spec := "meshContours", unfollowed := true, recurses := true, plainKeys := false, apart := false, narrowed := true }
def MeshContoursUptoSaid : Prop := meshContoursUptoRow.holds Tryz.pinned (OpenSpec.upto meshContoursSpec)

/-- 'lidarlaw06.MeshCrossings', WHERE WHAT IT READS IS OF BULK AT MOST 1048576: true; the input reads as it did. -/
def meshCrossingsUptoRow : OpenClaim := { program := "ytlejkgngmjchdaagreat", sum := "d0002332e4b360d1b40ce921b0bbd22bb0f3a5e3259bad42dccffb21a7000adc", func := "lidar/lidarlaw06.MeshCrossings", spec := "meshCrossings", unfollowed := true, recurses := true, plainKeys := false, apart := false, narrowed := true }
def MeshCrossingsUptoSaid : Prop := meshCrossingsUptoRow.holds Tryz.pinned (OpenSpec.upto meshCrossingsSpec)

end Rows
end Go.Proofs.YtlejkgngmjchdaaGreat
