/-
  No cell of these rows narrows 'for every input' (looked for: loops, veiled, ifaces, maps, wideKeys, modest, calm, conditions, laid).
  DERIVED. THE GIVEN ROWS OF THIS SEAT. 6 by the template 'for every input the law returns true; each argument reads behind the call as it read before'; 0 by the template 'total and deterministic' (their statements: YtebkcipolijfmaaGreatTotals.lean).
  GIVEN WITH THE SEED: the statements are not yours to turn. If you find one false, say at which input.
  Laid BY PROGRAM, IN A SANDBOX (cutbox-rows.mjs): the forced cells as the released guide's own fill.sh prints them over the translation b34e3bbb89c493d2… (all of the seat's roots in one cut). By AI agents, Wed Nov 11 2026. No macro, syntax, notation, axiom, sorry.
-/
import Derived.Test.YtebkcipolijfmaaGreatChecked
import GoSem.Claim
import GoSem.ClaimJoined
import GoSem.ClaimMapViews
import Derived.JoinedTies
import Derived.KernelRfl
namespace Go.Proofs.YtebkcipolijfmaaGreat
/- THE CELL 'sum', in the pinned program and in every row, IS THE sha256 OF THE DUMP (.gsa) THAT YtebkcipolijfmaaGreatProg.lean LOADS. Nothing in Lean hashes anything: it is a label: what it is worth is what the hold of that sum in a sandbox is worth. -/
noncomputable def Tryz.pinned : Pinned := { name := "ytebkcipolijfmaagreat", sum := "b34e3bbb89c493d2d900217dc5e56b693a5f182fac3898ff940406343436ff57", checked := Tryz.checked }
namespace Rows
def none {H : Type} : Left H := { results := [], args := [] }

/-- 'lidarlaw06.MeshDelaunay': WHATEVER THE INPUT: true; the input reads as it did. -/
def meshDelaunaySpec : ChangeSpec := { name := "meshDelaunay", fn := fun _ => fun
  | [d] => { results := [.lit (.bool true)], args := [d] }
  | _ => none }
def meshDelaunayRow : OpenClaim := { program := "ytebkcipolijfmaagreat", sum := "b34e3bbb89c493d2d900217dc5e56b693a5f182fac3898ff940406343436ff57", func := "lidar/lidarlaw06.MeshDelaunay", spec := "meshDelaunay", unfollowed := true, recurses := true, plainKeys := false, apart := false }
def MeshDelaunaySaid : Prop := meshDelaunayRow.holds Tryz.pinned (OpenSpec.ofChange meshDelaunaySpec)

/-- ITS FALSE NEIGHBOUR: 'it returns false'. Refute it at one input. -/
def meshDelaunayWrong : ChangeSpec := { name := "meshDelaunay", fn := fun _ => fun
  | [d] => { results := [.lit (.bool false)], args := [d] }
  | _ => none }
def MeshDelaunayWrongFalsely : Prop := meshDelaunayRow.holds Tryz.pinned (OpenSpec.ofChange meshDelaunayWrong)

/-- 'lidarlaw06.MeshBuilds': WHATEVER THE INPUT: true; the input reads as it did. -/
def meshBuildsSpec : ChangeSpec := { name := "meshBuilds", fn := fun _ => fun
  | [d] => { results := [.lit (.bool true)], args := [d] }
  | _ => none }
def meshBuildsRow : OpenClaim := { program := "ytebkcipolijfmaagreat", sum := "b34e3bbb89c493d2d900217dc5e56b693a5f182fac3898ff940406343436ff57", func := "lidar/lidarlaw06.MeshBuilds", spec := "meshBuilds", unfollowed := true, recurses := true, plainKeys := false, apart := false }
def MeshBuildsSaid : Prop := meshBuildsRow.holds Tryz.pinned (OpenSpec.ofChange meshBuildsSpec)

/-- ITS FALSE NEIGHBOUR: 'it returns false'. Refute it at one input. -/
def meshBuildsWrong : ChangeSpec := { name := "meshBuilds", fn := fun _ => fun
  | [d] => { results := [.lit (.bool false)], args := [d] }
  | _ => none }
def MeshBuildsWrongFalsely : Prop := meshBuildsRow.holds Tryz.pinned (OpenSpec.ofChange meshBuildsWrong)

/-- 'lidarlaw06.MeshFinds': WHATEVER THE INPUT: true; the input reads as it did. -/
def meshFindsSpec : ChangeSpec := { name := "meshFinds", fn := fun _ => fun
  | [d1, d2] => { results := [.lit (.bool true)], args := [d1, d2] }
  | _ => none }
def meshFindsRow : OpenClaim := { program := "ytebkcipolijfmaagreat", sum := "b34e3bbb89c493d2d900217dc5e56b693a5f182fac3898ff940406343436ff57", func := "lidar/lidarlaw06.MeshFinds", spec := "meshFinds", unfollowed := true, recurses := true, plainKeys := false, apart := false }
def MeshFindsSaid : Prop := meshFindsRow.holds Tryz.pinned (OpenSpec.ofChange meshFindsSpec)

/-- ITS FALSE NEIGHBOUR: 'it returns false'. Refute it at one input. -/
def meshFindsWrong : ChangeSpec := { name := "meshFinds", fn := fun _ => fun
  | [d1, d2] => { results := [.lit (.bool false)], args := [d1, d2] }
  | _ => none }
def MeshFindsWrongFalsely : Prop := meshFindsRow.holds Tryz.pinned (OpenSpec.ofChange meshFindsWrong)

/-- 'lidarlaw06.MeshLinear': WHATEVER THE INPUT: true; the input reads as it did. -/
def meshLinearSpec : ChangeSpec := { name := "meshLinear", fn := fun _ => fun
  | [d1, d2, d3] => { results := [.lit (.bool true)], args := [d1, d2, d3] }
  | _ => none }
def meshLinearRow : OpenClaim := { program := "ytebkcipolijfmaagreat", sum := "b34e3bbb89c493d2d900217dc5e56b693a5f182fac3898ff940406343436ff57", func := "lidar/lidarlaw06.MeshLinear", spec := "meshLinear", unfollowed := true, recurses := true, plainKeys := false, apart := false }
def MeshLinearSaid : Prop := meshLinearRow.holds Tryz.pinned (OpenSpec.ofChange meshLinearSpec)

/-- ITS FALSE NEIGHBOUR: 'it returns false'. Refute it at one input. -/
def meshLinearWrong : ChangeSpec := { name := "meshLinear", fn := fun _ => fun
  | [d1, d2, d3] => { results := [.lit (.bool false)], args := [d1, d2, d3] }
  | _ => none }
def MeshLinearWrongFalsely : Prop := meshLinearRow.holds Tryz.pinned (OpenSpec.ofChange meshLinearWrong)

/-- 'lidarlaw06.MeshSides': WHATEVER THE INPUT: true; the input reads as it did. -/
def meshSidesSpec : ChangeSpec := { name := "meshSides", fn := fun _ => fun
  | [d1, d2] => { results := [.lit (.bool true)], args := [d1, d2] }
  | _ => none }
def meshSidesRow : OpenClaim := { program := "ytebkcipolijfmaagreat", sum := "b34e3bbb89c493d2d900217dc5e56b693a5f182fac3898ff940406343436ff57", func := "lidar/lidarlaw06.MeshSides", spec := "meshSides", unfollowed := true, recurses := true, plainKeys := false, apart := false }
def MeshSidesSaid : Prop := meshSidesRow.holds Tryz.pinned (OpenSpec.ofChange meshSidesSpec)

/-- ITS FALSE NEIGHBOUR: 'it returns false'. Refute it at one input. -/
def meshSidesWrong : ChangeSpec := { name := "meshSides", fn := fun _ => fun
  | [d1, d2] => { results := [.lit (.bool false)], args := [d1, d2] }
  | _ => none }
def MeshSidesWrongFalsely : Prop := meshSidesRow.holds Tryz.pinned (OpenSpec.ofChange meshSidesWrong)

/-- 'lidarlaw09.ModelLimits': WHATEVER THE INPUT: true; the input reads as it did. -/
def modelLimitsSpec : ChangeSpec := { name := "modelLimits", fn := fun _ => fun
  | [d] => { results := [.lit (.bool true)], args := [d] }
  | _ => none }
def modelLimitsRow : OpenClaim := { program := "ytebkcipolijfmaagreat", sum := "b34e3bbb89c493d2d900217dc5e56b693a5f182fac3898ff940406343436ff57", func := "lidar/lidarlaw09.ModelLimits", spec := "modelLimits", inPlace := ["math/bits.Add64"], unfollowed := true, recurses := true, named := ["math/bits.divideError", "math/bits.overflowError"], plainKeys := false, apart := false }
def ModelLimitsSaid : Prop := modelLimitsRow.holds Tryz.pinned (OpenSpec.ofChange modelLimitsSpec)

/-- ITS FALSE NEIGHBOUR: 'it returns false'. Refute it at one input. -/
def modelLimitsWrong : ChangeSpec := { name := "modelLimits", fn := fun _ => fun
  | [d] => { results := [.lit (.bool false)], args := [d] }
  | _ => none }
def ModelLimitsWrongFalsely : Prop := modelLimitsRow.holds Tryz.pinned (OpenSpec.ofChange modelLimitsWrong)

/- THE SECOND FORM. 'bulk': how many values and letters a reading holds, each counted each time it is reached (what is shared counts as often as it is met; a slice's spare places count too). A statement '..UptoSaid' is the law's where the arguments, and the package variables that the reading takes, are together of bulk at most 1048576: NARROWER than '..Said'. Prove '..Said' where nothing that the law and all that it calls make is longer than what came in: it says more and counts as full. Else prove '..UptoSaid'. A law counts once. -/
mutual
def uptoBulk {H : Type} : DataW H → Nat
  | .lit (.string bytes) => bytes.length + 1
  | .lit _ => 1
  | .nil => 1
  | .ptr d => uptoBulk d + 1
  | .slice elems spare => uptoBulkAll elems + uptoBulkAll spare + 1
  | .agg parts => uptoBulkAll parts + 1
  | .iface _ d => uptoBulk d + 1
  | .map entries => uptoBulkEntries entries + 1
  | .held _ => 1
def uptoBulkAll {H : Type} : List (DataW H) → Nat
  | [] => 0
  | d :: r => uptoBulk d + uptoBulkAll r
def uptoBulkEntries {H : Type} : List (Lit × DataW H) → Nat
  | [] => 0
  | x :: r => uptoBulkEntry x + uptoBulkEntries r
def uptoBulkEntry {H : Type} : Lit × DataW H → Nat
  | (.string bytes, d) => bytes.length + uptoBulk d + 1
  | (_, d) => uptoBulk d + 1
 end
def uptoSmall : (H : Type) → List (DataW H) → Bool := fun _ ds => decide (uptoBulkAll ds ≤ 1048576)
def OpenSpec.upto (s : _root_.Go.ChangeSpec) : _root_.Go.OpenSpec := { _root_.Go.OpenSpec.ofChange s with cond := some uptoSmall }

/-- 'lidarlaw06.MeshDelaunay', WHERE WHAT IT READS IS OF BULK AT MOST 1048576: true; the input reads as it did. -/
def meshDelaunayUptoRow : OpenClaim := { program := "ytebkcipolijfmaagreat", sum := "b34e3bbb89c493d2d900217dc5e56b693a5f182fac3898ff940406343436ff57", func := "lidar/lidarlaw06.MeshDelaunay", spec := "meshDelaunay", unfollowed := true, recurses := true, plainKeys := false, apart := false, narrowed := true }
def MeshDelaunayUptoSaid : Prop := meshDelaunayUptoRow.holds Tryz.pinned (OpenSpec.upto meshDelaunaySpec)

/-- 'lidarlaw06.MeshBuilds', WHERE WHAT IT READS IS OF BULK AT MOST 1048576: true; the input reads as it did. -/
def meshBuildsUptoRow : OpenClaim := { program := "ytebkcipolijfmaagreat", sum := "b34e3bbb89c493d2d900217dc5e56b693a5f182fac3898ff940406343436ff57", func := "lidar/lidarlaw06.MeshBuilds", spec := "meshBuilds", unfollowed := true, recurses := true, plainKeys := false, apart := false, narrowed := true }
def MeshBuildsUptoSaid : Prop := meshBuildsUptoRow.holds Tryz.pinned (OpenSpec.upto meshBuildsSpec)

/-- 'lidarlaw06.MeshFinds', WHERE WHAT IT READS IS OF BULK AT MOST 1048576: true; the input reads as it did. -/
def meshFindsUptoRow : OpenClaim := { program := "ytebkcipolijfmaagreat", sum := "b34e3bbb89c493d2d900217dc5e56b693a5f182fac3898ff940406343436ff57", func := "lidar/lidarlaw06.MeshFinds", spec := "meshFinds", unfollowed := true, recurses := true, plainKeys := false, apart := false, narrowed := true }
def MeshFindsUptoSaid : Prop := meshFindsUptoRow.holds Tryz.pinned (OpenSpec.upto meshFindsSpec)

/-- 'lidarlaw06.MeshLinear', WHERE WHAT IT READS IS OF BULK AT MOST 1048576: true; the input reads as it did. -/
def meshLinearUptoRow : OpenClaim := { program := "ytebkcipolijfmaagreat", sum := "b34e3bbb89c493d2d900217dc5e56b693a5f182fac3898ff940406343436ff57", func := "lidar/lidarlaw06.MeshLinear", spec := "meshLinear", unfollowed := true, recurses := true, plainKeys := false, apart := false, narrowed := true }
def MeshLinearUptoSaid : Prop := meshLinearUptoRow.holds Tryz.pinned (OpenSpec.upto meshLinearSpec)

/-- 'lidarlaw06.MeshSides', WHERE WHAT IT READS IS OF BULK AT MOST 1048576: true; the input reads as it did. -/
def meshSidesUptoRow : OpenClaim := { program := "ytebkcipolijfmaagreat", sum := "b34e3bbb89c493d2d900217dc5e56b693a5f182fac3898ff940406343436ff57", func := "lidar/lidarlaw06.MeshSides", spec := "meshSides", unfollowed := true, recurses := true, plainKeys := false, apart := false, narrowed := true }
def MeshSidesUptoSaid : Prop := meshSidesUptoRow.holds Tryz.pinned (OpenSpec.upto meshSidesSpec)

/-- 'lidarlaw09.ModelLimits', WHERE WHAT IT READS IS OF BULK AT MOST 1048576: true; the input reads as it did. -/
def modelLimitsUptoRow : OpenClaim := { program := "ytebkcipolijfmaagreat", sum := "b34e3bbb89c493d2d900217dc5e56b693a5f182fac3898ff940406343436ff57", func := "lidar/lidarlaw09.ModelLimits", spec := "modelLimits", inPlace := ["math/bits.Add64"], unfollowed := true, recurses := true, named := ["math/bits.divideError", "math/bits.overflowError"], plainKeys := false, apart := false, narrowed := true }
def ModelLimitsUptoSaid : Prop := modelLimitsUptoRow.holds Tryz.pinned (OpenSpec.upto modelLimitsSpec)

end Rows
end Go.Proofs.YtebkcipolijfmaaGreat
