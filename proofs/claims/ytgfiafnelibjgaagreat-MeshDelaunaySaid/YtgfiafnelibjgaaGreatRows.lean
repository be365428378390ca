/-
  No cell of these rows narrows 'for every input' (looked for: loops, veiled, ifaces, maps, wideKeys, modest, calm, conditions, laid).
  DERIVED. THE GIVEN ROWS OF THIS SEAT. 6 by the template 'for every input the law returns true; each argument reads behind the call as it read before'; 0 by the template 'total and deterministic' (their statements: YtgfiafnelibjgaaGreatTotals.lean).
  GIVEN WITH THE SEED: the statements are not yours to turn. If you find one false, say at which input.
  Laid BY PROGRAM, IN A SANDBOX (cutbox-rows.mjs): the forced cells as the released guide's own fill.sh prints them over the translation dbe8491555d00491… (all of the seat's roots in one cut). By AI agents, Wed Nov 11 2026. No macro, syntax, notation, axiom, sorry.
-/
import Derived.Test.YtgfiafnelibjgaaGreatChecked
import GoSem.Claim
import GoSem.ClaimJoined
import GoSem.ClaimMapViews
import Derived.JoinedTies
import Derived.KernelRfl
namespace Go.Proofs.YtgfiafnelibjgaaGreat
/- THE CELL 'sum', in the pinned program and in every row, IS THE sha256 OF THE DUMP (.gsa) THAT YtgfiafnelibjgaaGreatProg.lean LOADS. Nothing in Lean hashes anything: it is a label: what it is worth is what the hold of that sum in a sandbox is worth. -/
noncomputable def Tryz.pinned : Pinned := { name := "ytgfiafnelibjgaagreat", sum := "dbe8491555d0049198e66ce45589d5617c21df09819de0655535bfe39a7ba277", checked := Tryz.checked }
namespace Rows
def none {H : Type} : Left H := { results := [], args := [] }

/-- 'lidarlaw06.MeshDelaunay': WHATEVER THE INPUT: true; the input reads as it did. -/
def meshDelaunaySpec : ChangeSpec := { name := "meshDelaunay", fn := fun _ => fun
  | [d] => { results := [.lit (.bool true)], args := [d] }
  | _ => none }
def meshDelaunayRow : OpenClaim := { program := "ytgfiafnelibjgaagreat", sum := "dbe8491555d0049198e66ce45589d5617c21df09819de0655535bfe39a7ba277", func := "lidar/lidarlaw06.MeshDelaunay", spec := "meshDelaunay", unfollowed := true, recurses := true, plainKeys := false, apart := false }
def MeshDelaunaySaid : Prop := meshDelaunayRow.holds Tryz.pinned (OpenSpec.ofChange meshDelaunaySpec)

/-- ITS FALSE NEIGHBOUR: 'it returns false'. Refute it at one input. -/
def meshDelaunayWrong : ChangeSpec := { name := "meshDelaunay", fn := fun _ => fun
  | [d] => { results := [.lit (.bool false)], args := [d] }
  | _ => none }
def MeshDelaunayWrongFalsely : Prop := meshDelaunayRow.holds Tryz.pinned (OpenSpec.ofChange meshDelaunayWrong)

/-- 'lidarlaw06.MeshInserts': WHATEVER THE INPUT: true; the input reads as it did. -/
def meshInsertsSpec : ChangeSpec := { name := "meshInserts", fn := fun _ => fun
  | [d1, d2, d3] => { results := [.lit (.bool true)], args := [d1, d2, d3] }
  | _ => none }
def meshInsertsRow : OpenClaim := { program := "ytgfiafnelibjgaagreat", sum := "dbe8491555d0049198e66ce45589d5617c21df09819de0655535bfe39a7ba277", func := "lidar/lidarlaw06.MeshInserts", spec := "meshInserts", unfollowed := true, recurses := true, plainKeys := false, apart := false }
def MeshInsertsSaid : Prop := meshInsertsRow.holds Tryz.pinned (OpenSpec.ofChange meshInsertsSpec)

/-- ITS FALSE NEIGHBOUR: 'it returns false'. Refute it at one input. -/
def meshInsertsWrong : ChangeSpec := { name := "meshInserts", fn := fun _ => fun
  | [d1, d2, d3] => { results := [.lit (.bool false)], args := [d1, d2, d3] }
  | _ => none }
def MeshInsertsWrongFalsely : Prop := meshInsertsRow.holds Tryz.pinned (OpenSpec.ofChange meshInsertsWrong)

/-- 'lidarlaw06.MeshChecks': WHATEVER THE INPUT: true; the input reads as it did. -/
def meshChecksSpec : ChangeSpec := { name := "meshChecks", fn := fun _ => fun
  | [d1, d2, d3] => { results := [.lit (.bool true)], args := [d1, d2, d3] }
  | _ => none }
def meshChecksRow : OpenClaim := { program := "ytgfiafnelibjgaagreat", sum := "dbe8491555d0049198e66ce45589d5617c21df09819de0655535bfe39a7ba277", func := "lidar/lidarlaw06.MeshChecks", spec := "meshChecks", unfollowed := true, recurses := true, plainKeys := false, apart := false }
def MeshChecksSaid : Prop := meshChecksRow.holds Tryz.pinned (OpenSpec.ofChange meshChecksSpec)

/-- ITS FALSE NEIGHBOUR: 'it returns false'. Refute it at one input. -/
def meshChecksWrong : ChangeSpec := { name := "meshChecks", fn := fun _ => fun
  | [d1, d2, d3] => { results := [.lit (.bool false)], args := [d1, d2, d3] }
  | _ => none }
def MeshChecksWrongFalsely : Prop := meshChecksRow.holds Tryz.pinned (OpenSpec.ofChange meshChecksWrong)

/-- 'lidartop.TopOneMesh': WHATEVER THE INPUT: true; the input reads as it did. -/
def topOneMeshSpec : ChangeSpec := { name := "topOneMesh", fn := fun _ => fun
  | [d1, d2, d3] => { results := [.lit (.bool true)], args := [d1, d2, d3] }
  | _ => none }
def topOneMeshRow : OpenClaim := { program := "ytgfiafnelibjgaagreat", sum := "dbe8491555d0049198e66ce45589d5617c21df09819de0655535bfe39a7ba277", func := "lidar/lidartop.TopOneMesh", spec := "topOneMesh", unfollowed := true, recurses := true, plainKeys := false, apart := false }
def TopOneMeshSaid : Prop := topOneMeshRow.holds Tryz.pinned (OpenSpec.ofChange topOneMeshSpec)

/-- ITS FALSE NEIGHBOUR: 'it returns false'. Refute it at one input. -/
def topOneMeshWrong : ChangeSpec := { name := "topOneMesh", fn := fun _ => fun
  | [d1, d2, d3] => { results := [.lit (.bool false)], args := [d1, d2, d3] }
  | _ => none }
def TopOneMeshWrongFalsely : Prop := topOneMeshRow.holds Tryz.pinned (OpenSpec.ofChange topOneMeshWrong)

/-- 'lidarlaw06.MeshSides': WHATEVER THE INPUT: true; the input reads as it did. -/
def meshSidesSpec : ChangeSpec := { name := "meshSides", fn := fun _ => fun
  | [d1, d2] => { results := [.lit (.bool true)], args := [d1, d2] }
  | _ => none }
def meshSidesRow : OpenClaim := { program := "ytgfiafnelibjgaagreat", sum := "dbe8491555d0049198e66ce45589d5617c21df09819de0655535bfe39a7ba277", func := "lidar/lidarlaw06.MeshSides", spec := "meshSides", unfollowed := true, recurses := true, plainKeys := false, apart := false }
def MeshSidesSaid : Prop := meshSidesRow.holds Tryz.pinned (OpenSpec.ofChange meshSidesSpec)

/-- ITS FALSE NEIGHBOUR: 'it returns false'. Refute it at one input. -/
def meshSidesWrong : ChangeSpec := { name := "meshSides", fn := fun _ => fun
  | [d1, d2] => { results := [.lit (.bool false)], args := [d1, d2] }
  | _ => none }
def MeshSidesWrongFalsely : Prop := meshSidesRow.holds Tryz.pinned (OpenSpec.ofChange meshSidesWrong)

/-- 'lidarlaw06.MeshFinds': WHATEVER THE INPUT: true; the input reads as it did. -/
def meshFindsSpec : ChangeSpec := { name := "meshFinds", fn := fun _ => fun
  | [d1, d2] => { results := [.lit (.bool true)], args := [d1, d2] }
  | _ => none }
def meshFindsRow : OpenClaim := { program := "ytgfiafnelibjgaagreat", sum := "dbe8491555d0049198e66ce45589d5617c21df09819de0655535bfe39a7ba277", func := "lidar/lidarlaw06.MeshFinds", spec := "meshFinds", unfollowed := true, recurses := true, plainKeys := false, apart := false }
def MeshFindsSaid : Prop := meshFindsRow.holds Tryz.pinned (OpenSpec.ofChange meshFindsSpec)

/-- ITS FALSE NEIGHBOUR: 'it returns false'. Refute it at one input. -/
def meshFindsWrong : ChangeSpec := { name := "meshFinds", fn := fun _ => fun
  | [d1, d2] => { results := [.lit (.bool false)], args := [d1, d2] }
  | _ => none }
def MeshFindsWrongFalsely : Prop := meshFindsRow.holds Tryz.pinned (OpenSpec.ofChange meshFindsWrong)

/- THE SECOND FORM. 'bulk': how many values and letters a reading holds, each counted each time it is reached (what is shared counts as often as it is met; a slice's spare places count too). A statement '..UptoSaid' is the law's where the arguments, and the package variables that the reading takes, are together of bulk at most 1048576: NARROWER than '..Said'. Prove '..Said' where nothing that the law and all that it calls make is longer than what came in: it says more and counts as full. Else prove '..UptoSaid'. A law counts once. -/
mutual
def uptoBulk {H : Type} : DataW H → Nat
  | .lit (.string bytes) => bytes.length + 1
  | .lit _ => 1
  | .nil => 1
  | .ptr d => uptoBulk d + 1
  | .slice elems spare => uptoBulkAll elems + uptoBulkAll spare + 1
  | .agg parts => uptoBulkAll parts + 1
  | .iface _ d => uptoBulk d + 1
  | .map entries => uptoBulkEntries entries + 1
  | .held _ => 1
def uptoBulkAll {H : Type} : List (DataW H) → Nat
  | [] => 0
  | d :: r => uptoBulk d + uptoBulkAll r
def uptoBulkEntries {H : Type} : List (Lit × DataW H) → Nat
  | [] => 0
  | x :: r => uptoBulkEntry x + uptoBulkEntries r
def uptoBulkEntry {H : Type} : Lit × DataW H → Nat
  | (.string bytes, d) => bytes.length + uptoBulk d + 1
  | (_, d) => uptoBulk d + 1
 end
def uptoSmall : (H : Type) → List (DataW H) → Bool := fun _ ds => decide (uptoBulkAll ds ≤ 1048576)
def OpenSpec.upto (s : _root_.Go.ChangeSpec) : _root_.Go.OpenSpec := { _root_.Go.OpenSpec.ofChange s with cond := some uptoSmall }

/-- 'lidarlaw06.MeshDelaunay', WHERE WHAT IT READS IS OF BULK AT MOST 1048576: true; the input reads as it did. -/
def meshDelaunayUptoRow : OpenClaim := { program := "ytgfiafnelibjgaagreat", sum := "dbe8491555d0049198e66ce45589d5617c21df09819de0655535bfe39a7ba277", func := "lidar/lidarlaw06.MeshDelaunay", spec := "meshDelaunay", unfollowed := true, recurses := true, plainKeys := false, apart := false, narrowed := true }
def MeshDelaunayUptoSaid : Prop := meshDelaunayUptoRow.holds Tryz.pinned (OpenSpec.upto meshDelaunaySpec)

/-- 'lidarlaw06.MeshInserts', WHERE WHAT IT READS IS OF BULK AT MOST 1048576: true; the input reads as it did. -/
def meshInsertsUptoRow : OpenClaim := { program := "ytgfiafnelibjgaagreat", sum := "dbe8491555d0049198e66ce45589d5617c21df09819de0655535bfe39a7ba277", func := "lidar/lidarlaw06.MeshInserts", spec := "meshInserts", unfollowed := true, recurses := true, plainKeys := false, apart := false, narrowed := true }
def MeshInsertsUptoSaid : Prop := meshInsertsUptoRow.holds Tryz.pinned (OpenSpec.upto meshInsertsSpec)

/-- 'lidarlaw06.MeshChecks', WHERE WHAT IT READS IS OF BULK AT MOST 1048576: true; the input reads as it did. -/
def meshChecksUptoRow : OpenClaim := { program := "ytgfiafnelibjgaagreat", sum := "dbe8491555d0049198e66ce45589d5617c21df09819de0655535bfe39a7ba277", func := "lidar/lidarlaw06.MeshChecks", spec := "meshChecks", unfollowed := true, recurses := true, plainKeys := false, apart := false, narrowed := true }
def MeshChecksUptoSaid : Prop := meshChecksUptoRow.holds Tryz.pinned (OpenSpec.upto meshChecksSpec)

/-- 'lidartop.TopOneMesh', WHERE WHAT IT READS IS OF BULK AT MOST 1048576: true; the input reads as it did. -/
def topOneMeshUptoRow : OpenClaim := { program := "ytgfiafnelibjgaagreat", sum := "dbe8491555d0049198e66ce45589d5617c21df09819de0655535bfe39a7ba277", func := "lidar/lidartop.TopOneMesh", spec := "topOneMesh", unfollowed := true, recurses := true, plainKeys := false, apart := false, narrowed := true }
def TopOneMeshUptoSaid : Prop := topOneMeshUptoRow.holds Tryz.pinned (OpenSpec.upto topOneMeshSpec)

/-- 'lidarlaw06.MeshSides', WHERE WHAT IT READS IS OF BULK AT MOST 1048576: true; the input reads as it did. -/
def meshSidesUptoRow : OpenClaim := { program := "ytgfiafnelibjgaagreat", sum := "dbe8491555d0049198e66ce45589d5617c21df09819de0655535bfe39a7ba277", func := "lidar/lidarlaw06.MeshSides", spec := "meshSides", unfollowed := true, recurses := true, plainKeys := false, apart := false, narrowed := true }
def MeshSidesUptoSaid : Prop := meshSidesUptoRow.holds Tryz.pinned (OpenSpec.upto meshSidesSpec)

/-- 'lidarlaw06.MeshFinds', WHERE WHAT IT READS IS OF BULK AT MOST 1048576: true; the input reads as it did. -/
def meshFindsUptoRow : OpenClaim := { program := "ytgfiafnelibjgaagreat", sum := "dbe8491555d0049198e66ce45589d5617c21df09819de0655535bfe39a7ba277", func := "lidar/lidarlaw06.MeshFinds", spec := "meshFinds", unfollowed := true, recurses := true, plainKeys := false, apart := false, narrowed := true }
def MeshFindsUptoSaid : Prop := meshFindsUptoRow.holds Tryz.pinned (OpenSpec.upto meshFindsSpec)

end Rows
end Go.Proofs.YtgfiafnelibjgaaGreat
