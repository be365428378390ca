/-
  No cell of these rows narrows 'for every input' (looked for: loops, veiled, ifaces, maps, wideKeys, modest, calm, conditions, laid).
  DERIVED. THE GIVEN ROWS OF THIS SEAT. 5 by the template 'for every input the law returns true; each argument reads behind the call as it read before'; 0 by the template 'total and deterministic' (their statements: YtlkgeeppfifeeaaGreatTotals.lean).
  GIVEN WITH THE SEED: the statements are not yours to turn. If you find one false, say at which input.
  Laid BY PROGRAM, IN A SANDBOX (cutbox-rows.mjs): the forced cells as the released guide's own fill.sh prints them over the translation 27c5a9a0d55adfc1… (all of the seat's roots in one cut). By AI agents, Wed Nov 11 2026. No macro, syntax, notation, axiom, sorry.
-/
import Derived.Test.YtlkgeeppfifeeaaGreatChecked
import GoSem.Claim
import GoSem.ClaimJoined
import GoSem.ClaimMapViews
import Derived.JoinedTies
import Derived.KernelRfl
namespace Go.Proofs.YtlkgeeppfifeeaaGreat
/- THE CELL 'sum', in the pinned program and in every row, IS THE sha256 OF THE DUMP (.gsa) THAT YtlkgeeppfifeeaaGreatProg.lean LOADS. Nothing in Lean hashes anything: it is a label: what it is worth is what the hold of that sum in a sandbox is worth. -/
noncomputable def Tryz.pinned : Pinned := { name := "ytlkgeeppfifeeaagreat", sum := "27c5a9a0d55adfc1b8293d511eb38b0e599337617cdc260e44e0b00d5c10c56a", checked := Tryz.checked }
namespace Rows
def none {H : Type} : Left H := { results := [], args := [] }

/-- 'lidarlaw06.MeshDelaunay': WHATEVER THE INPUT: true; the input reads as it did. -/
def meshDelaunaySpec : ChangeSpec := { name := "meshDelaunay", fn := fun _ => fun
  | [d] => { results := [.lit (.bool true)], args := [d] }
  | _ => none }
def meshDelaunayRow : OpenClaim := { program := "ytlkgeeppfifeeaagreat", sum := "27c5a9a0d55adfc1b8293d511eb38b0e599337617cdc260e44e0b00d5c10c56a", func := "lidar/lidarlaw06.MeshDelaunay", spec := "meshDelaunay", unfollowed := true, recurses := true, plainKeys := false, apart := false }
def MeshDelaunaySaid : Prop := meshDelaunayRow.holds Tryz.pinned (OpenSpec.ofChange meshDelaunaySpec)

/-- ITS FALSE NEIGHBOUR: 'it returns false'. Refute it at one input. -/
def meshDelaunayWrong : ChangeSpec := { name := "meshDelaunay", fn := fun _ => fun
  | [d] => { results := [.lit (.bool false)], args := [d] }
  | _ => none }
def MeshDelaunayWrongFalsely : Prop := meshDelaunayRow.holds Tryz.pinned (OpenSpec.ofChange meshDelaunayWrong)

/-- 'lidarlaw06.MeshLegal': WHATEVER THE INPUT: true; the input reads as it did. -/
def meshLegalSpec : ChangeSpec := { name := "meshLegal", fn := fun _ => fun
  | [d] => { results := [.lit (.bool true)], args := [d] }
  | _ => none }
def meshLegalRow : OpenClaim := { program := "ytlkgeeppfifeeaagreat", sum := "27c5a9a0d55adfc1b8293d511eb38b0e599337617cdc260e44e0b00d5c10c56a", func := "lidar/lidarlaw06.MeshLegal", spec := "meshLegal", unfollowed := true, recurses := true, plainKeys := false, apart := false }
def MeshLegalSaid : Prop := meshLegalRow.holds Tryz.pinned (OpenSpec.ofChange meshLegalSpec)

/-- ITS FALSE NEIGHBOUR: 'it returns false'. Refute it at one input. -/
def meshLegalWrong : ChangeSpec := { name := "meshLegal", fn := fun _ => fun
  | [d] => { results := [.lit (.bool false)], args := [d] }
  | _ => none }
def MeshLegalWrongFalsely : Prop := meshLegalRow.holds Tryz.pinned (OpenSpec.ofChange meshLegalWrong)

/-- 'lidarlaw06.MeshBuilds': WHATEVER THE INPUT: true; the input reads as it did. -/
def meshBuildsSpec : ChangeSpec := { name := "meshBuilds", fn := fun _ => fun
  | [d] => { results := [.lit (.bool true)], args := [d] }
  | _ => none }
def meshBuildsRow : OpenClaim := { program := "ytlkgeeppfifeeaagreat", sum := "27c5a9a0d55adfc1b8293d511eb38b0e599337617cdc260e44e0b00d5c10c56a", func := "lidar/lidarlaw06.MeshBuilds", spec := "meshBuilds", unfollowed := true, recurses := true, plainKeys := false, apart := false }
def MeshBuildsSaid : Prop := meshBuildsRow.holds Tryz.pinned (OpenSpec.ofChange meshBuildsSpec)

/-- ITS FALSE NEIGHBOUR: 'it returns false'. Refute it at one input. -/
def meshBuildsWrong : ChangeSpec := { name := "meshBuilds", fn := fun _ => fun
  | [d] => { results := [.lit (.bool false)], args := [d] }
  | _ => none }
def MeshBuildsWrongFalsely : Prop := meshBuildsRow.holds Tryz.pinned (OpenSpec.ofChange meshBuildsWrong)

/-- 'lidarlaw06.MeshBorders': WHATEVER THE INPUT: true; the input reads as it did. -/
def meshBordersSpec : ChangeSpec := { name := "meshBorders", fn := fun _ => fun
  | [d] => { results := [.lit (.bool true)], args := [d] }
  | _ => none }
def meshBordersRow : OpenClaim := { program := "ytlkgeeppfifeeaagreat", sum := "27c5a9a0d55adfc1b8293d511eb38b0e599337617cdc260e44e0b00d5c10c56a", func := "lidar/lidarlaw06.MeshBorders", spec := "meshBorders", unfollowed := true, recurses := true, plainKeys := false, apart := false }
def MeshBordersSaid : Prop := meshBordersRow.holds Tryz.pinned (OpenSpec.ofChange meshBordersSpec)

/-- ITS FALSE NEIGHBOUR: 'it returns false'. Refute it at one input. -/
def meshBordersWrong : ChangeSpec := { name := "meshBorders", fn := fun _ => fun
  | [d] => { results := [.lit (.bool false)], args := [d] }
  | _ => none }
def MeshBordersWrongFalsely : Prop := meshBordersRow.holds Tryz.pinned (OpenSpec.ofChange meshBordersWrong)

/-- 'lidarlaw06.MeshMany': WHATEVER THE INPUT: true; the input reads as it did. -/
def meshManySpec : ChangeSpec := { name := "meshMany", fn := fun _ => fun
  | [d1, d2, d3] => { results := [.lit (.bool true)], args := [d1, d2, d3] }
  | _ => none }
def meshManyRow : OpenClaim := { program := "ytlkgeeppfifeeaagreat", sum := "27c5a9a0d55adfc1b8293d511eb38b0e599337617cdc260e44e0b00d5c10c56a", func := "lidar/lidarlaw06.MeshMany", spec := "meshMany", unfollowed := true, recurses := true, plainKeys := false, apart := false }
def MeshManySaid : Prop := meshManyRow.holds Tryz.pinned (OpenSpec.ofChange meshManySpec)

/-- ITS FALSE NEIGHBOUR: 'it returns false'. Refute it at one input. -/
def meshManyWrong : ChangeSpec := { name := "meshMany", fn := fun _ => fun
  | [d1, d2, d3] => { results := [.lit (.bool false)], args := [d1, d2, d3] }
  | _ => none }
def MeshManyWrongFalsely : Prop := meshManyRow.holds Tryz.pinned (OpenSpec.ofChange meshManyWrong)

/- THE SECOND FORM. 'bulk': how many values and letters a reading holds, each counted each time it is reached (what is shared counts as often as it is met; a slice's spare places count too). A statement '..UptoSaid' is the law's where the arguments, and the package variables that the reading takes, are together of bulk at most 1048576: NARROWER than '..Said'. Prove '..Said' where nothing that the law and all that it calls make is longer than what came in: it says more and counts as full. Else prove '..UptoSaid'. A law counts once. -/
mutual
def uptoBulk {H : Type} : DataW H → Nat
  | .lit (.string bytes) => bytes.length + 1
  | .lit _ => 1
  | .nil => 1
  | .ptr d => uptoBulk d + 1
  | .slice elems spare => uptoBulkAll elems + uptoBulkAll spare + 1
  | .agg parts => uptoBulkAll parts + 1
  | .iface _ d => uptoBulk d + 1
  | .map entries => uptoBulkEntries entries + 1
  | .held _ => 1
def uptoBulkAll {H : Type} : List (DataW H) → Nat
  | [] => 0
  | d :: r => uptoBulk d + uptoBulkAll r
def uptoBulkEntries {H : Type} : List (Lit × DataW H) → Nat
  | [] => 0
  | x :: r => uptoBulkEntry x + uptoBulkEntries r
def uptoBulkEntry {H : Type} : Lit × DataW H → Nat
  | (.string bytes, d) => bytes.length + uptoBulk d + 1
  | (_, d) => uptoBulk d + 1
 end
def uptoSmall : (H : Type) → List (DataW H) → Bool := fun _ ds => decide (uptoBulkAll ds ≤ 1048576)
def OpenSpec.upto (s : _root_.Go.ChangeSpec) : _root_.Go.OpenSpec := { _root_.Go.OpenSpec.ofChange s with cond := some uptoSmall }

/-- 'lidarlaw06.MeshDelaunay', WHERE WHAT IT READS IS OF BULK AT MOST 1048576: true; the input reads as it did. -/
def meshDelaunayUptoRow : OpenClaim := { program := "ytlkgeeppfifeeaagreat", sum := "27c5a9a0d55adfc1b8293d511eb38b0e599337617cdc260e44e0b00d5c10c56a", func := "lidar/lidarlaw06.MeshDelaunay", spec := "meshDelaunay", unfollowed := true, recurses := true, plainKeys := false, apart := false, narrowed := true }
def MeshDelaunayUptoSaid : Prop := meshDelaunayUptoRow.holds Tryz.pinned (OpenSpec.upto meshDelaunaySpec)

/-- 'lidarlaw06.MeshLegal', WHERE WHAT IT READS IS OF BULK AT MOST 1048576: true; the input reads as it did. -/
def meshLegalUptoRow : OpenClaim := { program := "ytlkgeeppfifeeaagreat", sum := "27c5a9a0d55adfc1b8293d511eb38b0e599337617cdc260e44e0b00d5c10c56a", func := "lidar/lidarlaw06.MeshLegal", spec := "meshLegal", unfollowed := true, recurses := true, plainKeys := false, apart := false, narrowed := true }
def MeshLegalUptoSaid : Prop := meshLegalUptoRow.holds Tryz.pinned (OpenSpec.upto meshLegalSpec)

/-- 'lidarlaw06.MeshBuilds', WHERE WHAT IT READS IS OF BULK AT MOST 1048576: true; the input reads as it did. -/
def meshBuildsUptoRow : OpenClaim := { program := "ytlkgeeppfifeeaagreat", sum := "27c5a9a0d55adfc1b8293d511eb38b0e599337617cdc260e44e0b00d5c10c56a", func := "lidar/lidarlaw06.MeshBuilds", spec := "meshBuilds", unfollowed := true, recurses := true, plainKeys := false, apart := false, narrowed := true }
def MeshBuildsUptoSaid : Prop := meshBuildsUptoRow.holds Tryz.pinned (OpenSpec.upto meshBuildsSpec)

/-- 'lidarlaw06.MeshBorders', WHERE WHAT IT READS IS OF BULK AT MOST 1048576: true; the input reads as it did. -/
def meshBordersUptoRow : OpenClaim := { program := "ytlkgeeppfifeeaagreat", sum := "27c5a9a0d55adfc1b8293d511eb38b0e599337617cdc260e44e0b00d5c10c56a", func := "lidar/lidarlaw06.MeshBorders", spec := "meshBorders", unfollowed := true, recurses := true, plainKeys := false, apart := false, narrowed := true }
def MeshBordersUptoSaid : Prop := meshBordersUptoRow.holds Tryz.pinned (OpenSpec.upto meshBordersSpec)

/-- 'lidarlaw06.MeshMany', WHERE WHAT IT READS IS OF BULK AT MOST 1048576: true; the input reads as it did. -/
def meshManyUptoRow : OpenClaim := { program := "ytlkgeeppfifeeaagreat", sum := "27c5a9a0d55adfc1b8293d511eb38b0e599337617cdc260e44e0b00d5c10c56a", func := "lidar/lidarlaw06.MeshMany", spec := "meshMany", unfollowed := true, recurses := true, plainKeys := false, apart := false, narrowed := true }
def MeshManyUptoSaid : Prop := meshManyUptoRow.holds Tryz.pinned (OpenSpec.upto meshManySpec)

end Rows
end Go.Proofs.YtlkgeeppfifeeaaGreat
