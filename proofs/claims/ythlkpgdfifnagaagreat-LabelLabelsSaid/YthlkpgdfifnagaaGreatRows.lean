/-
  No cell of these rows narrows 'for every input' (looked for: loops, veiled, ifaces, maps, wideKeys, modest, calm, conditions, laid).
  DERIVED. THE GIVEN ROWS OF THIS SEAT. 6 by the template 'for every input the law returns true; each argument reads behind the call as it read before'; 0 by the template 'total and deterministic' (their statements: YthlkpgdfifnagaaGreatTotals.lean).
  GIVEN WITH THE SEED: the statements are not yours to turn. If you find one false, say at which input.
  Laid BY PROGRAM, IN A SANDBOX (cutbox-rows.mjs): the forced cells as the released guide's own fill.sh prints them over the translation e47ea85183c7e05c… (all of the seat's roots in one cut). By AI agents, Wed Nov 11 2026. No macro, syntax, notation, axiom, sorry.
-/
import Derived.Test.YthlkpgdfifnagaaGreatChecked
import GoSem.Claim
import GoSem.ClaimJoined
import GoSem.ClaimMapViews
import Derived.JoinedTies
import Derived.KernelRfl
namespace Go.Proofs.YthlkpgdfifnagaaGreat
/- THE CELL 'sum', in the pinned program and in every row, IS THE sha256 OF THE DUMP (.gsa) THAT YthlkpgdfifnagaaGreatProg.lean LOADS. Nothing in Lean hashes anything: it is a label: what it is worth is what the hold of that sum in a sandbox is worth. -/
noncomputable def Tryz.pinned : Pinned := { name := "ythlkpgdfifnagaagreat", sum := "e47ea85183c7e05c0bb94166ba3a076c105d1795531c4bc6f8a6878848f2783d", checked := Tryz.checked }
namespace Rows
def none {H : Type} : Left H := { results := [], args := [] }

/-- 'lidarlaw07.LabelFits': WHATEVER THE INPUT: true; the input reads as it did. -/
def labelFitsSpec : ChangeSpec := { name := "labelFits", fn := fun _ => fun
  | [d1, d2, d3] => { results := [.lit (.bool true)], args := [d1, d2, d3] }
  | _ => none }
def labelFitsRow : OpenClaim := { program := "ythlkpgdfifnagaagreat", sum := "e47ea85183c7e05c0bb94166ba3a076c105d1795531c4bc6f8a6878848f2783d", func := "lidar/lidarlaw07.LabelFits", spec := "labelFits", inPlace := ["math/bits.Add64"], unfollowed := true, recurses := true, named := ["math/bits.divideError", "math/bits.overflowError"], plainKeys := false, apart := false }
def LabelFitsSaid : Prop := labelFitsRow.holds Tryz.pinned (OpenSpec.ofChange labelFitsSpec)

/-- ITS FALSE NEIGHBOUR: 'it returns false'. Refute it at one input. -/
def labelFitsWrong : ChangeSpec := { name := "labelFits", fn := fun _ => fun
  | [d1, d2, d3] => { results := [.lit (.bool false)], args := [d1, d2, d3] }
  | _ => none }
def LabelFitsWrongFalsely : Prop := labelFitsRow.holds Tryz.pinned (OpenSpec.ofChange labelFitsWrong)

/-- 'lidarlaw07.LabelGrows': WHATEVER THE INPUT: true; the input reads as it did. -/
def labelGrowsSpec : ChangeSpec := { name := "labelGrows", fn := fun _ => fun
  | [d1, d2, d3] => { results := [.lit (.bool true)], args := [d1, d2, d3] }
  | _ => none }
def labelGrowsRow : OpenClaim := { program := "ythlkpgdfifnagaagreat", sum := "e47ea85183c7e05c0bb94166ba3a076c105d1795531c4bc6f8a6878848f2783d", func := "lidar/lidarlaw07.LabelGrows", spec := "labelGrows", inPlace := ["math/bits.Add64"], unfollowed := true, recurses := true, named := ["math/bits.divideError", "math/bits.overflowError"], plainKeys := false, apart := false }
def LabelGrowsSaid : Prop := labelGrowsRow.holds Tryz.pinned (OpenSpec.ofChange labelGrowsSpec)

/-- ITS FALSE NEIGHBOUR: 'it returns false'. Refute it at one input. -/
def labelGrowsWrong : ChangeSpec := { name := "labelGrows", fn := fun _ => fun
  | [d1, d2, d3] => { results := [.lit (.bool false)], args := [d1, d2, d3] }
  | _ => none }
def LabelGrowsWrongFalsely : Prop := labelGrowsRow.holds Tryz.pinned (OpenSpec.ofChange labelGrowsWrong)

/-- 'lidarlaw07.LabelGrounds': WHATEVER THE INPUT: true; the input reads as it did. -/
def labelGroundsSpec : ChangeSpec := { name := "labelGrounds", fn := fun _ => fun
  | [d1, d2] => { results := [.lit (.bool true)], args := [d1, d2] }
  | _ => none }
def labelGroundsRow : OpenClaim := { program := "ythlkpgdfifnagaagreat", sum := "e47ea85183c7e05c0bb94166ba3a076c105d1795531c4bc6f8a6878848f2783d", func := "lidar/lidarlaw07.LabelGrounds", spec := "labelGrounds", inPlace := ["math/bits.Add64"], unfollowed := true, recurses := true, named := ["math/bits.divideError", "math/bits.overflowError"], plainKeys := false, apart := false }
def LabelGroundsSaid : Prop := labelGroundsRow.holds Tryz.pinned (OpenSpec.ofChange labelGroundsSpec)

/-- ITS FALSE NEIGHBOUR: 'it returns false'. Refute it at one input. -/
def labelGroundsWrong : ChangeSpec := { name := "labelGrounds", fn := fun _ => fun
  | [d1, d2] => { results := [.lit (.bool false)], args := [d1, d2] }
  | _ => none }
def LabelGroundsWrongFalsely : Prop := labelGroundsRow.holds Tryz.pinned (OpenSpec.ofChange labelGroundsWrong)

/-- 'lidarlaw07.LabelRoofs': WHATEVER THE INPUT: true; the input reads as it did. -/
def labelRoofsSpec : ChangeSpec := { name := "labelRoofs", fn := fun _ => fun
  | [d1, d2, d3] => { results := [.lit (.bool true)], args := [d1, d2, d3] }
  | _ => none }
def labelRoofsRow : OpenClaim := { program := "ythlkpgdfifnagaagreat", sum := "e47ea85183c7e05c0bb94166ba3a076c105d1795531c4bc6f8a6878848f2783d", func := "lidar/lidarlaw07.LabelRoofs", spec := "labelRoofs", inPlace := ["math/bits.Add64"], unfollowed := true, recurses := true, named := ["math/bits.divideError", "math/bits.overflowError"], plainKeys := false, apart := false }
def LabelRoofsSaid : Prop := labelRoofsRow.holds Tryz.pinned (OpenSpec.ofChange labelRoofsSpec)

/-- ITS FALSE NEIGHBOUR: 'it returns false'. Refute it at one input. -/
def labelRoofsWrong : ChangeSpec := { name := "labelRoofs", fn := fun _ => fun
  | [d1, d2, d3] => { results := [.lit (.bool false)], args := [d1, d2, d3] }
  | _ => none }
def LabelRoofsWrongFalsely : Prop := labelRoofsRow.holds Tryz.pinned (OpenSpec.ofChange labelRoofsWrong)

/-- 'lidarlaw07.LabelClassifies': WHATEVER THE INPUT: true; the input reads as it did. -/
def labelClassifiesSpec : ChangeSpec := { name := "labelClassifies", fn := fun _ => fun
  | [d1, d2] => { results := [.lit (.bool true)], args := [d1, d2] }
  | _ => none }
def labelClassifiesRow : OpenClaim := { program := "ythlkpgdfifnagaagreat", sum := "e47ea85183c7e05c0bb94166ba3a076c105d1795531c4bc6f8a6878848f2783d", func := "lidar/lidarlaw07.LabelClassifies", spec := "labelClassifies", inPlace := ["math/bits.Add64"], unfollowed := true, recurses := true, named := ["math/bits.divideError", "math/bits.overflowError"], plainKeys := false, apart := false }
def LabelClassifiesSaid : Prop := labelClassifiesRow.holds Tryz.pinned (OpenSpec.ofChange labelClassifiesSpec)

/-- ITS FALSE NEIGHBOUR: 'it returns false'. Refute it at one input. -/
def labelClassifiesWrong : ChangeSpec := { name := "labelClassifies", fn := fun _ => fun
  | [d1, d2] => { results := [.lit (.bool false)], args := [d1, d2] }
  | _ => none }
def LabelClassifiesWrongFalsely : Prop := labelClassifiesRow.holds Tryz.pinned (OpenSpec.ofChange labelClassifiesWrong)

/-- 'lidarlaw07.LabelLabels': WHATEVER THE INPUT: true; the input reads as it did. -/
def labelLabelsSpec : ChangeSpec := { name := "labelLabels", fn := fun _ => fun
  | [d1, d2, d3] => { results := [.lit (.bool true)], args := [d1, d2, d3] }
  | _ => none }
def labelLabelsRow : OpenClaim := { program := "ythlkpgdfifnagaagreat", sum := "e47ea85183c7e05c0bb94166ba3a076c105d1795531c4bc6f8a6878848f2783d", func := "lidar/lidarlaw07.LabelLabels", spec := "labelLabels", inPlace := ["math/bits.Add64"], unfollowed := true, recurses := true, named := ["math/bits.divideError", "math/bits.overflowError"], plainKeys := false, apart := false }
def LabelLabelsSaid : Prop := labelLabelsRow.holds Tryz.pinned (OpenSpec.ofChange labelLabelsSpec)

/-- ITS FALSE NEIGHBOUR: 'it returns false'. Refute it at one input. -/
def labelLabelsWrong : ChangeSpec := { name := "labelLabels", fn := fun _ => fun
  | [d1, d2, d3] => { results := [.lit (.bool false)], args := [d1, d2, d3] }
  | _ => none }
def LabelLabelsWrongFalsely : Prop := labelLabelsRow.holds Tryz.pinned (OpenSpec.ofChange labelLabelsWrong)

/- THE SECOND FORM. 'bulk': how many values and letters a reading holds, each counted each time it is reached (what is shared counts as often as it is met; a slice's spare places count too). A statement '..UptoSaid' is the law's where the arguments, and the package variables that the reading takes, are together of bulk at most 1048576: NARROWER than '..Said'. Prove '..Said' where nothing that the law and all that it calls make is longer than what came in: it says more and counts as full. Else prove '..UptoSaid'. A law counts once. -/
mutual
def uptoBulk {H : Type} : DataW H → Nat
  | .lit (.string bytes) => bytes.length + 1
  | .lit _ => 1
  | .nil => 1
  | .ptr d => uptoBulk d + 1
  | .slice elems spare => uptoBulkAll elems + uptoBulkAll spare + 1
  | .agg parts => uptoBulkAll parts + 1
  | .iface _ d => uptoBulk d + 1
  | .map entries => uptoBulkEntries entries + 1
  | .held _ => 1
def uptoBulkAll {H : Type} : List (DataW H) → Nat
  | [] => 0
  | d :: r => uptoBulk d + uptoBulkAll r
def uptoBulkEntries {H : Type} : List (Lit × DataW H) → Nat
  | [] => 0
  | x :: r => uptoBulkEntry x + uptoBulkEntries r
def uptoBulkEntry {H : Type} : Lit × DataW H → Nat
  | (.string bytes, d) => bytes.length + uptoBulk d + 1
  | (_, d) => uptoBulk d + 1
 end
def uptoSmall : (H : Type) → List (DataW H) → Bool := fun _ ds => decide (uptoBulkAll ds ≤ 1048576)
def OpenSpec.upto (s : _root_.Go.ChangeSpec) : _root_.Go.OpenSpec := { _root_.Go.OpenSpec.ofChange s with cond := some uptoSmall }

/-- 'lidarlaw07.LabelFits', WHERE WHAT IT READS IS OF BULK AT MOST 1048576: true; the input reads as it did. -/
def labelFitsUptoRow : OpenClaim := { program := "ythlkpgdfifnagaagreat", sum := "e47ea85183c7e05c0bb94166ba3a076c105d1795531c4bc6f8a6878848f2783d", func := "lidar/lidarlaw07.LabelFits", spec := "labelFits", inPlace := ["math/bits.Add64"], unfollowed := true, recurses := true, named := ["math/bits.divideError", "math/bits.overflowError"], plainKeys := false, apart := false, narrowed := true }
def LabelFitsUptoSaid : Prop := labelFitsUptoRow.holds Tryz.pinned (OpenSpec.upto labelFitsSpec)

/-- 'lidarlaw07.LabelGrows', WHERE WHAT IT READS IS OF BULK AT MOST 1048576: true; the input reads as it did. -/
def labelGrowsUptoRow : OpenClaim := { program := "ythlkpgdfifnagaagreat", sum := "e47ea85183c7e05c0bb94166ba3a076c105d1795531c4bc6f8a6878848f2783d", func := "lidar/lidarlaw07.LabelGrows", spec := "labelGrows", inPlace := ["math/bits.Add64"], unfollowed := true, recurses := true, named := ["math/bits.divideError", "math/bits.overflowError"], plainKeys := false, apart := false, narrowed := true }
def LabelGrowsUptoSaid : Prop := labelGrowsUptoRow.holds Tryz.pinned (OpenSpec.upto labelGrowsSpec)

/-- 'lidarlaw07.LabelGrounds', WHERE WHAT IT READS IS OF BULK AT MOST 1048576: true; the input reads as it did. -/
def labelGroundsUptoRow : OpenClaim := { program := "ythlkpgdfifnagaagreat", sum := "e47ea85183c7e05c0bb94166ba3a076c105d1795531c4bc6f8a6878848f2783d", func := "lidar/lidarlaw07.LabelGrounds", spec := "labelGrounds", inPlace := ["math/bits.Add64"], unfollowed := true, recurses := true, named := ["math/bits.divideError", "math/bits.overflowError"], plainKeys := false, apart := false, narrowed := true }
def LabelGroundsUptoSaid : Prop := labelGroundsUptoRow.holds Tryz.pinned (OpenSpec.upto labelGroundsSpec)

/-- 'lidarlaw07.LabelRoofs', WHERE WHAT IT READS IS OF BULK AT MOST 1048576: true; the input reads as it did. -/
def labelRoofsUptoRow : OpenClaim := { program := "ythlkpgdfifnagaagreat", sum := "e47ea85183c7e05c0bb94166ba3a076c105d1795531c4bc6f8a6878848f2783d", func := "lidar/lidarlaw07.LabelRoofs", spec := "labelRoofs", inPlace := ["math/bits.Add64"], unfollowed := true, recurses := true, named := ["math/bits.divideError", "math/bits.overflowError"], plainKeys := false, apart := false, narrowed := true }
def LabelRoofsUptoSaid : Prop := labelRoofsUptoRow.holds Tryz.pinned (OpenSpec.upto labelRoofsSpec)

/-- 'lidarlaw07.LabelClassifies', WHERE WHAT IT READS IS OF BULK AT MOST 1048576: true; the input reads as it did. -/
def labelClassifiesUptoRow : OpenClaim := { program := "ythlkpgdfifnagaagreat", sum := "e47ea85183c7e05c0bb94166ba3a076c105d1795531c4bc6f8a6878848f2783d", func := "lidar/lidarlaw07.LabelClassifies", spec := "labelClassifies", inPlace := ["math/bits.Add64"], unfollowed := true, recurses := true, named := ["math/bits.divideError", "math/bits.overflowError"], plainKeys := false, apart := false, narrowed := true }
def LabelClassifiesUptoSaid : Prop := labelClassifiesUptoRow.holds Tryz.pinned (OpenSpec.upto labelClassifiesSpec)

/-- 'lidarlaw07.LabelLabels', WHERE WHAT IT READS IS OF BULK AT MOST 1048576: true; the input reads as it did. -/
def labelLabelsUptoRow : OpenClaim := { program := "ythlkpgdfifnagaagreat", sum := "e47ea85183c7e05c0bb94166ba3a076c105d1795531c4bc6f8a6878848f2783d", func := "lidar/lidarlaw07.LabelLabels", spec := "labelLabels", inPlace := ["math/bits.Add64"], unfollowed := true, recurses := true, named := ["math/bits.divideError", "math/bits.overflowError"], plainKeys := false, apart := false, narrowed := true }
def LabelLabelsUptoSaid : Prop := labelLabelsUptoRow.holds Tryz.pinned (OpenSpec.upto labelLabelsSpec)

end Rows
end Go.Proofs.YthlkpgdfifnagaaGreat
