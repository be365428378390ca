/-
  No cell of these rows narrows 'for every input' (looked for: loops, veiled, ifaces, maps, wideKeys, modest, calm, conditions, laid).
  DERIVED. THE GIVEN ROWS OF THIS SEAT. 5 by the template 'for every input the law returns true; each argument reads behind the call as it read before'; 0 by the template 'total and deterministic' (their statements: YtdkjcoonmgjpfaaTotals.lean).
  GIVEN WITH THE SEED: the statements are not yours to turn. If you find one false, say at which input.
  Laid BY PROGRAM, IN A SANDBOX (cutbox-rows.mjs): the forced cells as the released guide's own fill.sh prints them over the translation 25f4879876292ef5… (all of the seat's roots in one cut). By AI agents, Wed Nov 11 2026. No macro, syntax, notation, axiom, sorry.
-/
import Derived.Test.YtdkjcoonmgjpfaaChecked
import GoSem.Claim
import GoSem.ClaimJoined
import GoSem.ClaimMapViews
import Derived.JoinedTies
import Derived.KernelRfl
namespace Go.Proofs.Ytdkjcoonmgjpfaa
/- THE CELL 'sum', in the pinned program and in every row, IS THE sha256 OF THE DUMP (.gsa) THAT YtdkjcoonmgjpfaaProg.lean LOADS. Nothing in Lean hashes anything: it is a label: what it is worth is what the hold of that sum in a sandbox is worth. -/
noncomputable def Try.pinned : Pinned := { name := "ytdkjcoonmgjpfaa", sum := "25f4879876292ef50dc9b30f97b8a347b4280a160f3052e4df23356dc1a18721", checked := Try.checked }
namespace Rows
def none {H : Type} : Left H := { results := [], args := [] }

/-- 'lidarlaw07.LabelWithin': WHATEVER THE INPUT: true; the input reads as it did. -/
def labelWithinSpec : ChangeSpec := { name := "labelWithin", fn := fun _ => fun
  | [d1, d2] => { results := [.lit (.bool true)], args := [d1, d2] }
  | _ => none }
def labelWithinRow : OpenClaim := { program := "ytdkjcoonmgjpfaa", sum := "25f4879876292ef50dc9b30f97b8a347b4280a160f3052e4df23356dc1a18721", func := "lidar/lidarlaw07.LabelWithin", spec := "labelWithin", unfollowed := true, recurses := true, plainKeys := false, apart := false }
def LabelWithinSaid : Prop := labelWithinRow.holds Try.pinned (OpenSpec.ofChange labelWithinSpec)

/-- ITS FALSE NEIGHBOUR: 'it returns false'. Refute it at one input. -/
def labelWithinWrong : ChangeSpec := { name := "labelWithin", fn := fun _ => fun
  | [d1, d2] => { results := [.lit (.bool false)], args := [d1, d2] }
  | _ => none }
def LabelWithinWrongFalsely : Prop := labelWithinRow.holds Try.pinned (OpenSpec.ofChange labelWithinWrong)

/-- 'lidarlaw07.LabelRings': WHATEVER THE INPUT: true; the input reads as it did. -/
def labelRingsSpec : ChangeSpec := { name := "labelRings", fn := fun _ => fun
  | [d1, d2, d3] => { results := [.lit (.bool true)], args := [d1, d2, d3] }
  | _ => none }
def labelRingsRow : OpenClaim := { program := "ytdkjcoonmgjpfaa", sum := "25f4879876292ef50dc9b30f97b8a347b4280a160f3052e4df23356dc1a18721", func := "lidar/lidarlaw07.LabelRings", spec := "labelRings", unfollowed := true, recurses := true, plainKeys := false, apart := false }
def LabelRingsSaid : Prop := labelRingsRow.holds Try.pinned (OpenSpec.ofChange labelRingsSpec)

/-- ITS FALSE NEIGHBOUR: 'it returns false'. Refute it at one input. -/
def labelRingsWrong : ChangeSpec := { name := "labelRings", fn := fun _ => fun
  | [d1, d2, d3] => { results := [.lit (.bool false)], args := [d1, d2, d3] }
  | _ => none }
def LabelRingsWrongFalsely : Prop := labelRingsRow.holds Try.pinned (OpenSpec.ofChange labelRingsWrong)

/-- 'lidarlaw07.LabelPoints': WHATEVER THE INPUT: true; the input reads as it did. -/
def labelPointsSpec : ChangeSpec := { name := "labelPoints", fn := fun _ => fun
  | [d1, d2] => { results := [.lit (.bool true)], args := [d1, d2] }
  | _ => none }
def labelPointsRow : OpenClaim := { program := "ytdkjcoonmgjpfaa", sum := "25f4879876292ef50dc9b30f97b8a347b4280a160f3052e4df23356dc1a18721", func := "lidar/lidarlaw07.LabelPoints", spec := "labelPoints", unfollowed := true, recurses := true, plainKeys := false, apart := false }
def LabelPointsSaid : Prop := labelPointsRow.holds Try.pinned (OpenSpec.ofChange labelPointsSpec)

/-- ITS FALSE NEIGHBOUR: 'it returns false'. Refute it at one input. -/
def labelPointsWrong : ChangeSpec := { name := "labelPoints", fn := fun _ => fun
  | [d1, d2] => { results := [.lit (.bool false)], args := [d1, d2] }
  | _ => none }
def LabelPointsWrongFalsely : Prop := labelPointsRow.holds Try.pinned (OpenSpec.ofChange labelPointsWrong)

/-- 'lidarlaw07.LabelCorrects': WHATEVER THE INPUT: true; the input reads as it did. -/
def labelCorrectsSpec : ChangeSpec := { name := "labelCorrects", fn := fun _ => fun
  | [d1, d2, d3] => { results := [.lit (.bool true)], args := [d1, d2, d3] }
  | _ => none }
def labelCorrectsRow : OpenClaim := { program := "ytdkjcoonmgjpfaa", sum := "25f4879876292ef50dc9b30f97b8a347b4280a160f3052e4df23356dc1a18721", func := "lidar/lidarlaw07.LabelCorrects", spec := "labelCorrects", unfollowed := true, recurses := true, plainKeys := false, apart := false }
def LabelCorrectsSaid : Prop := labelCorrectsRow.holds Try.pinned (OpenSpec.ofChange labelCorrectsSpec)

/-- ITS FALSE NEIGHBOUR: 'it returns false'. Refute it at one input. -/
def labelCorrectsWrong : ChangeSpec := { name := "labelCorrects", fn := fun _ => fun
  | [d1, d2, d3] => { results := [.lit (.bool false)], args := [d1, d2, d3] }
  | _ => none }
def LabelCorrectsWrongFalsely : Prop := labelCorrectsRow.holds Try.pinned (OpenSpec.ofChange labelCorrectsWrong)

/-- 'lidarlaw07.LabelSplits': WHATEVER THE INPUT: true; the input reads as it did. -/
def labelSplitsSpec : ChangeSpec := { name := "labelSplits", fn := fun _ => fun
  | [d] => { results := [.lit (.bool true)], args := [d] }
  | _ => none }
def labelSplitsRow : OpenClaim := { program := "ytdkjcoonmgjpfaa", sum := "25f4879876292ef50dc9b30f97b8a347b4280a160f3052e4df23356dc1a18721", func := "lidar/lidarlaw07.LabelSplits", spec := "labelSplits", unfollowed := true, recurses := true, plainKeys := false, apart := false }
def LabelSplitsSaid : Prop := labelSplitsRow.holds Try.pinned (OpenSpec.ofChange labelSplitsSpec)

/-- ITS FALSE NEIGHBOUR: 'it returns false'. Refute it at one input. -/
def labelSplitsWrong : ChangeSpec := { name := "labelSplits", fn := fun _ => fun
  | [d] => { results := [.lit (.bool false)], args := [d] }
  | _ => none }
def LabelSplitsWrongFalsely : Prop := labelSplitsRow.holds Try.pinned (OpenSpec.ofChange labelSplitsWrong)

/- THE SECOND FORM. 'bulk': how many values and letters a reading holds, each counted each time it is reached (what is shared counts as often as it is met; a slice's spare places count too). A statement '..UptoSaid' is the law's where the arguments, and the package variables that the reading takes, are together of bulk at most 1048576: NARROWER than '..Said'. Prove '..Said' where nothing that the law and all that it calls make is longer than what came in: it says more and counts as full. Else prove '..UptoSaid'. A law counts once. -/
mutual
def uptoBulk {H : Type} : DataW H → Nat
  | .lit (.string bytes) => bytes.length + 1
  | .lit _ => 1
  | .nil => 1
  | .ptr d => uptoBulk d + 1
  | .slice elems spare => uptoBulkAll elems + uptoBulkAll spare + 1
  | .agg parts => uptoBulkAll parts + 1
  | .iface _ d => uptoBulk d + 1
  | .map entries => uptoBulkEntries entries + 1
  | .held _ => 1
def uptoBulkAll {H : Type} : List (DataW H) → Nat
  | [] => 0
  | d :: r => uptoBulk d + uptoBulkAll r
def uptoBulkEntries {H : Type} : List (Lit × DataW H) → Nat
  | [] => 0
  | x :: r => uptoBulkEntry x + uptoBulkEntries r
def uptoBulkEntry {H : Type} : Lit × DataW H → Nat
  | (.string bytes, d) => bytes.length + uptoBulk d + 1
  | (_, d) => uptoBulk d + 1
 end
def uptoSmall : (H : Type) → List (DataW H) → Bool := fun _ ds => decide (uptoBulkAll ds ≤ 1048576)
def OpenSpec.upto (s : _root_.Go.ChangeSpec) : _root_.Go.OpenSpec := { _root_.Go.OpenSpec.ofChange s with cond := some uptoSmall }

/-- 'lidarlaw07.LabelWithin', WHERE WHAT IT READS IS OF BULK AT MOST 1048576: true; the input reads as it did. -/
def labelWithinUptoRow : OpenClaim := { program := "ytdkjcoonmgjpfaa", sum := "25f4879876292ef50dc9b30f97b8a347b4280a160f3052e4df23356dc1a18721", func := "lidar/lidarlaw07.LabelWithin", spec := "labelWithin", unfollowed := true, recurses := true, plainKeys := false, apart := false, narrowed := true }
def LabelWithinUptoSaid : Prop := labelWithinUptoRow.holds Try.pinned (OpenSpec.upto labelWithinSpec)

/-- 'lidarlaw07.LabelRings', WHERE WHAT IT READS IS OF BULK AT MOST 1048576: true; the input reads as it did. -/
def labelRingsUptoRow : OpenClaim := { program := "ytdkjcoonmgjpfaa", sum := "25f4879876292ef50dc9b30f97b8a347b4280a160f3052e4df23356dc1a18721", func := "lidar/lidarlaw07.LabelRings", spec := "labelRings", unfollowed := true, recurses := true, plainKeys := false, apart := false, narrowed := true }
def LabelRingsUptoSaid : Prop := labelRingsUptoRow.holds Try.pinned (OpenSpec.upto labelRingsSpec)

/-- 'lidarlaw07.LabelPoints', WHERE WHAT IT READS IS OF BULK AT MOST 1048576: true; the input reads as it did. -/
def labelPointsUptoRow : OpenClaim := { program := "ytdkjcoonmgjpfaa", sum := "25f4879876292ef50dc9b30f97b8a347b4280a160f3052e4df23356dc1a18721", func := "lidar/lidarlaw07.LabelPoints", spec := "labelPoints", unfollowed := true, recurses := true, plainKeys := false, apart := false, narrowed := true }
def LabelPointsUptoSaid : Prop := labelPointsUptoRow.holds Try.pinned (OpenSpec.upto labelPointsSpec)

/-- 'lidarlaw07.LabelCorrects', WHERE WHAT IT READS IS OF BULK AT MOST 1048576: true; the input reads as it did. -/
def labelCorrectsUptoRow : OpenClaim := { program := "ytdkjcoonmgjpfaa", sum := "25f4879876292ef50dc9b30f97b8a347b4280a160f3052e4df23356dc1a18721", func := "lidar/lidarlaw07.LabelCorrects", spec := "labelCorrects", unfollowed := true, recurses := true, plainKeys := false, apart := false, narrowed := true }
def LabelCorrectsUptoSaid : Prop := labelCorrectsUptoRow.holds Try.pinned (OpenSpec.upto labelCorrectsSpec)

/-- 'lidarlaw07.LabelSplits', WHERE WHAT IT READS IS OF BULK AT MOST 1048576: true; the input reads as it did. -/
def labelSplitsUptoRow : OpenClaim := { program := "ytdkjcoonmgjpfaa", sum := "25f4879876292ef50dc9b30f97b8a347b4280a160f3052e4df23356dc1a18721", func := "lidar/lidarlaw07.LabelSplits", spec := "labelSplits", unfollowed := true, recurses := true, plainKeys := false, apart := false, narrowed := true }
def LabelSplitsUptoSaid : Prop := labelSplitsUptoRow.holds Try.pinned (OpenSpec.upto labelSplitsSpec)

end Rows
end Go.Proofs.Ytdkjcoonmgjpfaa
