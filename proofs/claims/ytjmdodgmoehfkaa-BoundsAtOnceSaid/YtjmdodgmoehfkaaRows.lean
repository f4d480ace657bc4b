/-
  No cell of these rows narrows 'for every input' (looked for: loops, veiled, ifaces, maps, wideKeys, modest, calm, conditions, laid).
  DERIVED. THE GIVEN ROWS OF THIS SEAT. 7 by the template 'for every input the law returns true; each argument reads behind the call as it read before'; 0 by the template 'total and deterministic' (their statements: YtjmdodgmoehfkaaTotals.lean).
  GIVEN WITH THE SEED: the statements are not yours to turn. If you find one false, say at which input.
  Laid BY PROGRAM, IN A SANDBOX (cutbox-rows.mjs): the forced cells as the released guide's own fill.sh prints them over the translation 98ab2c7f98c6da01… (all of the seat's roots in one cut). By AI agents, Wed Nov 11 2026. No macro, syntax, notation, axiom, sorry.
-/
import Derived.Test.YtjmdodgmoehfkaaChecked
import GoSem.Claim
import GoSem.ClaimJoined
import GoSem.ClaimMapViews
import Derived.JoinedTies
import Derived.KernelRfl
namespace Go.Proofs.Ytjmdodgmoehfkaa
/- THE CELL 'sum', in the pinned program and in every row, IS THE sha256 OF THE DUMP (.gsa) THAT YtjmdodgmoehfkaaProg.lean LOADS. Nothing in Lean hashes anything: it is a label: what it is worth is what the hold of that sum in a sandbox is worth. -/
noncomputable def Try.pinned : Pinned := { name := "ytjmdodgmoehfkaa", sum := "98ab2c7f98c6da01cff6fbf70416e593d06b0594481413644dd7991d9f0dadca", checked := Try.checked }
namespace Rows
def none {H : Type} : Left H := { results := [], args := [] }

/-- 'stopwatchlaw15.BoundsHoldsSpec': WHATEVER THE INPUT: true; the input reads as it did. -/
def boundsHoldsSpecSpec : ChangeSpec := { name := "boundsHoldsSpec", fn := fun _ => fun
  | [d1, d2] => { results := [.lit (.bool true)], args := [d1, d2] }
  | _ => none }
def boundsHoldsSpecRow : OpenClaim := { program := "ytjmdodgmoehfkaa", sum := "98ab2c7f98c6da01cff6fbf70416e593d06b0594481413644dd7991d9f0dadca", func := "stopwatch/stopwatchlaw15.BoundsHoldsSpec", spec := "boundsHoldsSpec", unfollowed := true, recurses := true, apart := false }
def BoundsHoldsSpecSaid : Prop := boundsHoldsSpecRow.holds Try.pinned (OpenSpec.ofChange boundsHoldsSpecSpec)

/-- ITS FALSE NEIGHBOUR: 'it returns false'. Refute it at one input. -/
def boundsHoldsSpecWrong : ChangeSpec := { name := "boundsHoldsSpec", fn := fun _ => fun
  | [d1, d2] => { results := [.lit (.bool false)], args := [d1, d2] }
  | _ => none }
def BoundsHoldsSpecWrongFalsely : Prop := boundsHoldsSpecRow.holds Try.pinned (OpenSpec.ofChange boundsHoldsSpecWrong)

/-- 'stopwatchlaw15.BoundsFarSpec': WHATEVER THE INPUT: true; the input reads as it did. -/
def boundsFarSpecSpec : ChangeSpec := { name := "boundsFarSpec", fn := fun _ => fun
  | [d] => { results := [.lit (.bool true)], args := [d] }
  | _ => none }
def boundsFarSpecRow : OpenClaim := { program := "ytjmdodgmoehfkaa", sum := "98ab2c7f98c6da01cff6fbf70416e593d06b0594481413644dd7991d9f0dadca", func := "stopwatch/stopwatchlaw15.BoundsFarSpec", spec := "boundsFarSpec", unfollowed := true, recurses := true, apart := false }
def BoundsFarSpecSaid : Prop := boundsFarSpecRow.holds Try.pinned (OpenSpec.ofChange boundsFarSpecSpec)

/-- ITS FALSE NEIGHBOUR: 'it returns false'. Refute it at one input. -/
def boundsFarSpecWrong : ChangeSpec := { name := "boundsFarSpec", fn := fun _ => fun
  | [d] => { results := [.lit (.bool false)], args := [d] }
  | _ => none }
def BoundsFarSpecWrongFalsely : Prop := boundsFarSpecRow.holds Try.pinned (OpenSpec.ofChange boundsFarSpecWrong)

/-- 'stopwatchlaw15.BoundsTriangle': WHATEVER THE INPUT: true; the input reads as it did. -/
def boundsTriangleSpec : ChangeSpec := { name := "boundsTriangle", fn := fun _ => fun
  | [d] => { results := [.lit (.bool true)], args := [d] }
  | _ => none }
def boundsTriangleRow : OpenClaim := { program := "ytjmdodgmoehfkaa", sum := "98ab2c7f98c6da01cff6fbf70416e593d06b0594481413644dd7991d9f0dadca", func := "stopwatch/stopwatchlaw15.BoundsTriangle", spec := "boundsTriangle", unfollowed := true, recurses := true, apart := false }
def BoundsTriangleSaid : Prop := boundsTriangleRow.holds Try.pinned (OpenSpec.ofChange boundsTriangleSpec)

/-- ITS FALSE NEIGHBOUR: 'it returns false'. Refute it at one input. -/
def boundsTriangleWrong : ChangeSpec := { name := "boundsTriangle", fn := fun _ => fun
  | [d] => { results := [.lit (.bool false)], args := [d] }
  | _ => none }
def BoundsTriangleWrongFalsely : Prop := boundsTriangleRow.holds Try.pinned (OpenSpec.ofChange boundsTriangleWrong)

/-- 'stopwatchlaw15.BoundsFewer': WHATEVER THE INPUT: true; the input reads as it did. -/
def boundsFewerSpec : ChangeSpec := { name := "boundsFewer", fn := fun _ => fun
  | [d1, d2] => { results := [.lit (.bool true)], args := [d1, d2] }
  | _ => none }
def boundsFewerRow : OpenClaim := { program := "ytjmdodgmoehfkaa", sum := "98ab2c7f98c6da01cff6fbf70416e593d06b0594481413644dd7991d9f0dadca", func := "stopwatch/stopwatchlaw15.BoundsFewer", spec := "boundsFewer", unfollowed := true, recurses := true, apart := false }
def BoundsFewerSaid : Prop := boundsFewerRow.holds Try.pinned (OpenSpec.ofChange boundsFewerSpec)

/-- ITS FALSE NEIGHBOUR: 'it returns false'. Refute it at one input. -/
def boundsFewerWrong : ChangeSpec := { name := "boundsFewer", fn := fun _ => fun
  | [d1, d2] => { results := [.lit (.bool false)], args := [d1, d2] }
  | _ => none }
def BoundsFewerWrongFalsely : Prop := boundsFewerRow.holds Try.pinned (OpenSpec.ofChange boundsFewerWrong)

/-- 'stopwatchlaw15.BoundsGreatestSpec': WHATEVER THE INPUT: true; the input reads as it did. -/
def boundsGreatestSpecSpec : ChangeSpec := { name := "boundsGreatestSpec", fn := fun _ => fun
  | [d1, d2, d3] => { results := [.lit (.bool true)], args := [d1, d2, d3] }
  | _ => none }
def boundsGreatestSpecRow : OpenClaim := { program := "ytjmdodgmoehfkaa", sum := "98ab2c7f98c6da01cff6fbf70416e593d06b0594481413644dd7991d9f0dadca", func := "stopwatch/stopwatchlaw15.BoundsGreatestSpec", spec := "boundsGreatestSpec", unfollowed := true, recurses := true, apart := false }
def BoundsGreatestSpecSaid : Prop := boundsGreatestSpecRow.holds Try.pinned (OpenSpec.ofChange boundsGreatestSpecSpec)

/-- ITS FALSE NEIGHBOUR: 'it returns false'. Refute it at one input. -/
def boundsGreatestSpecWrong : ChangeSpec := { name := "boundsGreatestSpec", fn := fun _ => fun
  | [d1, d2, d3] => { results := [.lit (.bool false)], args := [d1, d2, d3] }
  | _ => none }
def BoundsGreatestSpecWrongFalsely : Prop := boundsGreatestSpecRow.holds Try.pinned (OpenSpec.ofChange boundsGreatestSpecWrong)

/-- 'stopwatchlaw15.BoundsSolved': WHATEVER THE INPUT: true; the input reads as it did. -/
def boundsSolvedSpec : ChangeSpec := { name := "boundsSolved", fn := fun _ => fun
  | [d1, d2] => { results := [.lit (.bool true)], args := [d1, d2] }
  | _ => none }
def boundsSolvedRow : OpenClaim := { program := "ytjmdodgmoehfkaa", sum := "98ab2c7f98c6da01cff6fbf70416e593d06b0594481413644dd7991d9f0dadca", func := "stopwatch/stopwatchlaw15.BoundsSolved", spec := "boundsSolved", unfollowed := true, recurses := true, apart := false }
def BoundsSolvedSaid : Prop := boundsSolvedRow.holds Try.pinned (OpenSpec.ofChange boundsSolvedSpec)

/-- ITS FALSE NEIGHBOUR: 'it returns false'. Refute it at one input. -/
def boundsSolvedWrong : ChangeSpec := { name := "boundsSolved", fn := fun _ => fun
  | [d1, d2] => { results := [.lit (.bool false)], args := [d1, d2] }
  | _ => none }
def BoundsSolvedWrongFalsely : Prop := boundsSolvedRow.holds Try.pinned (OpenSpec.ofChange boundsSolvedWrong)

/-- 'stopwatchlaw15.BoundsAtOnce': WHATEVER THE INPUT: true; the input reads as it did. -/
def boundsAtOnceSpec : ChangeSpec := { name := "boundsAtOnce", fn := fun _ => fun
  | [d1, d2] => { results := [.lit (.bool true)], args := [d1, d2] }
  | _ => none }
def boundsAtOnceRow : OpenClaim := { program := "ytjmdodgmoehfkaa", sum := "98ab2c7f98c6da01cff6fbf70416e593d06b0594481413644dd7991d9f0dadca", func := "stopwatch/stopwatchlaw15.BoundsAtOnce", spec := "boundsAtOnce", unfollowed := true, recurses := true, apart := false }
def BoundsAtOnceSaid : Prop := boundsAtOnceRow.holds Try.pinned (OpenSpec.ofChange boundsAtOnceSpec)

/-- ITS FALSE NEIGHBOUR: 'it returns false'. Refute it at one input. -/
def boundsAtOnceWrong : ChangeSpec := { name := "boundsAtOnce", fn := fun _ => fun
  | [d1, d2] => { results := [.lit (.bool false)], args := [d1, d2] }
  | _ => none }
def BoundsAtOnceWrongFalsely : Prop := boundsAtOnceRow.holds Try.pinned (OpenSpec.ofChange boundsAtOnceWrong)

/- THE SECOND FORM. 'bulk': how many values and letters a reading holds, each counted each time it is reached (what is shared counts as often as it is met; a slice's spare places count too). A statement '..UptoSaid' is the law's where the arguments, and the package variables that the reading takes, are together of bulk at most 1048576: NARROWER than '..Said'. Prove '..Said' where nothing that the law and all that it calls make is longer than what came in: it says more and counts as full. Else prove '..UptoSaid'. A law counts once. -/
mutual
def uptoBulk {H : Type} : DataW H → Nat
  | .lit (.string bytes) => bytes.length + 1
  | .lit _ => 1
  | .nil => 1
  | .ptr d => uptoBulk d + 1
  | .slice elems spare => uptoBulkAll elems + uptoBulkAll spare + 1
  | .agg parts => uptoBulkAll parts + 1
  | .iface _ d => uptoBulk d + 1
  | .map entries => uptoBulkEntries entries + 1
  | .held _ => 1
def uptoBulkAll {H : Type} : List (DataW H) → Nat
  | [] => 0
  | d :: r => uptoBulk d + uptoBulkAll r
def uptoBulkEntries {H : Type} : List (Lit × DataW H) → Nat
  | [] => 0
  | x :: r => uptoBulkEntry x + uptoBulkEntries r
def uptoBulkEntry {H : Type} : Lit × DataW H → Nat
  | (.string bytes, d) => bytes.length + uptoBulk d + 1
  | (_, d) => uptoBulk d + 1
 end
def uptoSmall : (H : Type) → List (DataW H) → Bool := fun _ ds => decide (uptoBulkAll ds ≤ 1048576)
def OpenSpec.upto (s : _root_.Go.ChangeSpec) : _root_.Go.OpenSpec := { _root_.Go.OpenSpec.ofChange s with cond := some uptoSmall }

/-- 'stopwatchlaw15.BoundsHoldsSpec', WHERE WHAT IT READS IS OF BULK AT MOST 1048576: true; the input reads as it did. -/
def boundsHoldsSpecUptoRow : OpenClaim := { program := "ytjmdodgmoehfkaa", sum := "98ab2c7f98c6da01cff6fbf70416e593d06b0594481413644dd7991d9f0dadca", func := "stopwatch/stopwatchlaw15.BoundsHoldsSpec", spec := "boundsHoldsSpec", unfollowed := true, recurses := true, apart := false, narrowed := true }
def BoundsHoldsSpecUptoSaid : Prop := boundsHoldsSpecUptoRow.holds Try.pinned (OpenSpec.upto boundsHoldsSpecSpec)

/-- 'stopwatchlaw15.BoundsFarSpec', WHERE WHAT IT READS IS OF BULK AT MOST 1048576: true; the input reads as it did. -/
def boundsFarSpecUptoRow : OpenClaim := { program := "ytjmdodgmoehfkaa", sum := "98ab2c7f98c6da01cff6fbf70416e593d06b0594481413644dd7991d9f0dadca", func := "stopwatch/stopwatchlaw15.BoundsFarSpec", spec := "boundsFarSpec", unfollowed := true, recurses := true, apart := false, narrowed := true }
def BoundsFarSpecUptoSaid : Prop := boundsFarSpecUptoRow.holds Try.pinned (OpenSpec.upto boundsFarSpecSpec)

/-- 'stopwatchlaw15.BoundsTriangle', WHERE WHAT IT READS IS OF BULK AT MOST 1048576: true; the input reads as it did. -/
def boundsTriangleUptoRow : OpenClaim := { program := "ytjmdodgmoehfkaa", sum := "98ab2c7f98c6da01cff6fbf70416e593d06b0594481413644dd7991d9f0dadca", func := "stopwatch/stopwatchlaw15.BoundsTriangle", spec := "boundsTriangle", unfollowed := true, recurses := true, apart := false, narrowed := true }
def BoundsTriangleUptoSaid : Prop := boundsTriangleUptoRow.holds Try.pinned (OpenSpec.upto boundsTriangleSpec)

/-- 'stopwatchlaw15.BoundsFewer', WHERE WHAT IT READS IS OF BULK AT MOST 1048576: true; the input reads as it did. -/
def boundsFewerUptoRow : OpenClaim := { program := "ytjmdodgmoehfkaa", sum := "98ab2c7f98c6da01cff6fbf70416e593d06b0594481413644dd7991d9f0dadca", func := "stopwatch/stopwatchlaw15.BoundsFewer", spec := "boundsFewer", unfollowed := true, recurses := true, apart := false, narrowed := true }
def BoundsFewerUptoSaid : Prop := boundsFewerUptoRow.holds Try.pinned (OpenSpec.upto boundsFewerSpec)

/-- 'stopwatchlaw15.BoundsGreatestSpec', WHERE WHAT IT READS IS OF BULK AT MOST 1048576: true; the input reads as it did. -/
def boundsGreatestSpecUptoRow : OpenClaim := { program := "ytjmdodgmoehfkaa", sum := "98ab2c7f98c6da01cff6fbf70416e593d06b0594481413644dd7991d9f0dadca", func := "stopwatch/stopwatchlaw15.BoundsGreatestSpec", spec := "boundsGreatestSpec", unfollowed := true, recurses := true, apart := false, narrowed := true }
def BoundsGreatestSpecUptoSaid : Prop := boundsGreatestSpecUptoRow.holds Try.pinned (OpenSpec.upto boundsGreatestSpecSpec)

/-- 'stopwatchlaw15.BoundsSolved', WHERE WHAT IT READS IS OF BULK AT MOST 1048576: true; the input reads as it did. -/
def boundsSolvedUptoRow : OpenClaim := { program := "ytjmdodgmoehfkaa", sum := "98ab2c7f98c6da01cff6fbf70416e593d06b0594481413644dd7991d9f0dadca", func := "stopwatch/stopwatchlaw15.BoundsSolved", spec := "boundsSolved", unfollowed := true, recurses := true, apart := false, narrowed := true }
def BoundsSolvedUptoSaid : Prop := boundsSolvedUptoRow.holds Try.pinned (OpenSpec.upto boundsSolvedSpec)

/-- 'stopwatchlaw15.BoundsAtOnce', WHERE WHAT IT READS IS OF BULK AT MOST 1048576: true; the input reads as it did. -/
def boundsAtOnceUptoRow : OpenClaim := { program := "ytjmdodgmoehfkaa", sum := "98ab2c7f98c6da01cff6fbf70416e593d06b0594481413644dd7991d9f0dadca", func := "stopwatch/stopwatchlaw15.BoundsAtOnce", spec := "boundsAtOnce", unfollowed := true, recurses := true, apart := false, narrowed := true }
def BoundsAtOnceUptoSaid : Prop := boundsAtOnceUptoRow.holds Try.pinned (OpenSpec.upto boundsAtOnceSpec)

end Rows
end Go.Proofs.Ytjmdodgmoehfkaa
