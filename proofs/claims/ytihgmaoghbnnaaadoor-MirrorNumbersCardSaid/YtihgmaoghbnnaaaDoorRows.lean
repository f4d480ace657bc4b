/-
  NARROWER THAN 'FOR EVERY INPUT', by the rows' own cells (each row's printed sentence says how): MirrorStranger: laid · MirrorOrder: laid · MirrorJoinSpec: laid · MirrorChain: laid · MirrorNumbers: laid.
  DERIVED. THE GIVEN ROWS OF THIS SEAT. 5 by the template 'for every input the law returns true; each argument reads behind the call as it read before'; 0 by the template 'total and deterministic' (their statements: YtihgmaoghbnnaaaDoorTotals.lean).
  GIVEN WITH THE SEED: the statements are not yours to turn. If you find one false, say at which input.
  Laid BY PROGRAM, IN A SANDBOX (cutbox-rows.mjs): the forced cells as the released guide's own fill.sh prints them over the translation 9d7ae35673b2729a… (all of the seat's roots in one cut). By AI agents, Wed Nov 11 2026. No macro, syntax, notation, axiom, sorry.
-/
import Derived.Test.YtihgmaoghbnnaaaDoorChecked
import GoSem.Claim
import GoSem.ClaimJoined
import GoSem.ClaimMapViews
import Derived.JoinedTies
import Derived.KernelRfl
namespace Go.Proofs.YtihgmaoghbnnaaaDoor
/- THE CELL 'sum', in the pinned program and in every row, IS THE sha256 OF THE DUMP (.gsa) THAT YtihgmaoghbnnaaaDoorProg.lean LOADS. Nothing in Lean hashes anything: it is a label: what it is worth is what the hold of that sum in a sandbox is worth. -/
noncomputable def Tryd.pinned : Pinned := { name := "ytihgmaoghbnnaaadoor", sum := "9d7ae35673b2729ae464371148a59123da2ece3d6ef0af285294ce2630c8dc5c", checked := Tryd.checked }
namespace Rows
def none {H : Type} : Left H := { results := [], args := [] }

/- WHAT THE LISTED PACKAGE-LEVEL VARIABLES READ AS WHEN THE CALL BEGINS. Each datum BY PROGRAM (the guide's laid-datum.mjs) off the statement by which the dump's own 'gosem.cut.vars' lays the variable. In a bare row this is a premise. The card (YtihgmaoghbnnaaaDoorCards.lean) ties it to the program's text. -/
def laid_stopwatch_digest_start {H : Type} : DataW H := .agg [.lit (.int .u32 1779033703), .lit (.int .u32 3144134277), .lit (.int .u32 1013904242), .lit (.int .u32 2773480762), .lit (.int .u32 1359893119), .lit (.int .u32 2600822924), .lit (.int .u32 528734635), .lit (.int .u32 1541459225)]
def laid_stopwatch_digest_permutations {H : Type} : DataW H := .agg [.agg [.lit (.int .u8 0), .lit (.int .u8 1), .lit (.int .u8 2), .lit (.int .u8 3), .lit (.int .u8 4), .lit (.int .u8 5), .lit (.int .u8 6), .lit (.int .u8 7), .lit (.int .u8 8), .lit (.int .u8 9), .lit (.int .u8 10), .lit (.int .u8 11), .lit (.int .u8 12), .lit (.int .u8 13), .lit (.int .u8 14), .lit (.int .u8 15)], .agg [.lit (.int .u8 14), .lit (.int .u8 10), .lit (.int .u8 4), .lit (.int .u8 8), .lit (.int .u8 9), .lit (.int .u8 15), .lit (.int .u8 13), .lit (.int .u8 6), .lit (.int .u8 1), .lit (.int .u8 12), .lit (.int .u8 0), .lit (.int .u8 2), .lit (.int .u8 11), .lit (.int .u8 7), .lit (.int .u8 5), .lit (.int .u8 3)], .agg [.lit (.int .u8 11), .lit (.int .u8 8), .lit (.int .u8 12), .lit (.int .u8 0), .lit (.int .u8 5), .lit (.int .u8 2), .lit (.int .u8 15), .lit (.int .u8 13), .lit (.int .u8 10), .lit (.int .u8 14), .lit (.int .u8 3), .lit (.int .u8 6), .lit (.int .u8 7), .lit (.int .u8 1), .lit (.int .u8 9), .lit (.int .u8 4)], .agg [.lit (.int .u8 7), .lit (.int .u8 9), .lit (.int .u8 3), .lit (.int .u8 1), .lit (.int .u8 13), .lit (.int .u8 12), .lit (.int .u8 11), .lit (.int .u8 14), .lit (.int .u8 2), .lit (.int .u8 6), .lit (.int .u8 5), .lit (.int .u8 10), .lit (.int .u8 4), .lit (.int .u8 0), .lit (.int .u8 15), .lit (.int .u8 8)], .agg [.lit (.int .u8 9), .lit (.int .u8 0), .lit (.int .u8 5), .lit (.int .u8 7), .lit (.int .u8 2), .lit (.int .u8 4), .lit (.int .u8 10), .lit (.int .u8 15), .lit (.int .u8 14), .lit (.int .u8 1), .lit (.int .u8 11), .lit (.int .u8 12), .lit (.int .u8 6), .lit (.int .u8 8), .lit (.int .u8 3), .lit (.int .u8 13)], .agg [.lit (.int .u8 2), .lit (.int .u8 12), .lit (.int .u8 6), .lit (.int .u8 10), .lit (.int .u8 0), .lit (.int .u8 11), .lit (.int .u8 8), .lit (.int .u8 3), .lit (.int .u8 4), .lit (.int .u8 13), .lit (.int .u8 7), .lit (.int .u8 5), .lit (.int .u8 15), .lit (.int .u8 14), .lit (.int .u8 1), .lit (.int .u8 9)], .agg [.lit (.int .u8 12), .lit (.int .u8 5), .lit (.int .u8 1), .lit (.int .u8 15), .lit (.int .u8 14), .lit (.int .u8 13), .lit (.int .u8 4), .lit (.int .u8 10), .lit (.int .u8 0), .lit (.int .u8 7), .lit (.int .u8 6), .lit (.int .u8 3), .lit (.int .u8 9), .lit (.int .u8 2), .lit (.int .u8 8), .lit (.int .u8 11)], .agg [.lit (.int .u8 13), .lit (.int .u8 11), .lit (.int .u8 7), .lit (.int .u8 14), .lit (.int .u8 12), .lit (.int .u8 1), .lit (.int .u8 3), .lit (.int .u8 9), .lit (.int .u8 5), .lit (.int .u8 0), .lit (.int .u8 15), .lit (.int .u8 4), .lit (.int .u8 8), .lit (.int .u8 6), .lit (.int .u8 2), .lit (.int .u8 10)], .agg [.lit (.int .u8 6), .lit (.int .u8 15), .lit (.int .u8 14), .lit (.int .u8 9), .lit (.int .u8 11), .lit (.int .u8 3), .lit (.int .u8 0), .lit (.int .u8 8), .lit (.int .u8 12), .lit (.int .u8 2), .lit (.int .u8 13), .lit (.int .u8 7), .lit (.int .u8 1), .lit (.int .u8 4), .lit (.int .u8 10), .lit (.int .u8 5)], .agg [.lit (.int .u8 10), .lit (.int .u8 2), .lit (.int .u8 8), .lit (.int .u8 4), .lit (.int .u8 7), .lit (.int .u8 6), .lit (.int .u8 1), .lit (.int .u8 5), .lit (.int .u8 15), .lit (.int .u8 11), .lit (.int .u8 9), .lit (.int .u8 14), .lit (.int .u8 3), .lit (.int .u8 12), .lit (.int .u8 13), .lit (.int .u8 0)]]

/-- 'stopwatchlaw42.MirrorStranger': WHATEVER THE INPUT: true; the input reads as it did. -/
def mirrorStrangerSpec : ChangeSpec := { name := "mirrorStranger", fn := fun _ => fun
  | [d1, d2, d3] => { results := [.lit (.bool true)], args := [d1, d2, d3] }
  | _ => none }
def mirrorStrangerRow : OpenClaim := { program := "ytihgmaoghbnnaaadoor", sum := "9d7ae35673b2729ae464371148a59123da2ece3d6ef0af285294ce2630c8dc5c", func := "stopwatch/stopwatchlaw42.MirrorStranger", spec := "mirrorStranger", unfollowed := true, recurses := true, named := ["stopwatch/digest.start", "stopwatch/digest.permutations"], apart := false, laid := [("stopwatch/digest.start", laid_stopwatch_digest_start), ("stopwatch/digest.permutations", laid_stopwatch_digest_permutations)] }
def MirrorStrangerSaid : Prop := mirrorStrangerRow.holds Tryd.pinned (OpenSpec.ofChange mirrorStrangerSpec)

/-- ITS FALSE NEIGHBOUR: 'it returns false'. Refute it at one input. -/
def mirrorStrangerWrong : ChangeSpec := { name := "mirrorStranger", fn := fun _ => fun
  | [d1, d2, d3] => { results := [.lit (.bool false)], args := [d1, d2, d3] }
  | _ => none }
def MirrorStrangerWrongFalsely : Prop := mirrorStrangerRow.holds Tryd.pinned (OpenSpec.ofChange mirrorStrangerWrong)

/-- 'stopwatchlaw42.MirrorOrder': WHATEVER THE INPUT: true; the input reads as it did. -/
def mirrorOrderSpec : ChangeSpec := { name := "mirrorOrder", fn := fun _ => fun
  | [d1, d2, d3] => { results := [.lit (.bool true)], args := [d1, d2, d3] }
  | _ => none }
def mirrorOrderRow : OpenClaim := { program := "ytihgmaoghbnnaaadoor", sum := "9d7ae35673b2729ae464371148a59123da2ece3d6ef0af285294ce2630c8dc5c", func := "stopwatch/stopwatchlaw42.MirrorOrder", spec := "mirrorOrder", unfollowed := true, recurses := true, named := ["stopwatch/digest.start", "stopwatch/digest.permutations"], apart := false, laid := [("stopwatch/digest.start", laid_stopwatch_digest_start), ("stopwatch/digest.permutations", laid_stopwatch_digest_permutations)] }
def MirrorOrderSaid : Prop := mirrorOrderRow.holds Tryd.pinned (OpenSpec.ofChange mirrorOrderSpec)

/-- ITS FALSE NEIGHBOUR: 'it returns false'. Refute it at one input. -/
def mirrorOrderWrong : ChangeSpec := { name := "mirrorOrder", fn := fun _ => fun
  | [d1, d2, d3] => { results := [.lit (.bool false)], args := [d1, d2, d3] }
  | _ => none }
def MirrorOrderWrongFalsely : Prop := mirrorOrderRow.holds Tryd.pinned (OpenSpec.ofChange mirrorOrderWrong)

/-- 'stopwatchlaw42.MirrorJoinSpec': WHATEVER THE INPUT: true; the input reads as it did. -/
def mirrorJoinSpecSpec : ChangeSpec := { name := "mirrorJoinSpec", fn := fun _ => fun
  | [d1, d2] => { results := [.lit (.bool true)], args := [d1, d2] }
  | _ => none }
def mirrorJoinSpecRow : OpenClaim := { program := "ytihgmaoghbnnaaadoor", sum := "9d7ae35673b2729ae464371148a59123da2ece3d6ef0af285294ce2630c8dc5c", func := "stopwatch/stopwatchlaw42.MirrorJoinSpec", spec := "mirrorJoinSpec", unfollowed := true, recurses := true, named := ["stopwatch/digest.start", "stopwatch/digest.permutations"], apart := false, laid := [("stopwatch/digest.start", laid_stopwatch_digest_start), ("stopwatch/digest.permutations", laid_stopwatch_digest_permutations)] }
def MirrorJoinSpecSaid : Prop := mirrorJoinSpecRow.holds Tryd.pinned (OpenSpec.ofChange mirrorJoinSpecSpec)

/-- ITS FALSE NEIGHBOUR: 'it returns false'. Refute it at one input. -/
def mirrorJoinSpecWrong : ChangeSpec := { name := "mirrorJoinSpec", fn := fun _ => fun
  | [d1, d2] => { results := [.lit (.bool false)], args := [d1, d2] }
  | _ => none }
def MirrorJoinSpecWrongFalsely : Prop := mirrorJoinSpecRow.holds Tryd.pinned (OpenSpec.ofChange mirrorJoinSpecWrong)

/-- 'stopwatchlaw42.MirrorChain': WHATEVER THE INPUT: true; the input reads as it did. -/
def mirrorChainSpec : ChangeSpec := { name := "mirrorChain", fn := fun _ => fun
  | [d1, d2, d3, d4] => { results := [.lit (.bool true)], args := [d1, d2, d3, d4] }
  | _ => none }
def mirrorChainRow : OpenClaim := { program := "ytihgmaoghbnnaaadoor", sum := "9d7ae35673b2729ae464371148a59123da2ece3d6ef0af285294ce2630c8dc5c", func := "stopwatch/stopwatchlaw42.MirrorChain", spec := "mirrorChain", unfollowed := true, recurses := true, named := ["stopwatch/digest.start", "stopwatch/digest.permutations"], apart := false, laid := [("stopwatch/digest.start", laid_stopwatch_digest_start), ("stopwatch/digest.permutations", laid_stopwatch_digest_permutations)] }
def MirrorChainSaid : Prop := mirrorChainRow.holds Tryd.pinned (OpenSpec.ofChange mirrorChainSpec)

/-- ITS FALSE NEIGHBOUR: 'it returns false'. Refute it at one input. -/
def mirrorChainWrong : ChangeSpec := { name := "mirrorChain", fn := fun _ => fun
  | [d1, d2, d3, d4] => { results := [.lit (.bool false)], args := [d1, d2, d3, d4] }
  | _ => none }
def MirrorChainWrongFalsely : Prop := mirrorChainRow.holds Tryd.pinned (OpenSpec.ofChange mirrorChainWrong)

/-- 'stopwatchlaw42.MirrorNumbers': WHATEVER THE INPUT: true; the input reads as it did. -/
def mirrorNumbersSpec : ChangeSpec := { name := "mirrorNumbers", fn := fun _ => fun
  | [d1, d2, d3] => { results := [.lit (.bool true)], args := [d1, d2, d3] }
  | _ => none }
def mirrorNumbersRow : OpenClaim := { program := "ytihgmaoghbnnaaadoor", sum := "9d7ae35673b2729ae464371148a59123da2ece3d6ef0af285294ce2630c8dc5c", func := "stopwatch/stopwatchlaw42.MirrorNumbers", spec := "mirrorNumbers", unfollowed := true, recurses := true, named := ["stopwatch/digest.start", "stopwatch/digest.permutations"], apart := false, laid := [("stopwatch/digest.start", laid_stopwatch_digest_start), ("stopwatch/digest.permutations", laid_stopwatch_digest_permutations)] }
def MirrorNumbersSaid : Prop := mirrorNumbersRow.holds Tryd.pinned (OpenSpec.ofChange mirrorNumbersSpec)

/-- ITS FALSE NEIGHBOUR: 'it returns false'. Refute it at one input. -/
def mirrorNumbersWrong : ChangeSpec := { name := "mirrorNumbers", fn := fun _ => fun
  | [d1, d2, d3] => { results := [.lit (.bool false)], args := [d1, d2, d3] }
  | _ => none }
def MirrorNumbersWrongFalsely : Prop := mirrorNumbersRow.holds Tryd.pinned (OpenSpec.ofChange mirrorNumbersWrong)

/- THE SECOND FORM. 'bulk': how many values and letters a reading holds, each counted each time it is reached (what is shared counts as often as it is met; a slice's spare places count too). A statement '..UptoSaid' is the law's where the arguments, and the package variables that the reading takes, are together of bulk at most 1048576: NARROWER than '..Said'. Prove '..Said' where nothing that the law and all that it calls make is longer than what came in: it says more and counts as full. Else prove '..UptoSaid'. A law counts once. -/
mutual
def uptoBulk {H : Type} : DataW H → Nat
  | .lit (.string bytes) => bytes.length + 1
  | .lit _ => 1
  | .nil => 1
  | .ptr d => uptoBulk d + 1
  | .slice elems spare => uptoBulkAll elems + uptoBulkAll spare + 1
  | .agg parts => uptoBulkAll parts + 1
  | .iface _ d => uptoBulk d + 1
  | .map entries => uptoBulkEntries entries + 1
  | .held _ => 1
def uptoBulkAll {H : Type} : List (DataW H) → Nat
  | [] => 0
  | d :: r => uptoBulk d + uptoBulkAll r
def uptoBulkEntries {H : Type} : List (Lit × DataW H) → Nat
  | [] => 0
  | x :: r => uptoBulkEntry x + uptoBulkEntries r
def uptoBulkEntry {H : Type} : Lit × DataW H → Nat
  | (.string bytes, d) => bytes.length + uptoBulk d + 1
  | (_, d) => uptoBulk d + 1
 end
def uptoSmall : (H : Type) → List (DataW H) → Bool := fun _ ds => decide (uptoBulkAll ds ≤ 1048576)
def OpenSpec.upto (s : _root_.Go.ChangeSpec) : _root_.Go.OpenSpec := { _root_.Go.OpenSpec.ofChange s with cond := some uptoSmall }

/-- 'stopwatchlaw42.MirrorStranger', WHERE WHAT IT READS IS OF BULK AT MOST 1048576: true; the input reads as it did. -/
def mirrorStrangerUptoRow : OpenClaim := { program := "ytihgmaoghbnnaaadoor", sum := "9d7ae35673b2729ae464371148a59123da2ece3d6ef0af285294ce2630c8dc5c", func := "stopwatch/stopwatchlaw42.MirrorStranger", spec := "mirrorStranger", unfollowed := true, recurses := true, named := ["stopwatch/digest.start", "stopwatch/digest.permutations"], apart := false, laid := [("stopwatch/digest.start", laid_stopwatch_digest_start), ("stopwatch/digest.permutations", laid_stopwatch_digest_permutations)], narrowed := true }
def MirrorStrangerUptoSaid : Prop := mirrorStrangerUptoRow.holds Tryd.pinned (OpenSpec.upto mirrorStrangerSpec)

/-- 'stopwatchlaw42.MirrorOrder', WHERE WHAT IT READS IS OF BULK AT MOST 1048576: true; the input reads as it did. -/
def mirrorOrderUptoRow : OpenClaim := { program := "ytihgmaoghbnnaaadoor", sum := "9d7ae35673b2729ae464371148a59123da2ece3d6ef0af285294ce2630c8dc5c", func := "stopwatch/stopwatchlaw42.MirrorOrder", spec := "mirrorOrder", unfollowed := true, recurses := true, named := ["stopwatch/digest.start", "stopwatch/digest.permutations"], apart := false, laid := [("stopwatch/digest.start", laid_stopwatch_digest_start), ("stopwatch/digest.permutations", laid_stopwatch_digest_permutations)], narrowed := true }
def MirrorOrderUptoSaid : Prop := mirrorOrderUptoRow.holds Tryd.pinned (OpenSpec.upto mirrorOrderSpec)

/-- 'stopwatchlaw42.MirrorJoinSpec', WHERE WHAT IT READS IS OF BULK AT MOST 1048576: true; the input reads as it did. -/
def mirrorJoinSpecUptoRow : OpenClaim := { program := "ytihgmaoghbnnaaadoor", sum := "9d7ae35673b2729ae464371148a59123da2ece3d6ef0af285294ce2630c8dc5c", func := "stopwatch/stopwatchlaw42.MirrorJoinSpec", spec := "mirrorJoinSpec", unfollowed := true, recurses := true, named := ["stopwatch/digest.start", "stopwatch/digest.permutations"], apart := false, laid := [("stopwatch/digest.start", laid_stopwatch_digest_start), ("stopwatch/digest.permutations", laid_stopwatch_digest_permutations)], narrowed := true }
def MirrorJoinSpecUptoSaid : Prop := mirrorJoinSpecUptoRow.holds Tryd.pinned (OpenSpec.upto mirrorJoinSpecSpec)

/-- 'stopwatchlaw42.MirrorChain', WHERE WHAT IT READS IS OF BULK AT MOST 1048576: true; the input reads as it did. -/
def mirrorChainUptoRow : OpenClaim := { program := "ytihgmaoghbnnaaadoor", sum := "9d7ae35673b2729ae464371148a59123da2ece3d6ef0af285294ce2630c8dc5c", func := "stopwatch/stopwatchlaw42.MirrorChain", spec := "mirrorChain", unfollowed := true, recurses := true, named := ["stopwatch/digest.start", "stopwatch/digest.permutations"], apart := false, laid := [("stopwatch/digest.start", laid_stopwatch_digest_start), ("stopwatch/digest.permutations", laid_stopwatch_digest_permutations)], narrowed := true }
def MirrorChainUptoSaid : Prop := mirrorChainUptoRow.holds Tryd.pinned (OpenSpec.upto mirrorChainSpec)

/-- 'stopwatchlaw42.MirrorNumbers', WHERE WHAT IT READS IS OF BULK AT MOST 1048576: true; the input reads as it did. -/
def mirrorNumbersUptoRow : OpenClaim := { program := "ytihgmaoghbnnaaadoor", sum := "9d7ae35673b2729ae464371148a59123da2ece3d6ef0af285294ce2630c8dc5c", func := "stopwatch/stopwatchlaw42.MirrorNumbers", spec := "mirrorNumbers", unfollowed := true, recurses := true, named := ["stopwatch/digest.start", "stopwatch/digest.permutations"], apart := false, laid := [("stopwatch/digest.start", laid_stopwatch_digest_start), ("stopwatch/digest.permutations", laid_stopwatch_digest_permutations)], narrowed := true }
def MirrorNumbersUptoSaid : Prop := mirrorNumbersUptoRow.holds Tryd.pinned (OpenSpec.upto mirrorNumbersSpec)

end Rows
end Go.Proofs.YtihgmaoghbnnaaaDoor
