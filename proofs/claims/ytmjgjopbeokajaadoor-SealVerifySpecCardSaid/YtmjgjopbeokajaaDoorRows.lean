/-
  NARROWER THAN 'FOR EVERY INPUT', by the rows' own cells (each row's printed sentence says how): SealSignSpec: laid · SealVerifySpec: laid · SealKeySpec: laid · SealVerifies: laid · SealUsed: laid · SealOpens: laid · SealBits: laid · SealShape: laid.
  DERIVED. THE GIVEN ROWS OF THIS SEAT. 8 by the template 'for every input the law returns true; each argument reads behind the call as it read before'; 0 by the template 'total and deterministic' (their statements: YtmjgjopbeokajaaDoorTotals.lean).
  GIVEN WITH THE SEED: the statements are not yours to turn. If you find one false, say at which input.
  Laid BY PROGRAM, IN A SANDBOX (cutbox-rows.mjs): the forced cells as the released guide's own fill.sh prints them over the translation bb298c0c0b749ce8… (all of the seat's roots in one cut). By AI agents, Wed Nov 11 2026. No macro, syntax, notation, axiom, sorry.
-/
import Derived.Test.YtmjgjopbeokajaaDoorChecked
import GoSem.Claim
import GoSem.ClaimJoined
import GoSem.ClaimMapViews
import Derived.JoinedTies
import Derived.KernelRfl
namespace Go.Proofs.YtmjgjopbeokajaaDoor
/- THE CELL 'sum', in the pinned program and in every row, IS THE sha256 OF THE DUMP (.gsa) THAT YtmjgjopbeokajaaDoorProg.lean LOADS. Nothing in Lean hashes anything: it is a label: what it is worth is what the hold of that sum in a sandbox is worth. -/
noncomputable def Tryd.pinned : Pinned := { name := "ytmjgjopbeokajaadoor", sum := "bb298c0c0b749ce840e304516cb24708082cbe791c5f60e0e27fb453469796a2", checked := Tryd.checked }
namespace Rows
def none {H : Type} : Left H := { results := [], args := [] }

/- WHAT THE LISTED PACKAGE-LEVEL VARIABLES READ AS WHEN THE CALL BEGINS. Each datum BY PROGRAM (the guide's laid-datum.mjs) off the statement by which the dump's own 'gosem.cut.vars' lays the variable. In a bare row this is a premise. The card (YtmjgjopbeokajaaDoorCards.lean) ties it to the program's text. -/
def laid_stopwatch_digest_start {H : Type} : DataW H := .agg [.lit (.int .u32 1779033703), .lit (.int .u32 3144134277), .lit (.int .u32 1013904242), .lit (.int .u32 2773480762), .lit (.int .u32 1359893119), .lit (.int .u32 2600822924), .lit (.int .u32 528734635), .lit (.int .u32 1541459225)]
def laid_stopwatch_digest_permutations {H : Type} : DataW H := .agg [.agg [.lit (.int .u8 0), .lit (.int .u8 1), .lit (.int .u8 2), .lit (.int .u8 3), .lit (.int .u8 4), .lit (.int .u8 5), .lit (.int .u8 6), .lit (.int .u8 7), .lit (.int .u8 8), .lit (.int .u8 9), .lit (.int .u8 10), .lit (.int .u8 11), .lit (.int .u8 12), .lit (.int .u8 13), .lit (.int .u8 14), .lit (.int .u8 15)], .agg [.lit (.int .u8 14), .lit (.int .u8 10), .lit (.int .u8 4), .lit (.int .u8 8), .lit (.int .u8 9), .lit (.int .u8 15), .lit (.int .u8 13), .lit (.int .u8 6), .lit (.int .u8 1), .lit (.int .u8 12), .lit (.int .u8 0), .lit (.int .u8 2), .lit (.int .u8 11), .lit (.int .u8 7), .lit (.int .u8 5), .lit (.int .u8 3)], .agg [.lit (.int .u8 11), .lit (.int .u8 8), .lit (.int .u8 12), .lit (.int .u8 0), .lit (.int .u8 5), .lit (.int .u8 2), .lit (.int .u8 15), .lit (.int .u8 13), .lit (.int .u8 10), .lit (.int .u8 14), .lit (.int .u8 3), .lit (.int .u8 6), .lit (.int .u8 7), .lit (.int .u8 1), .lit (.int .u8 9), .lit (.int .u8 4)], .agg [.lit (.int .u8 7), .lit (.int .u8 9), .lit (.int .u8 3), .lit (.int .u8 1), .lit (.int .u8 13), .lit (.int .u8 12), .lit (.int .u8 11), .lit (.int .u8 14), .lit (.int .u8 2), .lit (.int .u8 6), .lit (.int .u8 5), .lit (.int .u8 10), .lit (.int .u8 4), .lit (.int .u8 0), .lit (.int .u8 15), .lit (.int .u8 8)], .agg [.lit (.int .u8 9), .lit (.int .u8 0), .lit (.int .u8 5), .lit (.int .u8 7), .lit (.int .u8 2), .lit (.int .u8 4), .lit (.int .u8 10), .lit (.int .u8 15), .lit (.int .u8 14), .lit (.int .u8 1), .lit (.int .u8 11), .lit (.int .u8 12), .lit (.int .u8 6), .lit (.int .u8 8), .lit (.int .u8 3), .lit (.int .u8 13)], .agg [.lit (.int .u8 2), .lit (.int .u8 12), .lit (.int .u8 6), .lit (.int .u8 10), .lit (.int .u8 0), .lit (.int .u8 11), .lit (.int .u8 8), .lit (.int .u8 3), .lit (.int .u8 4), .lit (.int .u8 13), .lit (.int .u8 7), .lit (.int .u8 5), .lit (.int .u8 15), .lit (.int .u8 14), .lit (.int .u8 1), .lit (.int .u8 9)], .agg [.lit (.int .u8 12), .lit (.int .u8 5), .lit (.int .u8 1), .lit (.int .u8 15), .lit (.int .u8 14), .lit (.int .u8 13), .lit (.int .u8 4), .lit (.int .u8 10), .lit (.int .u8 0), .lit (.int .u8 7), .lit (.int .u8 6), .lit (.int .u8 3), .lit (.int .u8 9), .lit (.int .u8 2), .lit (.int .u8 8), .lit (.int .u8 11)], .agg [.lit (.int .u8 13), .lit (.int .u8 11), .lit (.int .u8 7), .lit (.int .u8 14), .lit (.int .u8 12), .lit (.int .u8 1), .lit (.int .u8 3), .lit (.int .u8 9), .lit (.int .u8 5), .lit (.int .u8 0), .lit (.int .u8 15), .lit (.int .u8 4), .lit (.int .u8 8), .lit (.int .u8 6), .lit (.int .u8 2), .lit (.int .u8 10)], .agg [.lit (.int .u8 6), .lit (.int .u8 15), .lit (.int .u8 14), .lit (.int .u8 9), .lit (.int .u8 11), .lit (.int .u8 3), .lit (.int .u8 0), .lit (.int .u8 8), .lit (.int .u8 12), .lit (.int .u8 2), .lit (.int .u8 13), .lit (.int .u8 7), .lit (.int .u8 1), .lit (.int .u8 4), .lit (.int .u8 10), .lit (.int .u8 5)], .agg [.lit (.int .u8 10), .lit (.int .u8 2), .lit (.int .u8 8), .lit (.int .u8 4), .lit (.int .u8 7), .lit (.int .u8 6), .lit (.int .u8 1), .lit (.int .u8 5), .lit (.int .u8 15), .lit (.int .u8 11), .lit (.int .u8 9), .lit (.int .u8 14), .lit (.int .u8 3), .lit (.int .u8 12), .lit (.int .u8 13), .lit (.int .u8 0)]]

/-- 'stopwatchlaw04.SealSignSpec': WHATEVER THE INPUT: true; the input reads as it did. -/
def sealSignSpecSpec : ChangeSpec := { name := "sealSignSpec", fn := fun _ => fun
  | [d1, d2, d3] => { results := [.lit (.bool true)], args := [d1, d2, d3] }
  | _ => none }
def sealSignSpecRow : OpenClaim := { program := "ytmjgjopbeokajaadoor", sum := "bb298c0c0b749ce840e304516cb24708082cbe791c5f60e0e27fb453469796a2", func := "stopwatch/stopwatchlaw04.SealSignSpec", spec := "sealSignSpec", unfollowed := true, recurses := true, named := ["stopwatch/digest.start", "stopwatch/digest.permutations"], apart := false, laid := [("stopwatch/digest.start", laid_stopwatch_digest_start), ("stopwatch/digest.permutations", laid_stopwatch_digest_permutations)] }
def SealSignSpecSaid : Prop := sealSignSpecRow.holds Tryd.pinned (OpenSpec.ofChange sealSignSpecSpec)

/-- ITS FALSE NEIGHBOUR: 'it returns false'. Refute it at one input. -/
def sealSignSpecWrong : ChangeSpec := { name := "sealSignSpec", fn := fun _ => fun
  | [d1, d2, d3] => { results := [.lit (.bool false)], args := [d1, d2, d3] }
  | _ => none }
def SealSignSpecWrongFalsely : Prop := sealSignSpecRow.holds Tryd.pinned (OpenSpec.ofChange sealSignSpecWrong)

/-- 'stopwatchlaw04.SealVerifySpec': WHATEVER THE INPUT: true; the input reads as it did. -/
def sealVerifySpecSpec : ChangeSpec := { name := "sealVerifySpec", fn := fun _ => fun
  | [d1, d2, d3, d4] => { results := [.lit (.bool true)], args := [d1, d2, d3, d4] }
  | _ => none }
def sealVerifySpecRow : OpenClaim := { program := "ytmjgjopbeokajaadoor", sum := "bb298c0c0b749ce840e304516cb24708082cbe791c5f60e0e27fb453469796a2", func := "stopwatch/stopwatchlaw04.SealVerifySpec", spec := "sealVerifySpec", unfollowed := true, recurses := true, named := ["stopwatch/digest.start", "stopwatch/digest.permutations"], apart := false, laid := [("stopwatch/digest.start", laid_stopwatch_digest_start), ("stopwatch/digest.permutations", laid_stopwatch_digest_permutations)] }
def SealVerifySpecSaid : Prop := sealVerifySpecRow.holds Tryd.pinned (OpenSpec.ofChange sealVerifySpecSpec)

/-- ITS FALSE NEIGHBOUR: 'it returns false'. Refute it at one input. -/
def sealVerifySpecWrong : ChangeSpec := { name := "sealVerifySpec", fn := fun _ => fun
  | [d1, d2, d3, d4] => { results := [.lit (.bool false)], args := [d1, d2, d3, d4] }
  | _ => none }
def SealVerifySpecWrongFalsely : Prop := sealVerifySpecRow.holds Tryd.pinned (OpenSpec.ofChange sealVerifySpecWrong)

/-- 'stopwatchlaw04.SealKeySpec': WHATEVER THE INPUT: true; the input reads as it did. -/
def sealKeySpecSpec : ChangeSpec := { name := "sealKeySpec", fn := fun _ => fun
  | [d1, d2, d3, d4, d5, d6] => { results := [.lit (.bool true)], args := [d1, d2, d3, d4, d5, d6] }
  | _ => none }
def sealKeySpecRow : OpenClaim := { program := "ytmjgjopbeokajaadoor", sum := "bb298c0c0b749ce840e304516cb24708082cbe791c5f60e0e27fb453469796a2", func := "stopwatch/stopwatchlaw04.SealKeySpec", spec := "sealKeySpec", unfollowed := true, recurses := true, named := ["stopwatch/digest.start", "stopwatch/digest.permutations"], apart := false, laid := [("stopwatch/digest.start", laid_stopwatch_digest_start), ("stopwatch/digest.permutations", laid_stopwatch_digest_permutations)] }
def SealKeySpecSaid : Prop := sealKeySpecRow.holds Tryd.pinned (OpenSpec.ofChange sealKeySpecSpec)

/-- ITS FALSE NEIGHBOUR: 'it returns false'. Refute it at one input. -/
def sealKeySpecWrong : ChangeSpec := { name := "sealKeySpec", fn := fun _ => fun
  | [d1, d2, d3, d4, d5, d6] => { results := [.lit (.bool false)], args := [d1, d2, d3, d4, d5, d6] }
  | _ => none }
def SealKeySpecWrongFalsely : Prop := sealKeySpecRow.holds Tryd.pinned (OpenSpec.ofChange sealKeySpecWrong)

/-- 'stopwatchlaw04.SealVerifies': WHATEVER THE INPUT: true; the input reads as it did. -/
def sealVerifiesSpec : ChangeSpec := { name := "sealVerifies", fn := fun _ => fun
  | [d1, d2, d3] => { results := [.lit (.bool true)], args := [d1, d2, d3] }
  | _ => none }
def sealVerifiesRow : OpenClaim := { program := "ytmjgjopbeokajaadoor", sum := "bb298c0c0b749ce840e304516cb24708082cbe791c5f60e0e27fb453469796a2", func := "stopwatch/stopwatchlaw04.SealVerifies", spec := "sealVerifies", unfollowed := true, recurses := true, named := ["stopwatch/digest.start", "stopwatch/digest.permutations"], apart := false, laid := [("stopwatch/digest.start", laid_stopwatch_digest_start), ("stopwatch/digest.permutations", laid_stopwatch_digest_permutations)] }
def SealVerifiesSaid : Prop := sealVerifiesRow.holds Tryd.pinned (OpenSpec.ofChange sealVerifiesSpec)

/-- ITS FALSE NEIGHBOUR: 'it returns false'. Refute it at one input. -/
def sealVerifiesWrong : ChangeSpec := { name := "sealVerifies", fn := fun _ => fun
  | [d1, d2, d3] => { results := [.lit (.bool false)], args := [d1, d2, d3] }
  | _ => none }
def SealVerifiesWrongFalsely : Prop := sealVerifiesRow.holds Tryd.pinned (OpenSpec.ofChange sealVerifiesWrong)

/-- 'stopwatchlaw04.SealUsed': WHATEVER THE INPUT: true; the input reads as it did. -/
def sealUsedSpec : ChangeSpec := { name := "sealUsed", fn := fun _ => fun
  | [d1, d2, d3, d4] => { results := [.lit (.bool true)], args := [d1, d2, d3, d4] }
  | _ => none }
def sealUsedRow : OpenClaim := { program := "ytmjgjopbeokajaadoor", sum := "bb298c0c0b749ce840e304516cb24708082cbe791c5f60e0e27fb453469796a2", func := "stopwatch/stopwatchlaw04.SealUsed", spec := "sealUsed", unfollowed := true, recurses := true, named := ["stopwatch/digest.start", "stopwatch/digest.permutations"], apart := false, laid := [("stopwatch/digest.start", laid_stopwatch_digest_start), ("stopwatch/digest.permutations", laid_stopwatch_digest_permutations)] }
def SealUsedSaid : Prop := sealUsedRow.holds Tryd.pinned (OpenSpec.ofChange sealUsedSpec)

/-- ITS FALSE NEIGHBOUR: 'it returns false'. Refute it at one input. -/
def sealUsedWrong : ChangeSpec := { name := "sealUsed", fn := fun _ => fun
  | [d1, d2, d3, d4] => { results := [.lit (.bool false)], args := [d1, d2, d3, d4] }
  | _ => none }
def SealUsedWrongFalsely : Prop := sealUsedRow.holds Tryd.pinned (OpenSpec.ofChange sealUsedWrong)

/-- 'stopwatchlaw04.SealOpens': WHATEVER THE INPUT: true; the input reads as it did. -/
def sealOpensSpec : ChangeSpec := { name := "sealOpens", fn := fun _ => fun
  | [d1, d2, d3, d4] => { results := [.lit (.bool true)], args := [d1, d2, d3, d4] }
  | _ => none }
def sealOpensRow : OpenClaim := { program := "ytmjgjopbeokajaadoor", sum := "bb298c0c0b749ce840e304516cb24708082cbe791c5f60e0e27fb453469796a2", func := "stopwatch/stopwatchlaw04.SealOpens", spec := "sealOpens", unfollowed := true, recurses := true, named := ["stopwatch/digest.start", "stopwatch/digest.permutations"], apart := false, laid := [("stopwatch/digest.start", laid_stopwatch_digest_start), ("stopwatch/digest.permutations", laid_stopwatch_digest_permutations)] }
def SealOpensSaid : Prop := sealOpensRow.holds Tryd.pinned (OpenSpec.ofChange sealOpensSpec)

/-- ITS FALSE NEIGHBOUR: 'it returns false'. Refute it at one input. -/
def sealOpensWrong : ChangeSpec := { name := "sealOpens", fn := fun _ => fun
  | [d1, d2, d3, d4] => { results := [.lit (.bool false)], args := [d1, d2, d3, d4] }
  | _ => none }
def SealOpensWrongFalsely : Prop := sealOpensRow.holds Tryd.pinned (OpenSpec.ofChange sealOpensWrong)

/-- 'stopwatchlaw04.SealBits': WHATEVER THE INPUT: true; the input reads as it did. -/
def sealBitsSpec : ChangeSpec := { name := "sealBits", fn := fun _ => fun
  | [d1, d2, d3, d4] => { results := [.lit (.bool true)], args := [d1, d2, d3, d4] }
  | _ => none }
def sealBitsRow : OpenClaim := { program := "ytmjgjopbeokajaadoor", sum := "bb298c0c0b749ce840e304516cb24708082cbe791c5f60e0e27fb453469796a2", func := "stopwatch/stopwatchlaw04.SealBits", spec := "sealBits", unfollowed := true, recurses := true, named := ["stopwatch/digest.start", "stopwatch/digest.permutations"], apart := false, laid := [("stopwatch/digest.start", laid_stopwatch_digest_start), ("stopwatch/digest.permutations", laid_stopwatch_digest_permutations)] }
def SealBitsSaid : Prop := sealBitsRow.holds Tryd.pinned (OpenSpec.ofChange sealBitsSpec)

/-- ITS FALSE NEIGHBOUR: 'it returns false'. Refute it at one input. -/
def sealBitsWrong : ChangeSpec := { name := "sealBits", fn := fun _ => fun
  | [d1, d2, d3, d4] => { results := [.lit (.bool false)], args := [d1, d2, d3, d4] }
  | _ => none }
def SealBitsWrongFalsely : Prop := sealBitsRow.holds Tryd.pinned (OpenSpec.ofChange sealBitsWrong)

/-- 'stopwatchlaw04.SealShape': WHATEVER THE INPUT: true; the input reads as it did. -/
def sealShapeSpec : ChangeSpec := { name := "sealShape", fn := fun _ => fun
  | [d1, d2, d3, d4] => { results := [.lit (.bool true)], args := [d1, d2, d3, d4] }
  | _ => none }
def sealShapeRow : OpenClaim := { program := "ytmjgjopbeokajaadoor", sum := "bb298c0c0b749ce840e304516cb24708082cbe791c5f60e0e27fb453469796a2", func := "stopwatch/stopwatchlaw04.SealShape", spec := "sealShape", unfollowed := true, recurses := true, named := ["stopwatch/digest.start", "stopwatch/digest.permutations"], apart := false, laid := [("stopwatch/digest.start", laid_stopwatch_digest_start), ("stopwatch/digest.permutations", laid_stopwatch_digest_permutations)] }
def SealShapeSaid : Prop := sealShapeRow.holds Tryd.pinned (OpenSpec.ofChange sealShapeSpec)

/-- ITS FALSE NEIGHBOUR: 'it returns false'. Refute it at one input. -/
def sealShapeWrong : ChangeSpec := { name := "sealShape", fn := fun _ => fun
  | [d1, d2, d3, d4] => { results := [.lit (.bool false)], args := [d1, d2, d3, d4] }
  | _ => none }
def SealShapeWrongFalsely : Prop := sealShapeRow.holds Tryd.pinned (OpenSpec.ofChange sealShapeWrong)

/- THE SECOND FORM. 'bulk': how many values and letters a reading holds, each counted each time it is reached (what is shared counts as often as it is met; a slice's spare places count too). A statement '..UptoSaid' is the law's where the arguments, and the package variables that the reading takes, are together of bulk at most 1048576: NARROWER than '..Said'. Prove '..Said' where nothing that the law and all that it calls make is longer than what came in: it says more and counts as full. Else prove '..UptoSaid'. A law counts once. -/
mutual
def uptoBulk {H : Type} : DataW H → Nat
  | .lit (.string bytes) => bytes.length + 1
  | .lit _ => 1
  | .nil => 1
  | .ptr d => uptoBulk d + 1
  | .slice elems spare => uptoBulkAll elems + uptoBulkAll spare + 1
  | .agg parts => uptoBulkAll parts + 1
  | .iface _ d => uptoBulk d + 1
  | .map entries => uptoBulkEntries entries + 1
  | .held _ => 1
def uptoBulkAll {H : Type} : List (DataW H) → Nat
  | [] => 0
  | d :: r => uptoBulk d + uptoBulkAll r
def uptoBulkEntries {H : Type} : List (Lit × DataW H) → Nat
  | [] => 0
  | x :: r => uptoBulkEntry x + uptoBulkEntries r
def uptoBulkEntry {H : Type} : Lit × DataW H → Nat
  | (.string bytes, d) => bytes.length + uptoBulk d + 1
  | (_, d) => uptoBulk d + 1
 end
def uptoSmall : (H : Type) → List (DataW H) → Bool := fun _ ds => decide (uptoBulkAll ds ≤ 1048576)
def OpenSpec.upto (s : _root_.Go.ChangeSpec) : _root_.Go.OpenSpec := { _root_.Go.OpenSpec.ofChange s with cond := some uptoSmall }

/-- 'stopwatchlaw04.SealSignSpec', WHERE WHAT IT READS IS OF BULK AT MOST 1048576: true; the input reads as it did. -/
def sealSignSpecUptoRow : OpenClaim := { program := "ytmjgjopbeokajaadoor", sum := "bb298c0c0b749ce840e304516cb24708082cbe791c5f60e0e27fb453469796a2", func := "stopwatch/stopwatchlaw04.SealSignSpec", spec := "sealSignSpec", unfollowed := true, recurses := true, named := ["stopwatch/digest.start", "stopwatch/digest.permutations"], apart := false, laid := [("stopwatch/digest.start", laid_stopwatch_digest_start), ("stopwatch/digest.permutations", laid_stopwatch_digest_permutations)], narrowed := true }
def SealSignSpecUptoSaid : Prop := sealSignSpecUptoRow.holds Tryd.pinned (OpenSpec.upto sealSignSpecSpec)

/-- 'stopwatchlaw04.SealVerifySpec', WHERE WHAT IT READS IS OF BULK AT MOST 1048576: true; the input reads as it did. -/
def sealVerifySpecUptoRow : OpenClaim := { program := "ytmjgjopbeokajaadoor", sum := "bb298c0c0b749ce840e304516cb24708082cbe791c5f60e0e27fb453469796a2", func := "stopwatch/stopwatchlaw04.SealVerifySpec", spec := "sealVerifySpec", unfollowed := true, recurses := true, named := ["stopwatch/digest.start", "stopwatch/digest.permutations"], apart := false, laid := [("stopwatch/digest.start", laid_stopwatch_digest_start), ("stopwatch/digest.permutations", laid_stopwatch_digest_permutations)], narrowed := true }
def SealVerifySpecUptoSaid : Prop := sealVerifySpecUptoRow.holds Tryd.pinned (OpenSpec.upto sealVerifySpecSpec)

/-- 'stopwatchlaw04.SealKeySpec', WHERE WHAT IT READS IS OF BULK AT MOST 1048576: true; the input reads as it did. -/
def sealKeySpecUptoRow : OpenClaim := { program := "ytmjgjopbeokajaadoor", sum := "bb298c0c0b749ce840e304516cb24708082cbe791c5f60e0e27fb453469796a2", func := "stopwatch/stopwatchlaw04.SealKeySpec", spec := "sealKeySpec", unfollowed := true, recurses := true, named := ["stopwatch/digest.start", "stopwatch/digest.permutations"], apart := false, laid := [("stopwatch/digest.start", laid_stopwatch_digest_start), ("stopwatch/digest.permutations", laid_stopwatch_digest_permutations)], narrowed := true }
def SealKeySpecUptoSaid : Prop := sealKeySpecUptoRow.holds Tryd.pinned (OpenSpec.upto sealKeySpecSpec)

/-- 'stopwatchlaw04.SealVerifies', WHERE WHAT IT READS IS OF BULK AT MOST 1048576: true; the input reads as it did. -/
def sealVerifiesUptoRow : OpenClaim := { program := "ytmjgjopbeokajaadoor", sum := "bb298c0c0b749ce840e304516cb24708082cbe791c5f60e0e27fb453469796a2", func := "stopwatch/stopwatchlaw04.SealVerifies", spec := "sealVerifies", unfollowed := true, recurses := true, named := ["stopwatch/digest.start", "stopwatch/digest.permutations"], apart := false, laid := [("stopwatch/digest.start", laid_stopwatch_digest_start), ("stopwatch/digest.permutations", laid_stopwatch_digest_permutations)], narrowed := true }
def SealVerifiesUptoSaid : Prop := sealVerifiesUptoRow.holds Tryd.pinned (OpenSpec.upto sealVerifiesSpec)

/-- 'stopwatchlaw04.SealUsed', WHERE WHAT IT READS IS OF BULK AT MOST 1048576: true; the input reads as it did. -/
def sealUsedUptoRow : OpenClaim := { program := "ytmjgjopbeokajaadoor", sum := "bb298c0c0b749ce840e304516cb24708082cbe791c5f60e0e27fb453469796a2", func := "stopwatch/stopwatchlaw04.SealUsed", spec := "sealUsed", unfollowed := true, recurses := true, named := ["stopwatch/digest.start", "stopwatch/digest.permutations"], apart := false, laid := [("stopwatch/digest.start", laid_stopwatch_digest_start), ("stopwatch/digest.permutations", laid_stopwatch_digest_permutations)], narrowed := true }
def SealUsedUptoSaid : Prop := sealUsedUptoRow.holds Tryd.pinned (OpenSpec.upto sealUsedSpec)

/-- 'stopwatchlaw04.SealOpens', WHERE WHAT IT READS IS OF BULK AT MOST 1048576: true; the input reads as it did. -/
def sealOpensUptoRow : OpenClaim := { program := "ytmjgjopbeokajaadoor", sum := "bb298c0c0b749ce840e304516cb24708082cbe791c5f60e0e27fb453469796a2", func := "stopwatch/stopwatchlaw04.SealOpens", spec := "sealOpens", unfollowed := true, recurses := true, named := ["stopwatch/digest.start", "stopwatch/digest.permutations"], apart := false, laid := [("stopwatch/digest.start", laid_stopwatch_digest_start), ("stopwatch/digest.permutations", laid_stopwatch_digest_permutations)], narrowed := true }
def SealOpensUptoSaid : Prop := sealOpensUptoRow.holds Tryd.pinned (OpenSpec.upto sealOpensSpec)

/-- 'stopwatchlaw04.SealBits', WHERE WHAT IT READS IS OF BULK AT MOST 1048576: true; the input reads as it did. -/
def sealBitsUptoRow : OpenClaim := { program := "ytmjgjopbeokajaadoor", sum := "bb298c0c0b749ce840e304516cb24708082cbe791c5f60e0e27fb453469796a2", func := "stopwatch/stopwatchlaw04.SealBits", spec := "sealBits", unfollowed := true, recurses := true, named := ["stopwatch/digest.start", "stopwatch/digest.permutations"], apart := false, laid := [("stopwatch/digest.start", laid_stopwatch_digest_start), ("stopwatch/digest.permutations", laid_stopwatch_digest_permutations)], narrowed := true }
def SealBitsUptoSaid : Prop := sealBitsUptoRow.holds Tryd.pinned (OpenSpec.upto sealBitsSpec)

/-- 'stopwatchlaw04.SealShape', WHERE WHAT IT READS IS OF BULK AT MOST 1048576: true; the input reads as it did. -/
def sealShapeUptoRow : OpenClaim := { program := "ytmjgjopbeokajaadoor", sum := "bb298c0c0b749ce840e304516cb24708082cbe791c5f60e0e27fb453469796a2", func := "stopwatch/stopwatchlaw04.SealShape", spec := "sealShape", unfollowed := true, recurses := true, named := ["stopwatch/digest.start", "stopwatch/digest.permutations"], apart := false, laid := [("stopwatch/digest.start", laid_stopwatch_digest_start), ("stopwatch/digest.permutations", laid_stopwatch_digest_permutations)], narrowed := true }
def SealShapeUptoSaid : Prop := sealShapeUptoRow.holds Tryd.pinned (OpenSpec.upto sealShapeSpec)

end Rows
end Go.Proofs.YtmjgjopbeokajaaDoor
