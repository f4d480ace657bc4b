/-
  NARROWER THAN 'FOR EVERY INPUT', by the rows' own cells (each row's printed sentence says how): DigestSumSpec: laid · DigestTreeSpec: laid · DigestTags: laid · DigestClimbs: laid · DigestHalves: laid · DigestNext: laid · DigestPlaces: laid.
  DERIVED. THE GIVEN ROWS OF THIS SEAT. 7 by the template 'for every input the law returns true; each argument reads behind the call as it read before'; 0 by the template 'total and deterministic' (their statements: YtgodliookpgliaaDoorTotals.lean).
  GIVEN WITH THE SEED: the statements are not yours to turn. If you find one false, say at which input.
  Laid BY PROGRAM, IN A SANDBOX (cutbox-rows.mjs): the forced cells as the released guide's own fill.sh prints them over the translation 1a756d41edf4b4d5… (all of the seat's roots in one cut). By AI agents, Wed Nov 11 2026. No macro, syntax, notation, axiom, sorry.
-/
import Derived.Test.YtgodliookpgliaaDoorChecked
import GoSem.Claim
import GoSem.ClaimJoined
import GoSem.ClaimMapViews
import Derived.JoinedTies
import Derived.KernelRfl
namespace Go.Proofs.YtgodliookpgliaaDoor
/- THE CELL 'sum', in the pinned program and in every row, IS THE sha256 OF THE DUMP (.gsa) THAT YtgodliookpgliaaDoorProg.lean LOADS. Nothing in Lean hashes anything: it is a label: what it is worth is what the hold of that sum in a sandbox is worth. -/
noncomputable def Tryd.pinned : Pinned := { name := "ytgodliookpgliaadoor", sum := "1a756d41edf4b4d55cb38f7fcabacafe3e38e5506fb90989e4922a3f0d902302", checked := Tryd.checked }
namespace Rows
def none {H : Type} : Left H := { results := [], args := [] }

/- WHAT THE LISTED PACKAGE-LEVEL VARIABLES READ AS WHEN THE CALL BEGINS. Each datum BY PROGRAM (the guide's laid-datum.mjs) off the statement by which the dump's own 'gosem.cut.vars' lays the variable. In a bare row this is a premise. The card (YtgodliookpgliaaDoorCards.lean) ties it to the program's text. -/
def laid_stopwatch_digest_start {H : Type} : DataW H := .agg [.lit (.int .u32 1779033703), .lit (.int .u32 3144134277), .lit (.int .u32 1013904242), .lit (.int .u32 2773480762), .lit (.int .u32 1359893119), .lit (.int .u32 2600822924), .lit (.int .u32 528734635), .lit (.int .u32 1541459225)]
def laid_stopwatch_digest_permutations {H : Type} : DataW H := .agg [.agg [.lit (.int .u8 0), .lit (.int .u8 1), .lit (.int .u8 2), .lit (.int .u8 3), .lit (.int .u8 4), .lit (.int .u8 5), .lit (.int .u8 6), .lit (.int .u8 7), .lit (.int .u8 8), .lit (.int .u8 9), .lit (.int .u8 10), .lit (.int .u8 11), .lit (.int .u8 12), .lit (.int .u8 13), .lit (.int .u8 14), .lit (.int .u8 15)], .agg [.lit (.int .u8 14), .lit (.int .u8 10), .lit (.int .u8 4), .lit (.int .u8 8), .lit (.int .u8 9), .lit (.int .u8 15), .lit (.int .u8 13), .lit (.int .u8 6), .lit (.int .u8 1), .lit (.int .u8 12), .lit (.int .u8 0), .lit (.int .u8 2), .lit (.int .u8 11), .lit (.int .u8 7), .lit (.int .u8 5), .lit (.int .u8 3)], .agg [.lit (.int .u8 11), .lit (.int .u8 8), .lit (.int .u8 12), .lit (.int .u8 0), .lit (.int .u8 5), .lit (.int .u8 2), .lit (.int .u8 15), .lit (.int .u8 13), .lit (.int .u8 10), .lit (.int .u8 14), .lit (.int .u8 3), .lit (.int .u8 6), .lit (.int .u8 7), .lit (.int .u8 1), .lit (.int .u8 9), .lit (.int .u8 4)], .agg [.lit (.int .u8 7), .lit (.int .u8 9), .lit (.int .u8 3), .lit (.int .u8 1), .lit (.int .u8 13), .lit (.int .u8 12), .lit (.int .u8 11), .lit (.int .u8 14), .lit (.int .u8 2), .lit (.int .u8 6), .lit (.int .u8 5), .lit (.int .u8 10), .lit (.int .u8 4), .lit (.int .u8 0), .lit (.int .u8 15), .lit (.int .u8 8)], .agg [.lit (.int .u8 9), .lit (.int .u8 0), .lit (.int .u8 5), .lit (.int .u8 7), .lit (.int .u8 2), .lit (.int .u8 4), .lit (.int .u8 10), .lit (.int .u8 15), .lit (.int .u8 14), .lit (.int .u8 1), .lit (.int .u8 11), .lit (.int .u8 12), .lit (.int .u8 6), .lit (.int .u8 8), .lit (.int .u8 3), .lit (.int .u8 13)], .agg [.lit (.int .u8 2), .lit (.int .u8 12), .lit (.int .u8 6), .lit (.int .u8 10), .lit (.int .u8 0), .lit (.int .u8 11), .lit (.int .u8 8), .lit (.int .u8 3), .lit (.int .u8 4), .lit (.int .u8 13), .lit (.int .u8 7), .lit (.int .u8 5), .lit (.int .u8 15), .lit (.int .u8 14), .lit (.int .u8 1), .lit (.int .u8 9)], .agg [.lit (.int .u8 12), .lit (.int .u8 5), .lit (.int .u8 1), .lit (.int .u8 15), .lit (.int .u8 14), .lit (.int .u8 13), .lit (.int .u8 4), .lit (.int .u8 10), .lit (.int .u8 0), .lit (.int .u8 7), .lit (.int .u8 6), .lit (.int .u8 3), .lit (.int .u8 9), .lit (.int .u8 2), .lit (.int .u8 8), .lit (.int .u8 11)], .agg [.lit (.int .u8 13), .lit (.int .u8 11), .lit (.int .u8 7), .lit (.int .u8 14), .lit (.int .u8 12), .lit (.int .u8 1), .lit (.int .u8 3), .lit (.int .u8 9), .lit (.int .u8 5), .lit (.int .u8 0), .lit (.int .u8 15), .lit (.int .u8 4), .lit (.int .u8 8), .lit (.int .u8 6), .lit (.int .u8 2), .lit (.int .u8 10)], .agg [.lit (.int .u8 6), .lit (.int .u8 15), .lit (.int .u8 14), .lit (.int .u8 9), .lit (.int .u8 11), .lit (.int .u8 3), .lit (.int .u8 0), .lit (.int .u8 8), .lit (.int .u8 12), .lit (.int .u8 2), .lit (.int .u8 13), .lit (.int .u8 7), .lit (.int .u8 1), .lit (.int .u8 4), .lit (.int .u8 10), .lit (.int .u8 5)], .agg [.lit (.int .u8 10), .lit (.int .u8 2), .lit (.int .u8 8), .lit (.int .u8 4), .lit (.int .u8 7), .lit (.int .u8 6), .lit (.int .u8 1), .lit (.int .u8 5), .lit (.int .u8 15), .lit (.int .u8 11), .lit (.int .u8 9), .lit (.int .u8 14), .lit (.int .u8 3), .lit (.int .u8 12), .lit (.int .u8 13), .lit (.int .u8 0)]]

/-- 'stopwatchlaw03.DigestSumSpec': WHATEVER THE INPUT: true; the input reads as it did. -/
def digestSumSpecSpec : ChangeSpec := { name := "digestSumSpec", fn := fun _ => fun
  | [d1, d2, d3] => { results := [.lit (.bool true)], args := [d1, d2, d3] }
  | _ => none }
def digestSumSpecRow : OpenClaim := { program := "ytgodliookpgliaadoor", sum := "1a756d41edf4b4d55cb38f7fcabacafe3e38e5506fb90989e4922a3f0d902302", func := "stopwatch/stopwatchlaw03.DigestSumSpec", spec := "digestSumSpec", unfollowed := true, recurses := true, named := ["stopwatch/digest.start", "stopwatch/digest.permutations"], apart := false, laid := [("stopwatch/digest.start", laid_stopwatch_digest_start), ("stopwatch/digest.permutations", laid_stopwatch_digest_permutations)] }
def DigestSumSpecSaid : Prop := digestSumSpecRow.holds Tryd.pinned (OpenSpec.ofChange digestSumSpecSpec)

/-- ITS FALSE NEIGHBOUR: 'it returns false'. Refute it at one input. -/
def digestSumSpecWrong : ChangeSpec := { name := "digestSumSpec", fn := fun _ => fun
  | [d1, d2, d3] => { results := [.lit (.bool false)], args := [d1, d2, d3] }
  | _ => none }
def DigestSumSpecWrongFalsely : Prop := digestSumSpecRow.holds Tryd.pinned (OpenSpec.ofChange digestSumSpecWrong)

/-- 'stopwatchlaw03.DigestTreeSpec': WHATEVER THE INPUT: true; the input reads as it did. -/
def digestTreeSpecSpec : ChangeSpec := { name := "digestTreeSpec", fn := fun _ => fun
  | [d1, d2, d3, d4] => { results := [.lit (.bool true)], args := [d1, d2, d3, d4] }
  | _ => none }
def digestTreeSpecRow : OpenClaim := { program := "ytgodliookpgliaadoor", sum := "1a756d41edf4b4d55cb38f7fcabacafe3e38e5506fb90989e4922a3f0d902302", func := "stopwatch/stopwatchlaw03.DigestTreeSpec", spec := "digestTreeSpec", unfollowed := true, recurses := true, named := ["stopwatch/digest.start", "stopwatch/digest.permutations"], apart := false, laid := [("stopwatch/digest.start", laid_stopwatch_digest_start), ("stopwatch/digest.permutations", laid_stopwatch_digest_permutations)] }
def DigestTreeSpecSaid : Prop := digestTreeSpecRow.holds Tryd.pinned (OpenSpec.ofChange digestTreeSpecSpec)

/-- ITS FALSE NEIGHBOUR: 'it returns false'. Refute it at one input. -/
def digestTreeSpecWrong : ChangeSpec := { name := "digestTreeSpec", fn := fun _ => fun
  | [d1, d2, d3, d4] => { results := [.lit (.bool false)], args := [d1, d2, d3, d4] }
  | _ => none }
def DigestTreeSpecWrongFalsely : Prop := digestTreeSpecRow.holds Tryd.pinned (OpenSpec.ofChange digestTreeSpecWrong)

/-- 'stopwatchlaw03.DigestTags': WHATEVER THE INPUT: true; the input reads as it did. -/
def digestTagsSpec : ChangeSpec := { name := "digestTags", fn := fun _ => fun
  | [d1, d2] => { results := [.lit (.bool true)], args := [d1, d2] }
  | _ => none }
def digestTagsRow : OpenClaim := { program := "ytgodliookpgliaadoor", sum := "1a756d41edf4b4d55cb38f7fcabacafe3e38e5506fb90989e4922a3f0d902302", func := "stopwatch/stopwatchlaw03.DigestTags", spec := "digestTags", unfollowed := true, recurses := true, named := ["stopwatch/digest.start", "stopwatch/digest.permutations"], apart := false, laid := [("stopwatch/digest.start", laid_stopwatch_digest_start), ("stopwatch/digest.permutations", laid_stopwatch_digest_permutations)] }
def DigestTagsSaid : Prop := digestTagsRow.holds Tryd.pinned (OpenSpec.ofChange digestTagsSpec)

/-- ITS FALSE NEIGHBOUR: 'it returns false'. Refute it at one input. -/
def digestTagsWrong : ChangeSpec := { name := "digestTags", fn := fun _ => fun
  | [d1, d2] => { results := [.lit (.bool false)], args := [d1, d2] }
  | _ => none }
def DigestTagsWrongFalsely : Prop := digestTagsRow.holds Tryd.pinned (OpenSpec.ofChange digestTagsWrong)

/-- 'stopwatchlaw03.DigestClimbs': WHATEVER THE INPUT: true; the input reads as it did. -/
def digestClimbsSpec : ChangeSpec := { name := "digestClimbs", fn := fun _ => fun
  | [d] => { results := [.lit (.bool true)], args := [d] }
  | _ => none }
def digestClimbsRow : OpenClaim := { program := "ytgodliookpgliaadoor", sum := "1a756d41edf4b4d55cb38f7fcabacafe3e38e5506fb90989e4922a3f0d902302", func := "stopwatch/stopwatchlaw03.DigestClimbs", spec := "digestClimbs", unfollowed := true, recurses := true, named := ["stopwatch/digest.start", "stopwatch/digest.permutations"], apart := false, laid := [("stopwatch/digest.start", laid_stopwatch_digest_start), ("stopwatch/digest.permutations", laid_stopwatch_digest_permutations)] }
def DigestClimbsSaid : Prop := digestClimbsRow.holds Tryd.pinned (OpenSpec.ofChange digestClimbsSpec)

/-- ITS FALSE NEIGHBOUR: 'it returns false'. Refute it at one input. -/
def digestClimbsWrong : ChangeSpec := { name := "digestClimbs", fn := fun _ => fun
  | [d] => { results := [.lit (.bool false)], args := [d] }
  | _ => none }
def DigestClimbsWrongFalsely : Prop := digestClimbsRow.holds Tryd.pinned (OpenSpec.ofChange digestClimbsWrong)

/-- 'stopwatchlaw03.DigestHalves': WHATEVER THE INPUT: true; the input reads as it did. -/
def digestHalvesSpec : ChangeSpec := { name := "digestHalves", fn := fun _ => fun
  | [d] => { results := [.lit (.bool true)], args := [d] }
  | _ => none }
def digestHalvesRow : OpenClaim := { program := "ytgodliookpgliaadoor", sum := "1a756d41edf4b4d55cb38f7fcabacafe3e38e5506fb90989e4922a3f0d902302", func := "stopwatch/stopwatchlaw03.DigestHalves", spec := "digestHalves", unfollowed := true, recurses := true, named := ["stopwatch/digest.start", "stopwatch/digest.permutations"], apart := false, laid := [("stopwatch/digest.start", laid_stopwatch_digest_start), ("stopwatch/digest.permutations", laid_stopwatch_digest_permutations)] }
def DigestHalvesSaid : Prop := digestHalvesRow.holds Tryd.pinned (OpenSpec.ofChange digestHalvesSpec)

/-- ITS FALSE NEIGHBOUR: 'it returns false'. Refute it at one input. -/
def digestHalvesWrong : ChangeSpec := { name := "digestHalves", fn := fun _ => fun
  | [d] => { results := [.lit (.bool false)], args := [d] }
  | _ => none }
def DigestHalvesWrongFalsely : Prop := digestHalvesRow.holds Tryd.pinned (OpenSpec.ofChange digestHalvesWrong)

/-- 'stopwatchlaw03.DigestNext': WHATEVER THE INPUT: true; the input reads as it did. -/
def digestNextSpec : ChangeSpec := { name := "digestNext", fn := fun _ => fun
  | [d1, d2] => { results := [.lit (.bool true)], args := [d1, d2] }
  | _ => none }
def digestNextRow : OpenClaim := { program := "ytgodliookpgliaadoor", sum := "1a756d41edf4b4d55cb38f7fcabacafe3e38e5506fb90989e4922a3f0d902302", func := "stopwatch/stopwatchlaw03.DigestNext", spec := "digestNext", unfollowed := true, recurses := true, named := ["stopwatch/digest.start", "stopwatch/digest.permutations"], apart := false, laid := [("stopwatch/digest.start", laid_stopwatch_digest_start), ("stopwatch/digest.permutations", laid_stopwatch_digest_permutations)] }
def DigestNextSaid : Prop := digestNextRow.holds Tryd.pinned (OpenSpec.ofChange digestNextSpec)

/-- ITS FALSE NEIGHBOUR: 'it returns false'. Refute it at one input. -/
def digestNextWrong : ChangeSpec := { name := "digestNext", fn := fun _ => fun
  | [d1, d2] => { results := [.lit (.bool false)], args := [d1, d2] }
  | _ => none }
def DigestNextWrongFalsely : Prop := digestNextRow.holds Tryd.pinned (OpenSpec.ofChange digestNextWrong)

/-- 'stopwatchlaw03.DigestPlaces': WHATEVER THE INPUT: true; the input reads as it did. -/
def digestPlacesSpec : ChangeSpec := { name := "digestPlaces", fn := fun _ => fun
  | [d1, d2, d3] => { results := [.lit (.bool true)], args := [d1, d2, d3] }
  | _ => none }
def digestPlacesRow : OpenClaim := { program := "ytgodliookpgliaadoor", sum := "1a756d41edf4b4d55cb38f7fcabacafe3e38e5506fb90989e4922a3f0d902302", func := "stopwatch/stopwatchlaw03.DigestPlaces", spec := "digestPlaces", unfollowed := true, recurses := true, named := ["stopwatch/digest.start", "stopwatch/digest.permutations"], apart := false, laid := [("stopwatch/digest.start", laid_stopwatch_digest_start), ("stopwatch/digest.permutations", laid_stopwatch_digest_permutations)] }
def DigestPlacesSaid : Prop := digestPlacesRow.holds Tryd.pinned (OpenSpec.ofChange digestPlacesSpec)

/-- ITS FALSE NEIGHBOUR: 'it returns false'. Refute it at one input. -/
def digestPlacesWrong : ChangeSpec := { name := "digestPlaces", fn := fun _ => fun
  | [d1, d2, d3] => { results := [.lit (.bool false)], args := [d1, d2, d3] }
  | _ => none }
def DigestPlacesWrongFalsely : Prop := digestPlacesRow.holds Tryd.pinned (OpenSpec.ofChange digestPlacesWrong)

/- THE SECOND FORM. 'bulk': how many values and letters a reading holds, each counted each time it is reached (what is shared counts as often as it is met; a slice's spare places count too). A statement '..UptoSaid' is the law's where the arguments, and the package variables that the reading takes, are together of bulk at most 1048576: NARROWER than '..Said'. Prove '..Said' where nothing that the law and all that it calls make is longer than what came in: it says more and counts as full. Else prove '..UptoSaid'. A law counts once. -/
mutual
def uptoBulk {H : Type} : DataW H → Nat
  | .lit (.string bytes) => bytes.length + 1
  | .lit _ => 1
  | .nil => 1
  | .ptr d => uptoBulk d + 1
  | .slice elems spare => uptoBulkAll elems + uptoBulkAll spare + 1
  | .agg parts => uptoBulkAll parts + 1
  | .iface _ d => uptoBulk d + 1
  | .map entries => uptoBulkEntries entries + 1
  | .held _ => 1
def uptoBulkAll {H : Type} : List (DataW H) → Nat
  | [] => 0
  | d :: r => uptoBulk d + uptoBulkAll r
def uptoBulkEntries {H : Type} : List (Lit × DataW H) → Nat
  | [] => 0
  | x :: r => uptoBulkEntry x + uptoBulkEntries r
def uptoBulkEntry {H : Type} : Lit × DataW H → Nat
  | (.string bytes, d) => bytes.length + uptoBulk d + 1
  | (_, d) => uptoBulk d + 1
 end
def uptoSmall : (H : Type) → List (DataW H) → Bool := fun _ ds => decide (uptoBulkAll ds ≤ 1048576)
def OpenSpec.upto (s : _root_.Go.ChangeSpec) : _root_.Go.OpenSpec := { _root_.Go.OpenSpec.ofChange s with cond := some uptoSmall }

/-- 'stopwatchlaw03.DigestSumSpec', WHERE WHAT IT READS IS OF BULK AT MOST 1048576: true; the input reads as it did. -/
def digestSumSpecUptoRow : OpenClaim := { program := "ytgodliookpgliaadoor", sum := "1a756d41edf4b4d55cb38f7fcabacafe3e38e5506fb90989e4922a3f0d902302", func := "stopwatch/stopwatchlaw03.DigestSumSpec", spec := "digestSumSpec", unfollowed := true, recurses := true, named := ["stopwatch/digest.start", "stopwatch/digest.permutations"], apart := false, laid := [("stopwatch/digest.start", laid_stopwatch_digest_start), ("stopwatch/digest.permutations", laid_stopwatch_digest_permutations)], narrowed := true }
def DigestSumSpecUptoSaid : Prop := digestSumSpecUptoRow.holds Tryd.pinned (OpenSpec.upto digestSumSpecSpec)

/-- 'stopwatchlaw03.DigestTreeSpec', WHERE WHAT IT READS IS OF BULK AT MOST 1048576: true; the input reads as it did. -/
def digestTreeSpecUptoRow : OpenClaim := { program := "ytgodliookpgliaadoor", sum := "1a756d41edf4b4d55cb38f7fcabacafe3e38e5506fb90989e4922a3f0d902302", func := "stopwatch/stopwatchlaw03.DigestTreeSpec", spec := "digestTreeSpec", unfollowed := true, recurses := true, named := ["stopwatch/digest.start", "stopwatch/digest.permutations"], apart := false, laid := [("stopwatch/digest.start", laid_stopwatch_digest_start), ("stopwatch/digest.permutations", laid_stopwatch_digest_permutations)], narrowed := true }
def DigestTreeSpecUptoSaid : Prop := digestTreeSpecUptoRow.holds Tryd.pinned (OpenSpec.upto digestTreeSpecSpec)

/-- 'stopwatchlaw03.DigestTags', WHERE WHAT IT READS IS OF BULK AT MOST 1048576: true; the input reads as it did. -/
def digestTagsUptoRow : OpenClaim := { program := "ytgodliookpgliaadoor", sum := "1a756d41edf4b4d55cb38f7fcabacafe3e38e5506fb90989e4922a3f0d902302", func := "stopwatch/stopwatchlaw03.DigestTags", spec := "digestTags", unfollowed := true, recurses := true, named := ["stopwatch/digest.start", "stopwatch/digest.permutations"], apart := false, laid := [("stopwatch/digest.start", laid_stopwatch_digest_start), ("stopwatch/digest.permutations", laid_stopwatch_digest_permutations)], narrowed := true }
def DigestTagsUptoSaid : Prop := digestTagsUptoRow.holds Tryd.pinned (OpenSpec.upto digestTagsSpec)

/-- 'stopwatchlaw03.DigestClimbs', WHERE WHAT IT READS IS OF BULK AT MOST 1048576: true; the input reads as it did. -/
def digestClimbsUptoRow : OpenClaim := { program := "ytgodliookpgliaadoor", sum := "1a756d41edf4b4d55cb38f7fcabacafe3e38e5506fb90989e4922a3f0d902302", func := "stopwatch/stopwatchlaw03.DigestClimbs", spec := "digestClimbs", unfollowed := true, recurses := true, named := ["stopwatch/digest.start", "stopwatch/digest.permutations"], apart := false, laid := [("stopwatch/digest.start", laid_stopwatch_digest_start), ("stopwatch/digest.permutations", laid_stopwatch_digest_permutations)], narrowed := true }
def DigestClimbsUptoSaid : Prop := digestClimbsUptoRow.holds Tryd.pinned (OpenSpec.upto digestClimbsSpec)

/-- 'stopwatchlaw03.DigestHalves', WHERE WHAT IT READS IS OF BULK AT MOST 1048576: true; the input reads as it did. -/
def digestHalvesUptoRow : OpenClaim := { program := "ytgodliookpgliaadoor", sum := "1a756d41edf4b4d55cb38f7fcabacafe3e38e5506fb90989e4922a3f0d902302", func := "stopwatch/stopwatchlaw03.DigestHalves", spec := "digestHalves", unfollowed := true, recurses := true, named := ["stopwatch/digest.start", "stopwatch/digest.permutations"], apart := false, laid := [("stopwatch/digest.start", laid_stopwatch_digest_start), ("stopwatch/digest.permutations", laid_stopwatch_digest_permutations)], narrowed := true }
def DigestHalvesUptoSaid : Prop := digestHalvesUptoRow.holds Tryd.pinned (OpenSpec.upto digestHalvesSpec)

/-- 'stopwatchlaw03.DigestNext', WHERE WHAT IT READS IS OF BULK AT MOST 1048576: true; the input reads as it did. -/
def digestNextUptoRow : OpenClaim := { program := "ytgodliookpgliaadoor", sum := "1a756d41edf4b4d55cb38f7fcabacafe3e38e5506fb90989e4922a3f0d902302", func := "stopwatch/stopwatchlaw03.DigestNext", spec := "digestNext", unfollowed := true, recurses := true, named := ["stopwatch/digest.start", "stopwatch/digest.permutations"], apart := false, laid := [("stopwatch/digest.start", laid_stopwatch_digest_start), ("stopwatch/digest.permutations", laid_stopwatch_digest_permutations)], narrowed := true }
def DigestNextUptoSaid : Prop := digestNextUptoRow.holds Tryd.pinned (OpenSpec.upto digestNextSpec)

/-- 'stopwatchlaw03.DigestPlaces', WHERE WHAT IT READS IS OF BULK AT MOST 1048576: true; the input reads as it did. -/
def digestPlacesUptoRow : OpenClaim := { program := "ytgodliookpgliaadoor", sum := "1a756d41edf4b4d55cb38f7fcabacafe3e38e5506fb90989e4922a3f0d902302", func := "stopwatch/stopwatchlaw03.DigestPlaces", spec := "digestPlaces", unfollowed := true, recurses := true, named := ["stopwatch/digest.start", "stopwatch/digest.permutations"], apart := false, laid := [("stopwatch/digest.start", laid_stopwatch_digest_start), ("stopwatch/digest.permutations", laid_stopwatch_digest_permutations)], narrowed := true }
def DigestPlacesUptoSaid : Prop := digestPlacesUptoRow.holds Tryd.pinned (OpenSpec.upto digestPlacesSpec)

end Rows
end Go.Proofs.YtgodliookpgliaaDoor
