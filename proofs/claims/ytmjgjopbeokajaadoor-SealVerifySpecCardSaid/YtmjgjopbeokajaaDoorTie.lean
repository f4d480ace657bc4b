/-
  DERIVED. GIVEN WITH THE SEED: THE PROGRAM's TIES (one call each: nine closed facts by the kernel) AND EACH ROW's TIE, after the 31st guide's Derived/Test/Toyas{Tie, Card}.lean. No idea stands in it: it is a product of the set-up. Laid BY PROGRAM, IN A SANDBOX (cutbox-door.mjs). By AI agents, Wed Nov 11 2026. No macro, syntax, notation, axiom, sorry.
-/
import Derived.Test.YtmjgjopbeokajaaDoorRows
import Derived.LaidByTextLater
import Derived.SevenTiedAt
import Derived.LaidSub
import Derived.LaidOnce
namespace Go.Proofs.YtmjgjopbeokajaaDoor
open Go
set_option maxRecDepth 100000
theorem seatTie1 : Tryd.prog.laidByTextLater [("stopwatch/digest.start", Rows.laid_stopwatch_digest_start), ("stopwatch/digest.permutations", Rows.laid_stopwatch_digest_permutations)] [.widerDeep, .data] true :=
  Program.laidByTextLater_by_one 29 8 161 (by kernel_rfl) (by kernel_rfl) (by kernel_rfl) (by kernel_rfl) (by kernel_rfl) (by kernel_rfl) (fun _ _ => by kernel_rfl)
theorem noOwnUnsafe : Tryd.pinned.checked.prog.headLifts.contains "ownunsafe" = false := by kernel_rfl
theorem tie : Tryd.prog.laidByTextLater [("stopwatch/digest.start", Rows.laid_stopwatch_digest_start), ("stopwatch/digest.permutations", Rows.laid_stopwatch_digest_permutations)] [.widerDeep, .data] true :=
  Program.laidByTextLater.sub seatTie1 ["stopwatch/digest.start", "stopwatch/digest.permutations"] (by kernel_rfl) (by kernel_rfl)
theorem sealSignSpec_row_tie : Rows.sealSignSpecRow.laidByTextAt .later Tryd.pinned [.widerDeep, .data] true :=
  OpenClaim.laidByTextAt_later rfl rfl tie noOwnUnsafe
theorem sealVerifySpec_row_tie : Rows.sealVerifySpecRow.laidByTextAt .later Tryd.pinned [.widerDeep, .data] true :=
  OpenClaim.laidByTextAt_later rfl rfl tie noOwnUnsafe
theorem sealKeySpec_row_tie : Rows.sealKeySpecRow.laidByTextAt .later Tryd.pinned [.widerDeep, .data] true :=
  OpenClaim.laidByTextAt_later rfl rfl tie noOwnUnsafe
theorem sealVerifies_row_tie : Rows.sealVerifiesRow.laidByTextAt .later Tryd.pinned [.widerDeep, .data] true :=
  OpenClaim.laidByTextAt_later rfl rfl tie noOwnUnsafe
theorem sealUsed_row_tie : Rows.sealUsedRow.laidByTextAt .later Tryd.pinned [.widerDeep, .data] true :=
  OpenClaim.laidByTextAt_later rfl rfl tie noOwnUnsafe
theorem sealOpens_row_tie : Rows.sealOpensRow.laidByTextAt .later Tryd.pinned [.widerDeep, .data] true :=
  OpenClaim.laidByTextAt_later rfl rfl tie noOwnUnsafe
theorem sealBits_row_tie : Rows.sealBitsRow.laidByTextAt .later Tryd.pinned [.widerDeep, .data] true :=
  OpenClaim.laidByTextAt_later rfl rfl tie noOwnUnsafe
theorem sealShape_row_tie : Rows.sealShapeRow.laidByTextAt .later Tryd.pinned [.widerDeep, .data] true :=
  OpenClaim.laidByTextAt_later rfl rfl tie noOwnUnsafe
theorem sealSignSpecUpto_row_tie : Rows.sealSignSpecUptoRow.laidByTextAt .later Tryd.pinned [.widerDeep, .data] true :=
  OpenClaim.laidByTextAt_later rfl rfl tie noOwnUnsafe
theorem sealVerifySpecUpto_row_tie : Rows.sealVerifySpecUptoRow.laidByTextAt .later Tryd.pinned [.widerDeep, .data] true :=
  OpenClaim.laidByTextAt_later rfl rfl tie noOwnUnsafe
theorem sealKeySpecUpto_row_tie : Rows.sealKeySpecUptoRow.laidByTextAt .later Tryd.pinned [.widerDeep, .data] true :=
  OpenClaim.laidByTextAt_later rfl rfl tie noOwnUnsafe
theorem sealVerifiesUpto_row_tie : Rows.sealVerifiesUptoRow.laidByTextAt .later Tryd.pinned [.widerDeep, .data] true :=
  OpenClaim.laidByTextAt_later rfl rfl tie noOwnUnsafe
theorem sealUsedUpto_row_tie : Rows.sealUsedUptoRow.laidByTextAt .later Tryd.pinned [.widerDeep, .data] true :=
  OpenClaim.laidByTextAt_later rfl rfl tie noOwnUnsafe
theorem sealOpensUpto_row_tie : Rows.sealOpensUptoRow.laidByTextAt .later Tryd.pinned [.widerDeep, .data] true :=
  OpenClaim.laidByTextAt_later rfl rfl tie noOwnUnsafe
theorem sealBitsUpto_row_tie : Rows.sealBitsUptoRow.laidByTextAt .later Tryd.pinned [.widerDeep, .data] true :=
  OpenClaim.laidByTextAt_later rfl rfl tie noOwnUnsafe
theorem sealShapeUpto_row_tie : Rows.sealShapeUptoRow.laidByTextAt .later Tryd.pinned [.widerDeep, .data] true :=
  OpenClaim.laidByTextAt_later rfl rfl tie noOwnUnsafe
end Go.Proofs.YtmjgjopbeokajaaDoor
