/-
  DERIVED. GIVEN WITH THE SEED: THE PROGRAM's TIES (one call each: nine closed facts by the kernel) AND EACH ROW's TIE, after the 31st guide's Derived/Test/Toyas{Tie, Card}.lean. No idea stands in it: it is a product of the set-up. Laid BY PROGRAM, IN A SANDBOX (cutbox-door.mjs). By AI agents, Wed Nov 11 2026. No macro, syntax, notation, axiom, sorry.
-/
import Derived.Test.YtihgmaoghbnnaaaGreatDoorRows
import Derived.LaidByTextLater
import Derived.SevenTiedAt
import Derived.LaidSub
import Derived.LaidOnce
namespace Go.Proofs.YtihgmaoghbnnaaaGreatDoor
open Go
set_option maxRecDepth 100000
theorem seatTie1 : Tryz.prog.laidByTextLater [("stopwatch/digest.start", Rows.laid_stopwatch_digest_start), ("stopwatch/digest.permutations", Rows.laid_stopwatch_digest_permutations)] [.widerDeep, .data] true :=
  Program.laidByTextLater_by_one 29 8 161 (by kernel_rfl) (by kernel_rfl) (by kernel_rfl) (by kernel_rfl) (by kernel_rfl) (by kernel_rfl) (fun _ _ => by kernel_rfl)
theorem noOwnUnsafe : Tryz.pinned.checked.prog.headLifts.contains "ownunsafe" = false := by kernel_rfl
theorem tie : Tryz.prog.laidByTextLater [("stopwatch/digest.start", Rows.laid_stopwatch_digest_start), ("stopwatch/digest.permutations", Rows.laid_stopwatch_digest_permutations)] [.widerDeep, .data] true :=
  Program.laidByTextLater.sub seatTie1 ["stopwatch/digest.start", "stopwatch/digest.permutations"] (by kernel_rfl) (by kernel_rfl)
theorem mirrorVersionSpec_row_tie : Rows.mirrorVersionSpecRow.laidByTextAt .later Tryz.pinned [.widerDeep, .data] true :=
  OpenClaim.laidByTextAt_later rfl rfl tie noOwnUnsafe
theorem mirrorReceiveSpec_row_tie : Rows.mirrorReceiveSpecRow.laidByTextAt .later Tryz.pinned [.widerDeep, .data] true :=
  OpenClaim.laidByTextAt_later rfl rfl tie noOwnUnsafe
theorem mirrorVersionSpecUpto_row_tie : Rows.mirrorVersionSpecUptoRow.laidByTextAt .later Tryz.pinned [.widerDeep, .data] true :=
  OpenClaim.laidByTextAt_later rfl rfl tie noOwnUnsafe
theorem mirrorReceiveSpecUpto_row_tie : Rows.mirrorReceiveSpecUptoRow.laidByTextAt .later Tryz.pinned [.widerDeep, .data] true :=
  OpenClaim.laidByTextAt_later rfl rfl tie noOwnUnsafe
end Go.Proofs.YtihgmaoghbnnaaaGreatDoor
