/-
  DERIVED. GIVEN WITH THE SEED: THE CARDS: each row of YtihgmaoghbnnaaaGreatDoorRows.lean that lists a variable, with what it lists TIED to the program's text (the seventh form; the later family's looks); each row that meets fmt, with fmt's text TOLD by the authors' own Lean function (tested against real Go, not proved from fmt's source: count such statements apart). THE CARD IS WHAT COUNTS. Prove the row's statement (the work); the ties are given (YtihgmaoghbnnaaaGreatDoorTie.lean); close each card by the builder's one call (the guide's Derived/Test/ToyasCard.lean, 'card_holds'). Laid BY PROGRAM, IN A SANDBOX (cutbox-door.mjs). By AI agents, Wed Nov 11 2026. No macro, syntax, notation, axiom, sorry.
-/
import Derived.Test.YtihgmaoghbnnaaaGreatDoorRows
import GoSem.ClaimSeven
namespace Go.Proofs.YtihgmaoghbnnaaaGreatDoor
namespace Rows

/-- THE TIED CARD OF 'stopwatchlaw42.MirrorVersionSpec'. -/
def mirrorVersionSpecCard : Claim7 := { stood := { row := mirrorVersionSpecRow, standIns := [], harness := (true, "1f2726efd876c8a194f2cef11df967bb9ed6c130af92e5f848f8d53ca448436d"), looks := true }, kinds := [], alts := [], laidByText := true, laidKinds := [.widerDeep, .data], laidTests := true, laidLooks := .later }
def MirrorVersionSpecCardSaid : Prop := Claim7.holds Tryz.pinned (.plain (OpenSpec.ofChange mirrorVersionSpecSpec)) mirrorVersionSpecCard

/-- THE TIED CARD OF 'stopwatchlaw42.MirrorReceiveSpec'. -/
def mirrorReceiveSpecCard : Claim7 := { stood := { row := mirrorReceiveSpecRow, standIns := [], harness := (true, "1f2726efd876c8a194f2cef11df967bb9ed6c130af92e5f848f8d53ca448436d"), looks := true }, kinds := [], alts := [], laidByText := true, laidKinds := [.widerDeep, .data], laidTests := true, laidLooks := .later }
def MirrorReceiveSpecCardSaid : Prop := Claim7.holds Tryz.pinned (.plain (OpenSpec.ofChange mirrorReceiveSpecSpec)) mirrorReceiveSpecCard

/-- THE SECOND FORM's CARD OF 'stopwatchlaw42.MirrorVersionSpec'. -/
def mirrorVersionSpecUptoCard : Claim7 := { stood := { row := mirrorVersionSpecUptoRow, standIns := [], harness := (true, "1f2726efd876c8a194f2cef11df967bb9ed6c130af92e5f848f8d53ca448436d"), looks := true }, kinds := [], alts := [], laidByText := true, laidKinds := [.widerDeep, .data], laidTests := true, laidLooks := .later }
def MirrorVersionSpecUptoCardSaid : Prop := Claim7.holds Tryz.pinned (.plain (OpenSpec.upto mirrorVersionSpecSpec)) mirrorVersionSpecUptoCard

/-- THE SECOND FORM's CARD OF 'stopwatchlaw42.MirrorReceiveSpec'. -/
def mirrorReceiveSpecUptoCard : Claim7 := { stood := { row := mirrorReceiveSpecUptoRow, standIns := [], harness := (true, "1f2726efd876c8a194f2cef11df967bb9ed6c130af92e5f848f8d53ca448436d"), looks := true }, kinds := [], alts := [], laidByText := true, laidKinds := [.widerDeep, .data], laidTests := true, laidLooks := .later }
def MirrorReceiveSpecUptoCardSaid : Prop := Claim7.holds Tryz.pinned (.plain (OpenSpec.upto mirrorReceiveSpecSpec)) mirrorReceiveSpecUptoCard
end Rows
end Go.Proofs.YtihgmaoghbnnaaaGreatDoor
