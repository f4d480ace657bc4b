/-
  DERIVED. GIVEN WITH THE SEED: THE CARDS: each row of YtihgmaoghbnnaaaDoorRows.lean that lists a variable, with what it lists TIED to the program's text (the seventh form; the later family's looks); each row that meets fmt, with fmt's text TOLD by the authors' own Lean function (tested against real Go, not proved from fmt's source: count such statements apart). THE CARD IS WHAT COUNTS. Prove the row's statement (the work); the ties are given (YtihgmaoghbnnaaaDoorTie.lean); close each card by the builder's one call (the guide's Derived/Test/ToyasCard.lean, 'card_holds'). Laid BY PROGRAM, IN A SANDBOX (cutbox-door.mjs). By AI agents, Wed Nov 11 2026. No macro, syntax, notation, axiom, sorry.
-/
import Derived.Test.YtihgmaoghbnnaaaDoorRows
import GoSem.ClaimSeven
namespace Go.Proofs.YtihgmaoghbnnaaaDoor
namespace Rows

/-- THE TIED CARD OF 'stopwatchlaw42.MirrorStranger'. -/
def mirrorStrangerCard : Claim7 := { stood := { row := mirrorStrangerRow, standIns := [], harness := (true, "519b87feaa2b1706c583dbb793d59bf1c995baad4c23946dd126b01c5591167f"), looks := true }, kinds := [], alts := [], laidByText := true, laidKinds := [.widerDeep, .data], laidTests := true, laidLooks := .later }
def MirrorStrangerCardSaid : Prop := Claim7.holds Tryd.pinned (.plain (OpenSpec.ofChange mirrorStrangerSpec)) mirrorStrangerCard

/-- THE TIED CARD OF 'stopwatchlaw42.MirrorOrder'. -/
def mirrorOrderCard : Claim7 := { stood := { row := mirrorOrderRow, standIns := [], harness := (true, "519b87feaa2b1706c583dbb793d59bf1c995baad4c23946dd126b01c5591167f"), looks := true }, kinds := [], alts := [], laidByText := true, laidKinds := [.widerDeep, .data], laidTests := true, laidLooks := .later }
def MirrorOrderCardSaid : Prop := Claim7.holds Tryd.pinned (.plain (OpenSpec.ofChange mirrorOrderSpec)) mirrorOrderCard

/-- THE TIED CARD OF 'stopwatchlaw42.MirrorJoinSpec'. -/
def mirrorJoinSpecCard : Claim7 := { stood := { row := mirrorJoinSpecRow, standIns := [], harness := (true, "519b87feaa2b1706c583dbb793d59bf1c995baad4c23946dd126b01c5591167f"), looks := true }, kinds := [], alts := [], laidByText := true, laidKinds := [.widerDeep, .data], laidTests := true, laidLooks := .later }
def MirrorJoinSpecCardSaid : Prop := Claim7.holds Tryd.pinned (.plain (OpenSpec.ofChange mirrorJoinSpecSpec)) mirrorJoinSpecCard

/-- THE TIED CARD OF 'stopwatchlaw42.MirrorChain'. -/
def mirrorChainCard : Claim7 := { stood := { row := mirrorChainRow, standIns := [], harness := (true, "519b87feaa2b1706c583dbb793d59bf1c995baad4c23946dd126b01c5591167f"), looks := true }, kinds := [], alts := [], laidByText := true, laidKinds := [.widerDeep, .data], laidTests := true, laidLooks := .later }
def MirrorChainCardSaid : Prop := Claim7.holds Tryd.pinned (.plain (OpenSpec.ofChange mirrorChainSpec)) mirrorChainCard

/-- THE TIED CARD OF 'stopwatchlaw42.MirrorNumbers'. -/
def mirrorNumbersCard : Claim7 := { stood := { row := mirrorNumbersRow, standIns := [], harness := (true, "519b87feaa2b1706c583dbb793d59bf1c995baad4c23946dd126b01c5591167f"), looks := true }, kinds := [], alts := [], laidByText := true, laidKinds := [.widerDeep, .data], laidTests := true, laidLooks := .later }
def MirrorNumbersCardSaid : Prop := Claim7.holds Tryd.pinned (.plain (OpenSpec.ofChange mirrorNumbersSpec)) mirrorNumbersCard

/-- THE SECOND FORM's CARD OF 'stopwatchlaw42.MirrorStranger'. -/
def mirrorStrangerUptoCard : Claim7 := { stood := { row := mirrorStrangerUptoRow, standIns := [], harness := (true, "519b87feaa2b1706c583dbb793d59bf1c995baad4c23946dd126b01c5591167f"), looks := true }, kinds := [], alts := [], laidByText := true, laidKinds := [.widerDeep, .data], laidTests := true, laidLooks := .later }
def MirrorStrangerUptoCardSaid : Prop := Claim7.holds Tryd.pinned (.plain (OpenSpec.upto mirrorStrangerSpec)) mirrorStrangerUptoCard

/-- THE SECOND FORM's CARD OF 'stopwatchlaw42.MirrorOrder'. -/
def mirrorOrderUptoCard : Claim7 := { stood := { row := mirrorOrderUptoRow, standIns := [], harness := (true, "519b87feaa2b1706c583dbb793d59bf1c995baad4c23946dd126b01c5591167f"), looks := true }, kinds := [], alts := [], laidByText := true, laidKinds := [.widerDeep, .data], laidTests := true, laidLooks := .later }
def MirrorOrderUptoCardSaid : Prop := Claim7.holds Tryd.pinned (.plain (OpenSpec.upto mirrorOrderSpec)) mirrorOrderUptoCard

/-- THE SECOND FORM's CARD OF 'stopwatchlaw42.MirrorJoinSpec'. -/
def mirrorJoinSpecUptoCard : Claim7 := { stood := { row := mirrorJoinSpecUptoRow, standIns := [], harness := (true, "519b87feaa2b1706c583dbb793d59bf1c995baad4c23946dd126b01c5591167f"), looks := true }, kinds := [], alts := [], laidByText := true, laidKinds := [.widerDeep, .data], laidTests := true, laidLooks := .later }
def MirrorJoinSpecUptoCardSaid : Prop := Claim7.holds Tryd.pinned (.plain (OpenSpec.upto mirrorJoinSpecSpec)) mirrorJoinSpecUptoCard

/-- THE SECOND FORM's CARD OF 'stopwatchlaw42.MirrorChain'. -/
def mirrorChainUptoCard : Claim7 := { stood := { row := mirrorChainUptoRow, standIns := [], harness := (true, "519b87feaa2b1706c583dbb793d59bf1c995baad4c23946dd126b01c5591167f"), looks := true }, kinds := [], alts := [], laidByText := true, laidKinds := [.widerDeep, .data], laidTests := true, laidLooks := .later }
def MirrorChainUptoCardSaid : Prop := Claim7.holds Tryd.pinned (.plain (OpenSpec.upto mirrorChainSpec)) mirrorChainUptoCard

/-- THE SECOND FORM's CARD OF 'stopwatchlaw42.MirrorNumbers'. -/
def mirrorNumbersUptoCard : Claim7 := { stood := { row := mirrorNumbersUptoRow, standIns := [], harness := (true, "519b87feaa2b1706c583dbb793d59bf1c995baad4c23946dd126b01c5591167f"), looks := true }, kinds := [], alts := [], laidByText := true, laidKinds := [.widerDeep, .data], laidTests := true, laidLooks := .later }
def MirrorNumbersUptoCardSaid : Prop := Claim7.holds Tryd.pinned (.plain (OpenSpec.upto mirrorNumbersSpec)) mirrorNumbersUptoCard
end Rows
end Go.Proofs.YtihgmaoghbnnaaaDoor
