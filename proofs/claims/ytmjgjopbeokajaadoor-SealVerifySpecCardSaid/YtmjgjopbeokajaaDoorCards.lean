/-
  DERIVED. GIVEN WITH THE SEED: THE CARDS: each row of YtmjgjopbeokajaaDoorRows.lean that lists a variable, with what it lists TIED to the program's text (the seventh form; the later family's looks); each row that meets fmt, with fmt's text TOLD by the authors' own Lean function (tested against real Go, not proved from fmt's source: count such statements apart). THE CARD IS WHAT COUNTS. Prove the row's statement (the work); the ties are given (YtmjgjopbeokajaaDoorTie.lean); close each card by the builder's one call (the guide's Derived/Test/ToyasCard.lean, 'card_holds'). Laid BY PROGRAM, IN A SANDBOX (cutbox-door.mjs). By AI agents, Wed Nov 11 2026. No macro, syntax, notation, axiom, sorry.
-/
import Derived.Test.YtmjgjopbeokajaaDoorRows
import GoSem.ClaimSeven
namespace Go.Proofs.YtmjgjopbeokajaaDoor
namespace Rows

/-- THE TIED CARD OF 'stopwatchlaw04.SealSignSpec'. -/
def sealSignSpecCard : Claim7 := { stood := { row := sealSignSpecRow, standIns := [], harness := (true, "9a0cfcac09aa971a60469a0ebee284cd248411a4e44a8668156ef9e4633659ca"), looks := false }, kinds := [], alts := [], laidByText := true, laidKinds := [.widerDeep, .data], laidTests := true, laidLooks := .later }
def SealSignSpecCardSaid : Prop := Claim7.holds Tryd.pinned (.plain (OpenSpec.ofChange sealSignSpecSpec)) sealSignSpecCard

/-- THE TIED CARD OF 'stopwatchlaw04.SealVerifySpec'. -/
def sealVerifySpecCard : Claim7 := { stood := { row := sealVerifySpecRow, standIns := [], harness := (true, "9a0cfcac09aa971a60469a0ebee284cd248411a4e44a8668156ef9e4633659ca"), looks := false }, kinds := [], alts := [], laidByText := true, laidKinds := [.widerDeep, .data], laidTests := true, laidLooks := .later }
def SealVerifySpecCardSaid : Prop := Claim7.holds Tryd.pinned (.plain (OpenSpec.ofChange sealVerifySpecSpec)) sealVerifySpecCard

/-- THE TIED CARD OF 'stopwatchlaw04.SealKeySpec'. -/
def sealKeySpecCard : Claim7 := { stood := { row := sealKeySpecRow, standIns := [], harness := (true, "9a0cfcac09aa971a60469a0ebee284cd248411a4e44a8668156ef9e4633659ca"), looks := false }, kinds := [], alts := [], laidByText := true, laidKinds := [.widerDeep, .data], laidTests := true, laidLooks := .later }
def SealKeySpecCardSaid : Prop := Claim7.holds Tryd.pinned (.plain (OpenSpec.ofChange sealKeySpecSpec)) sealKeySpecCard

/-- THE TIED CARD OF 'stopwatchlaw04.SealVerifies'. -/
def sealVerifiesCard : Claim7 := { stood := { row := sealVerifiesRow, standIns := [], harness := (true, "9a0cfcac09aa971a60469a0ebee284cd248411a4e44a8668156ef9e4633659ca"), looks := false }, kinds := [], alts := [], laidByText := true, laidKinds := [.widerDeep, .data], laidTests := true, laidLooks := .later }
def SealVerifiesCardSaid : Prop := Claim7.holds Tryd.pinned (.plain (OpenSpec.ofChange sealVerifiesSpec)) sealVerifiesCard

/-- THE TIED CARD OF 'stopwatchlaw04.SealUsed'. -/
def sealUsedCard : Claim7 := { stood := { row := sealUsedRow, standIns := [], harness := (true, "9a0cfcac09aa971a60469a0ebee284cd248411a4e44a8668156ef9e4633659ca"), looks := false }, kinds := [], alts := [], laidByText := true, laidKinds := [.widerDeep, .data], laidTests := true, laidLooks := .later }
def SealUsedCardSaid : Prop := Claim7.holds Tryd.pinned (.plain (OpenSpec.ofChange sealUsedSpec)) sealUsedCard

/-- THE TIED CARD OF 'stopwatchlaw04.SealOpens'. -/
def sealOpensCard : Claim7 := { stood := { row := sealOpensRow, standIns := [], harness := (true, "9a0cfcac09aa971a60469a0ebee284cd248411a4e44a8668156ef9e4633659ca"), looks := false }, kinds := [], alts := [], laidByText := true, laidKinds := [.widerDeep, .data], laidTests := true, laidLooks := .later }
def SealOpensCardSaid : Prop := Claim7.holds Tryd.pinned (.plain (OpenSpec.ofChange sealOpensSpec)) sealOpensCard

/-- THE TIED CARD OF 'stopwatchlaw04.SealBits'. -/
def sealBitsCard : Claim7 := { stood := { row := sealBitsRow, standIns := [], harness := (true, "9a0cfcac09aa971a60469a0ebee284cd248411a4e44a8668156ef9e4633659ca"), looks := false }, kinds := [], alts := [], laidByText := true, laidKinds := [.widerDeep, .data], laidTests := true, laidLooks := .later }
def SealBitsCardSaid : Prop := Claim7.holds Tryd.pinned (.plain (OpenSpec.ofChange sealBitsSpec)) sealBitsCard

/-- THE TIED CARD OF 'stopwatchlaw04.SealShape'. -/
def sealShapeCard : Claim7 := { stood := { row := sealShapeRow, standIns := [], harness := (true, "9a0cfcac09aa971a60469a0ebee284cd248411a4e44a8668156ef9e4633659ca"), looks := false }, kinds := [], alts := [], laidByText := true, laidKinds := [.widerDeep, .data], laidTests := true, laidLooks := .later }
def SealShapeCardSaid : Prop := Claim7.holds Tryd.pinned (.plain (OpenSpec.ofChange sealShapeSpec)) sealShapeCard

/-- THE SECOND FORM's CARD OF 'stopwatchlaw04.SealSignSpec'. -/
def sealSignSpecUptoCard : Claim7 := { stood := { row := sealSignSpecUptoRow, standIns := [], harness := (true, "9a0cfcac09aa971a60469a0ebee284cd248411a4e44a8668156ef9e4633659ca"), looks := false }, kinds := [], alts := [], laidByText := true, laidKinds := [.widerDeep, .data], laidTests := true, laidLooks := .later }
def SealSignSpecUptoCardSaid : Prop := Claim7.holds Tryd.pinned (.plain (OpenSpec.upto sealSignSpecSpec)) sealSignSpecUptoCard

/-- THE SECOND FORM's CARD OF 'stopwatchlaw04.SealVerifySpec'. -/
def sealVerifySpecUptoCard : Claim7 := { stood := { row := sealVerifySpecUptoRow, standIns := [], harness := (true, "9a0cfcac09aa971a60469a0ebee284cd248411a4e44a8668156ef9e4633659ca"), looks := false }, kinds := [], alts := [], laidByText := true, laidKinds := [.widerDeep, .data], laidTests := true, laidLooks := .later }
def SealVerifySpecUptoCardSaid : Prop := Claim7.holds Tryd.pinned (.plain (OpenSpec.upto sealVerifySpecSpec)) sealVerifySpecUptoCard

/-- THE SECOND FORM's CARD OF 'stopwatchlaw04.SealKeySpec'. -/
def sealKeySpecUptoCard : Claim7 := { stood := { row := sealKeySpecUptoRow, standIns := [], harness := (true, "9a0cfcac09aa971a60469a0ebee284cd248411a4e44a8668156ef9e4633659ca"), looks := false }, kinds := [], alts := [], laidByText := true, laidKinds := [.widerDeep, .data], laidTests := true, laidLooks := .later }
def SealKeySpecUptoCardSaid : Prop := Claim7.holds Tryd.pinned (.plain (OpenSpec.upto sealKeySpecSpec)) sealKeySpecUptoCard

/-- THE SECOND FORM's CARD OF 'stopwatchlaw04.SealVerifies'. -/
def sealVerifiesUptoCard : Claim7 := { stood := { row := sealVerifiesUptoRow, standIns := [], harness := (true, "9a0cfcac09aa971a60469a0ebee284cd248411a4e44a8668156ef9e4633659ca"), looks := false }, kinds := [], alts := [], laidByText := true, laidKinds := [.widerDeep, .data], laidTests := true, laidLooks := .later }
def SealVerifiesUptoCardSaid : Prop := Claim7.holds Tryd.pinned (.plain (OpenSpec.upto sealVerifiesSpec)) sealVerifiesUptoCard

/-- THE SECOND FORM's CARD OF 'stopwatchlaw04.SealUsed'. -/
def sealUsedUptoCard : Claim7 := { stood := { row := sealUsedUptoRow, standIns := [], harness := (true, "9a0cfcac09aa971a60469a0ebee284cd248411a4e44a8668156ef9e4633659ca"), looks := false }, kinds := [], alts := [], laidByText := true, laidKinds := [.widerDeep, .data], laidTests := true, laidLooks := .later }
def SealUsedUptoCardSaid : Prop := Claim7.holds Tryd.pinned (.plain (OpenSpec.upto sealUsedSpec)) sealUsedUptoCard

/-- THE SECOND FORM's CARD OF 'stopwatchlaw04.SealOpens'. -/
def sealOpensUptoCard : Claim7 := { stood := { row := sealOpensUptoRow, standIns := [], harness := (true, "9a0cfcac09aa971a60469a0ebee284cd248411a4e44a8668156ef9e4633659ca"), looks := false }, kinds := [], alts := [], laidByText := true, laidKinds := [.widerDeep, .data], laidTests := true, laidLooks := .later }
def SealOpensUptoCardSaid : Prop := Claim7.holds Tryd.pinned (.plain (OpenSpec.upto sealOpensSpec)) sealOpensUptoCard

/-- THE SECOND FORM's CARD OF 'stopwatchlaw04.SealBits'. -/
def sealBitsUptoCard : Claim7 := { stood := { row := sealBitsUptoRow, standIns := [], harness := (true, "9a0cfcac09aa971a60469a0ebee284cd248411a4e44a8668156ef9e4633659ca"), looks := false }, kinds := [], alts := [], laidByText := true, laidKinds := [.widerDeep, .data], laidTests := true, laidLooks := .later }
def SealBitsUptoCardSaid : Prop := Claim7.holds Tryd.pinned (.plain (OpenSpec.upto sealBitsSpec)) sealBitsUptoCard

/-- THE SECOND FORM's CARD OF 'stopwatchlaw04.SealShape'. -/
def sealShapeUptoCard : Claim7 := { stood := { row := sealShapeUptoRow, standIns := [], harness := (true, "9a0cfcac09aa971a60469a0ebee284cd248411a4e44a8668156ef9e4633659ca"), looks := false }, kinds := [], alts := [], laidByText := true, laidKinds := [.widerDeep, .data], laidTests := true, laidLooks := .later }
def SealShapeUptoCardSaid : Prop := Claim7.holds Tryd.pinned (.plain (OpenSpec.upto sealShapeSpec)) sealShapeUptoCard
end Rows
end Go.Proofs.YtmjgjopbeokajaaDoor
