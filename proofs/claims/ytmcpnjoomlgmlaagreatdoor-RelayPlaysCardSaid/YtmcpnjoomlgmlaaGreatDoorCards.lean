/-
  DERIVED. GIVEN WITH THE SEED: THE CARDS: each row of YtmcpnjoomlgmlaaGreatDoorRows.lean that lists a variable, with what it lists TIED to the program's text (the seventh form; the later family's looks); each row that meets fmt, with fmt's text TOLD by the authors' own Lean function (tested against real Go, not proved from fmt's source: count such statements apart). THE CARD IS WHAT COUNTS. Prove the row's statement (the work); the ties are given (YtmcpnjoomlgmlaaGreatDoorTie.lean); close each card by the builder's one call (the guide's Derived/Test/ToyasCard.lean, 'card_holds'). Laid BY PROGRAM, IN A SANDBOX (cutbox-door.mjs). By AI agents, Wed Nov 11 2026. No macro, syntax, notation, axiom, sorry.
-/
import Derived.Test.YtmcpnjoomlgmlaaGreatDoorRows
import GoSem.ClaimSeven
namespace Go.Proofs.YtmcpnjoomlgmlaaGreatDoor
namespace Rows

/-- THE TIED CARD OF 'huddlelaw31.RelayPlays'. -/
def relayPlaysCard : Claim7 := { stood := { row := relayPlaysRow, standIns := [], harness := (true, "2f3a27bcf879e67f2274956c545ae7b3ec71a769b9649d691631f46795e5a69b"), looks := false }, kinds := [], alts := [], laidByText := true, laidKinds := [.data], laidTests := true, laidLooks := .later }
def RelayPlaysCardSaid : Prop := Claim7.holds Tryz.pinned (.plain (OpenSpec.ofChange relayPlaysSpec)) relayPlaysCard

/-- THE TIED CARD OF 'huddlelaw31.RelayRow'. -/
def relayRowCard : Claim7 := { stood := { row := relayRowRow, standIns := [], harness := (true, "2f3a27bcf879e67f2274956c545ae7b3ec71a769b9649d691631f46795e5a69b"), looks := false }, kinds := [], alts := [], laidByText := true, laidKinds := [.data], laidTests := true, laidLooks := .later }
def RelayRowCardSaid : Prop := Claim7.holds Tryz.pinned (.plain (OpenSpec.ofChange relayRowSpec)) relayRowCard

/-- THE SECOND FORM's CARD OF 'huddlelaw31.RelayPlays'. -/
def relayPlaysUptoCard : Claim7 := { stood := { row := relayPlaysUptoRow, standIns := [], harness := (true, "2f3a27bcf879e67f2274956c545ae7b3ec71a769b9649d691631f46795e5a69b"), looks := false }, kinds := [], alts := [], laidByText := true, laidKinds := [.data], laidTests := true, laidLooks := .later }
def RelayPlaysUptoCardSaid : Prop := Claim7.holds Tryz.pinned (.plain (OpenSpec.upto relayPlaysSpec)) relayPlaysUptoCard

/-- THE SECOND FORM's CARD OF 'huddlelaw31.RelayRow'. -/
def relayRowUptoCard : Claim7 := { stood := { row := relayRowUptoRow, standIns := [], harness := (true, "2f3a27bcf879e67f2274956c545ae7b3ec71a769b9649d691631f46795e5a69b"), looks := false }, kinds := [], alts := [], laidByText := true, laidKinds := [.data], laidTests := true, laidLooks := .later }
def RelayRowUptoCardSaid : Prop := Claim7.holds Tryz.pinned (.plain (OpenSpec.upto relayRowSpec)) relayRowUptoCard
end Rows
end Go.Proofs.YtmcpnjoomlgmlaaGreatDoor
