/-
  DERIVED. GIVEN WITH THE SEED: THE CARDS: each row of YtgbdljlapmjmnaaGreatDoorRows.lean that lists a variable, with what it lists TIED to the program's text (the seventh form; the later family's looks); each row that meets fmt, with fmt's text TOLD by the authors' own Lean function (tested against real Go, not proved from fmt's source: count such statements apart). THE CARD IS WHAT COUNTS. Prove the row's statement (the work); the ties are given (YtgbdljlapmjmnaaGreatDoorTie.lean); close each card by the builder's one call (the guide's Derived/Test/ToyasCard.lean, 'card_holds'). Laid BY PROGRAM, IN A SANDBOX (cutbox-door.mjs). By AI agents, Wed Nov 11 2026. No macro, syntax, notation, axiom, sorry.
-/
import Derived.Test.YtgbdljlapmjmnaaGreatDoorRows
import GoSem.ClaimSeven
namespace Go.Proofs.YtgbdljlapmjmnaaGreatDoor
namespace Rows

/-- THE TIED CARD OF 'huddlelaw31.RelayRows'. -/
def relayRowsCard : Claim7 := { stood := { row := relayRowsRow, standIns := [], harness := (true, "21a1399a7e80faf1308fc7dc20e3f60affe53aa06a5131232a0aae069820b3a7"), looks := false }, kinds := [], alts := [], laidByText := true, laidKinds := [.data], laidTests := true, laidLooks := .later }
def RelayRowsCardSaid : Prop := Claim7.holds Tryz.pinned (.plain (OpenSpec.ofChange relayRowsSpec)) relayRowsCard

/-- THE TIED CARD OF 'huddlelaw31.RelayTrusts'. -/
def relayTrustsCard : Claim7 := { stood := { row := relayTrustsRow, standIns := [], harness := (true, "21a1399a7e80faf1308fc7dc20e3f60affe53aa06a5131232a0aae069820b3a7"), looks := false }, kinds := [], alts := [], laidByText := true, laidKinds := [.data], laidTests := true, laidLooks := .later }
def RelayTrustsCardSaid : Prop := Claim7.holds Tryz.pinned (.plain (OpenSpec.ofChange relayTrustsSpec)) relayTrustsCard

/-- THE TIED CARD OF 'huddlelaw31.RelayWhole'. -/
def relayWholeCard : Claim7 := { stood := { row := relayWholeRow, standIns := [], harness := (true, "21a1399a7e80faf1308fc7dc20e3f60affe53aa06a5131232a0aae069820b3a7"), looks := false }, kinds := [], alts := [], laidByText := true, laidKinds := [.data], laidTests := true, laidLooks := .later }
def RelayWholeCardSaid : Prop := Claim7.holds Tryz.pinned (.plain (OpenSpec.ofChange relayWholeSpec)) relayWholeCard

/-- THE TIED CARD OF 'huddlelaw31.RelayPlays'. -/
def relayPlaysCard : Claim7 := { stood := { row := relayPlaysRow, standIns := [], harness := (true, "21a1399a7e80faf1308fc7dc20e3f60affe53aa06a5131232a0aae069820b3a7"), looks := false }, kinds := [], alts := [], laidByText := true, laidKinds := [.data], laidTests := true, laidLooks := .later }
def RelayPlaysCardSaid : Prop := Claim7.holds Tryz.pinned (.plain (OpenSpec.ofChange relayPlaysSpec)) relayPlaysCard

/-- THE TIED CARD OF 'huddlelaw31.RelayForward'. -/
def relayForwardCard : Claim7 := { stood := { row := relayForwardRow, standIns := [], harness := (true, "21a1399a7e80faf1308fc7dc20e3f60affe53aa06a5131232a0aae069820b3a7"), looks := false }, kinds := [], alts := [], laidByText := true, laidKinds := [.data], laidTests := true, laidLooks := .later }
def RelayForwardCardSaid : Prop := Claim7.holds Tryz.pinned (.plain (OpenSpec.ofChange relayForwardSpec)) relayForwardCard

/-- THE TIED CARD OF 'huddlelaw31.RelayBoth'. -/
def relayBothCard : Claim7 := { stood := { row := relayBothRow, standIns := [], harness := (true, "21a1399a7e80faf1308fc7dc20e3f60affe53aa06a5131232a0aae069820b3a7"), looks := false }, kinds := [], alts := [], laidByText := true, laidKinds := [.data], laidTests := true, laidLooks := .later }
def RelayBothCardSaid : Prop := Claim7.holds Tryz.pinned (.plain (OpenSpec.ofChange relayBothSpec)) relayBothCard

/-- THE TIED CARD OF 'huddlelaw31.RelayRow'. -/
def relayRowCard : Claim7 := { stood := { row := relayRowRow, standIns := [], harness := (true, "21a1399a7e80faf1308fc7dc20e3f60affe53aa06a5131232a0aae069820b3a7"), looks := false }, kinds := [], alts := [], laidByText := true, laidKinds := [.data], laidTests := true, laidLooks := .later }
def RelayRowCardSaid : Prop := Claim7.holds Tryz.pinned (.plain (OpenSpec.ofChange relayRowSpec)) relayRowCard

/-- THE SECOND FORM's CARD OF 'huddlelaw31.RelayRows'. -/
def relayRowsUptoCard : Claim7 := { stood := { row := relayRowsUptoRow, standIns := [], harness := (true, "21a1399a7e80faf1308fc7dc20e3f60affe53aa06a5131232a0aae069820b3a7"), looks := false }, kinds := [], alts := [], laidByText := true, laidKinds := [.data], laidTests := true, laidLooks := .later }
def RelayRowsUptoCardSaid : Prop := Claim7.holds Tryz.pinned (.plain (OpenSpec.upto relayRowsSpec)) relayRowsUptoCard

/-- THE SECOND FORM's CARD OF 'huddlelaw31.RelayTrusts'. -/
def relayTrustsUptoCard : Claim7 := { stood := { row := relayTrustsUptoRow, standIns := [], harness := (true, "21a1399a7e80faf1308fc7dc20e3f60affe53aa06a5131232a0aae069820b3a7"), looks := false }, kinds := [], alts := [], laidByText := true, laidKinds := [.data], laidTests := true, laidLooks := .later }
def RelayTrustsUptoCardSaid : Prop := Claim7.holds Tryz.pinned (.plain (OpenSpec.upto relayTrustsSpec)) relayTrustsUptoCard

/-- THE SECOND FORM's CARD OF 'huddlelaw31.RelayWhole'. -/
def relayWholeUptoCard : Claim7 := { stood := { row := relayWholeUptoRow, standIns := [], harness := (true, "21a1399a7e80faf1308fc7dc20e3f60affe53aa06a5131232a0aae069820b3a7"), looks := false }, kinds := [], alts := [], laidByText := true, laidKinds := [.data], laidTests := true, laidLooks := .later }
def RelayWholeUptoCardSaid : Prop := Claim7.holds Tryz.pinned (.plain (OpenSpec.upto relayWholeSpec)) relayWholeUptoCard

/-- THE SECOND FORM's CARD OF 'huddlelaw31.RelayPlays'. -/
def relayPlaysUptoCard : Claim7 := { stood := { row := relayPlaysUptoRow, standIns := [], harness := (true, "21a1399a7e80faf1308fc7dc20e3f60affe53aa06a5131232a0aae069820b3a7"), looks := false }, kinds := [], alts := [], laidByText := true, laidKinds := [.data], laidTests := true, laidLooks := .later }
def RelayPlaysUptoCardSaid : Prop := Claim7.holds Tryz.pinned (.plain (OpenSpec.upto relayPlaysSpec)) relayPlaysUptoCard

/-- THE SECOND FORM's CARD OF 'huddlelaw31.RelayForward'. -/
def relayForwardUptoCard : Claim7 := { stood := { row := relayForwardUptoRow, standIns := [], harness := (true, "21a1399a7e80faf1308fc7dc20e3f60affe53aa06a5131232a0aae069820b3a7"), looks := false }, kinds := [], alts := [], laidByText := true, laidKinds := [.data], laidTests := true, laidLooks := .later }
def RelayForwardUptoCardSaid : Prop := Claim7.holds Tryz.pinned (.plain (OpenSpec.upto relayForwardSpec)) relayForwardUptoCard

/-- THE SECOND FORM's CARD OF 'huddlelaw31.RelayBoth'. -/
def relayBothUptoCard : Claim7 := { stood := { row := relayBothUptoRow, standIns := [], harness := (true, "21a1399a7e80faf1308fc7dc20e3f60affe53aa06a5131232a0aae069820b3a7"), looks := false }, kinds := [], alts := [], laidByText := true, laidKinds := [.data], laidTests := true, laidLooks := .later }
def RelayBothUptoCardSaid : Prop := Claim7.holds Tryz.pinned (.plain (OpenSpec.upto relayBothSpec)) relayBothUptoCard

/-- THE SECOND FORM's CARD OF 'huddlelaw31.RelayRow'. -/
def relayRowUptoCard : Claim7 := { stood := { row := relayRowUptoRow, standIns := [], harness := (true, "21a1399a7e80faf1308fc7dc20e3f60affe53aa06a5131232a0aae069820b3a7"), looks := false }, kinds := [], alts := [], laidByText := true, laidKinds := [.data], laidTests := true, laidLooks := .later }
def RelayRowUptoCardSaid : Prop := Claim7.holds Tryz.pinned (.plain (OpenSpec.upto relayRowSpec)) relayRowUptoCard
end Rows
end Go.Proofs.YtgbdljlapmjmnaaGreatDoor
