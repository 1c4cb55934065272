/-
  DERIVED. GIVEN WITH THE SEED: THE CARDS: each row of YthmlaigpdpdpjaaGreatDoorRows.lean that lists a variable, with what it lists TIED to the program's text (the seventh form; the later family's looks); each row that meets fmt, with fmt's text TOLD by the authors' own Lean function (tested against real Go, not proved from fmt's source: count such statements apart). THE CARD IS WHAT COUNTS. Prove the row's statement (the work); the ties are given (YthmlaigpdpdpjaaGreatDoorTie.lean); close each card by the builder's one call (the guide's Derived/Test/ToyasCard.lean, 'card_holds'). Laid BY PROGRAM, IN A SANDBOX (cutbox-door.mjs). By AI agents, Wed Nov 11 2026. No macro, syntax, notation, axiom, sorry.
-/
import Derived.Test.YthmlaigpdpdpjaaGreatDoorRows
import GoSem.ClaimSeven
namespace Go.Proofs.YthmlaigpdpdpjaaGreatDoor
namespace Rows

/-- THE TIED CARD OF 'huddlelaw11.OpChecks'. -/
def opChecksCard : Claim7 := { stood := { row := opChecksRow, standIns := [], harness := (true, "a86f0e2e3a6d6ae0acf804c2a7f606bf46d2136768d5dc578bbad353475d05a0"), looks := false }, kinds := [], alts := [], laidByText := true, laidKinds := [.data], laidTests := true, laidLooks := .later }
def OpChecksCardSaid : Prop := Claim7.holds Tryz.pinned (.plain (OpenSpec.ofChange opChecksSpec)) opChecksCard

/-- THE TIED CARD OF 'huddlelaw11.OpOwns'. -/
def opOwnsCard : Claim7 := { stood := { row := opOwnsRow, standIns := [], harness := (true, "a86f0e2e3a6d6ae0acf804c2a7f606bf46d2136768d5dc578bbad353475d05a0"), looks := false }, kinds := [], alts := [], laidByText := true, laidKinds := [.data], laidTests := true, laidLooks := .later }
def OpOwnsCardSaid : Prop := Claim7.holds Tryz.pinned (.plain (OpenSpec.ofChange opOwnsSpec)) opOwnsCard

/-- THE TIED CARD OF 'huddlelaw11.OpSigns'. -/
def opSignsCard : Claim7 := { stood := { row := opSignsRow, standIns := [], harness := (true, "a86f0e2e3a6d6ae0acf804c2a7f606bf46d2136768d5dc578bbad353475d05a0"), looks := false }, kinds := [], alts := [], laidByText := true, laidKinds := [.data], laidTests := true, laidLooks := .later }
def OpSignsCardSaid : Prop := Claim7.holds Tryz.pinned (.plain (OpenSpec.ofChange opSignsSpec)) opSignsCard

/-- THE SECOND FORM's CARD OF 'huddlelaw11.OpChecks'. -/
def opChecksUptoCard : Claim7 := { stood := { row := opChecksUptoRow, standIns := [], harness := (true, "a86f0e2e3a6d6ae0acf804c2a7f606bf46d2136768d5dc578bbad353475d05a0"), looks := false }, kinds := [], alts := [], laidByText := true, laidKinds := [.data], laidTests := true, laidLooks := .later }
def OpChecksUptoCardSaid : Prop := Claim7.holds Tryz.pinned (.plain (OpenSpec.upto opChecksSpec)) opChecksUptoCard

/-- THE SECOND FORM's CARD OF 'huddlelaw11.OpOwns'. -/
def opOwnsUptoCard : Claim7 := { stood := { row := opOwnsUptoRow, standIns := [], harness := (true, "a86f0e2e3a6d6ae0acf804c2a7f606bf46d2136768d5dc578bbad353475d05a0"), looks := false }, kinds := [], alts := [], laidByText := true, laidKinds := [.data], laidTests := true, laidLooks := .later }
def OpOwnsUptoCardSaid : Prop := Claim7.holds Tryz.pinned (.plain (OpenSpec.upto opOwnsSpec)) opOwnsUptoCard

/-- THE SECOND FORM's CARD OF 'huddlelaw11.OpSigns'. -/
def opSignsUptoCard : Claim7 := { stood := { row := opSignsUptoRow, standIns := [], harness := (true, "a86f0e2e3a6d6ae0acf804c2a7f606bf46d2136768d5dc578bbad353475d05a0"), looks := false }, kinds := [], alts := [], laidByText := true, laidKinds := [.data], laidTests := true, laidLooks := .later }
def OpSignsUptoCardSaid : Prop := Claim7.holds Tryz.pinned (.plain (OpenSpec.upto opSignsSpec)) opSignsUptoCard
end Rows
end Go.Proofs.YthmlaigpdpdpjaaGreatDoor
