/-
  DERIVED. GIVEN WITH THE SEED: THE CARDS: each row of YtahcddlgghipjaaGreatDoorRows.lean that lists a variable, with what it lists TIED to the program's text (the seventh form; the later family's looks); each row that meets fmt, with fmt's text TOLD by the authors' own Lean function (tested against real Go, not proved from fmt's source: count such statements apart). THE CARD IS WHAT COUNTS. Prove the row's statement (the work); the ties are given (YtahcddlgghipjaaGreatDoorTie.lean); close each card by the builder's one call (the guide's Derived/Test/ToyasCard.lean, 'card_holds'). Laid BY PROGRAM, IN A SANDBOX (cutbox-door.mjs). By AI agents, Wed Nov 11 2026. No macro, syntax, notation, axiom, sorry.
-/
import Derived.Test.YtahcddlgghipjaaGreatDoorRows
import GoSem.ClaimSeven
namespace Go.Proofs.YtahcddlgghipjaaGreatDoor
namespace Rows

/-- THE TIED CARD OF 'huddlelaw11.OpChecks'. -/
def opChecksCard : Claim7 := { stood := { row := opChecksRow, standIns := [], harness := (true, "e0a40b19b49ef146562d89e7521b1752c01c96a1b943ca9f53df84731ef393e7"), looks := false }, kinds := [], alts := [], laidByText := true, laidKinds := [.data], laidTests := true, laidLooks := .later }
def OpChecksCardSaid : Prop := Claim7.holds Tryz.pinned (.plain (OpenSpec.ofChange opChecksSpec)) opChecksCard

/-- THE SECOND FORM's CARD OF 'huddlelaw11.OpChecks'. -/
def opChecksUptoCard : Claim7 := { stood := { row := opChecksUptoRow, standIns := [], harness := (true, "e0a40b19b49ef146562d89e7521b1752c01c96a1b943ca9f53df84731ef393e7"), looks := false }, kinds := [], alts := [], laidByText := true, laidKinds := [.data], laidTests := true, laidLooks := .later }
def OpChecksUptoCardSaid : Prop := Claim7.holds Tryz.pinned (.plain (OpenSpec.upto opChecksSpec)) opChecksUptoCard
end Rows
end Go.Proofs.YtahcddlgghipjaaGreatDoor
