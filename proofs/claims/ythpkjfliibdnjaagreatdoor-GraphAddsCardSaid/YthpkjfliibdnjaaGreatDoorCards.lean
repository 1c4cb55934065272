/-
  DERIVED. GIVEN WITH THE SEED: THE CARDS: each row of YthpkjfliibdnjaaGreatDoorRows.lean that lists a variable, with what it lists TIED to the program's text (the seventh form; the later family's looks); each row that meets fmt, with fmt's text TOLD by the authors' own Lean function (tested against real Go, not proved from fmt's source: count such statements apart). THE CARD IS WHAT COUNTS. Prove the row's statement (the work); the ties are given (YthpkjfliibdnjaaGreatDoorTie.lean); close each card by the builder's one call (the guide's Derived/Test/ToyasCard.lean, 'card_holds'). Laid BY PROGRAM, IN A SANDBOX (cutbox-door.mjs). By AI agents, Wed Nov 11 2026. No macro, syntax, notation, axiom, sorry.
-/
import Derived.Test.YthpkjfliibdnjaaGreatDoorRows
import GoSem.ClaimSeven
namespace Go.Proofs.YthpkjfliibdnjaaGreatDoor
namespace Rows

/-- THE TIED CARD OF 'huddlelaw12.GraphAdds'. -/
def graphAddsCard : Claim7 := { stood := { row := graphAddsRow, standIns := [], harness := (true, "b49fec37d1d276daf9b4ee6eb7590a37eb15d8fb7d529ea6999f126d5cee162d"), looks := false }, kinds := [], alts := [], laidByText := true, laidKinds := [.data], laidTests := true, laidLooks := .later }
def GraphAddsCardSaid : Prop := Claim7.holds Tryz.pinned (.plain (OpenSpec.ofChange graphAddsSpec)) graphAddsCard

/-- THE SECOND FORM's CARD OF 'huddlelaw12.GraphAdds'. -/
def graphAddsUptoCard : Claim7 := { stood := { row := graphAddsUptoRow, standIns := [], harness := (true, "b49fec37d1d276daf9b4ee6eb7590a37eb15d8fb7d529ea6999f126d5cee162d"), looks := false }, kinds := [], alts := [], laidByText := true, laidKinds := [.data], laidTests := true, laidLooks := .later }
def GraphAddsUptoCardSaid : Prop := Claim7.holds Tryz.pinned (.plain (OpenSpec.upto graphAddsSpec)) graphAddsUptoCard
end Rows
end Go.Proofs.YthpkjfliibdnjaaGreatDoor
