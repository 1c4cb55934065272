/-
  DERIVED. GIVEN WITH THE SEED: THE CARDS: each row of YthmlaigpdpdpjaaDoorRows.lean that lists a variable, with what it lists TIED to the program's text (the seventh form; the later family's looks); each row that meets fmt, with fmt's text TOLD by the authors' own Lean function (tested against real Go, not proved from fmt's source: count such statements apart). THE CARD IS WHAT COUNTS. Prove the row's statement (the work); the ties are given (YthmlaigpdpdpjaaDoorTie.lean); close each card by the builder's one call (the guide's Derived/Test/ToyasCard.lean, 'card_holds'). Laid BY PROGRAM, IN A SANDBOX (cutbox-door.mjs). By AI agents, Wed Nov 11 2026. No macro, syntax, notation, axiom, sorry.
-/
import Derived.Test.YthmlaigpdpdpjaaDoorRows
import GoSem.ClaimSeven
namespace Go.Proofs.YthmlaigpdpdpjaaDoor
namespace Rows

/-- THE TIED CARD OF 'huddlelaw11.OpRound'. -/
def opRoundCard : Claim7 := { stood := { row := opRoundRow, standIns := [], harness := (true, "4017466a5e9b2906d6f1280fe387addeffcf3904cab4b5c9f54ece5cfe6bead9"), looks := false }, kinds := [], alts := [], laidByText := true, laidKinds := [.data], laidTests := true, laidLooks := .later }
def OpRoundCardSaid : Prop := Claim7.holds Tryd.pinned (.plain (OpenSpec.ofChange opRoundSpec)) opRoundCard

/-- THE TIED CARD OF 'huddlelaw11.OpShort'. -/
def opShortCard : Claim7 := { stood := { row := opShortRow, standIns := [], harness := (true, "4017466a5e9b2906d6f1280fe387addeffcf3904cab4b5c9f54ece5cfe6bead9"), looks := false }, kinds := [], alts := [], laidByText := true, laidKinds := [.data], laidTests := true, laidLooks := .later }
def OpShortCardSaid : Prop := Claim7.holds Tryd.pinned (.plain (OpenSpec.ofChange opShortSpec)) opShortCard

/-- THE TIED CARD OF 'huddlelaw11.OpOrder'. -/
def opOrderCard : Claim7 := { stood := { row := opOrderRow, standIns := [], harness := (true, "4017466a5e9b2906d6f1280fe387addeffcf3904cab4b5c9f54ece5cfe6bead9"), looks := false }, kinds := [], alts := [], laidByText := true, laidKinds := [.data], laidTests := true, laidLooks := .later }
def OpOrderCardSaid : Prop := Claim7.holds Tryd.pinned (.plain (OpenSpec.ofChange opOrderSpec)) opOrderCard

/-- THE TIED CARD OF 'huddlelaw11.OpPuts'. -/
def opPutsCard : Claim7 := { stood := { row := opPutsRow, standIns := [], harness := (true, "4017466a5e9b2906d6f1280fe387addeffcf3904cab4b5c9f54ece5cfe6bead9"), looks := false }, kinds := [], alts := [], laidByText := true, laidKinds := [.data], laidTests := true, laidLooks := .later }
def OpPutsCardSaid : Prop := Claim7.holds Tryd.pinned (.plain (OpenSpec.ofChange opPutsSpec)) opPutsCard

/-- THE TIED CARD OF 'huddlelaw11.OpSame'. -/
def opSameCard : Claim7 := { stood := { row := opSameRow, standIns := [], harness := (true, "4017466a5e9b2906d6f1280fe387addeffcf3904cab4b5c9f54ece5cfe6bead9"), looks := false }, kinds := [], alts := [], laidByText := true, laidKinds := [.data], laidTests := true, laidLooks := .later }
def OpSameCardSaid : Prop := Claim7.holds Tryd.pinned (.plain (OpenSpec.ofChange opSameSpec)) opSameCard

/-- THE SECOND FORM's CARD OF 'huddlelaw11.OpRound'. -/
def opRoundUptoCard : Claim7 := { stood := { row := opRoundUptoRow, standIns := [], harness := (true, "4017466a5e9b2906d6f1280fe387addeffcf3904cab4b5c9f54ece5cfe6bead9"), looks := false }, kinds := [], alts := [], laidByText := true, laidKinds := [.data], laidTests := true, laidLooks := .later }
def OpRoundUptoCardSaid : Prop := Claim7.holds Tryd.pinned (.plain (OpenSpec.upto opRoundSpec)) opRoundUptoCard

/-- THE SECOND FORM's CARD OF 'huddlelaw11.OpShort'. -/
def opShortUptoCard : Claim7 := { stood := { row := opShortUptoRow, standIns := [], harness := (true, "4017466a5e9b2906d6f1280fe387addeffcf3904cab4b5c9f54ece5cfe6bead9"), looks := false }, kinds := [], alts := [], laidByText := true, laidKinds := [.data], laidTests := true, laidLooks := .later }
def OpShortUptoCardSaid : Prop := Claim7.holds Tryd.pinned (.plain (OpenSpec.upto opShortSpec)) opShortUptoCard

/-- THE SECOND FORM's CARD OF 'huddlelaw11.OpOrder'. -/
def opOrderUptoCard : Claim7 := { stood := { row := opOrderUptoRow, standIns := [], harness := (true, "4017466a5e9b2906d6f1280fe387addeffcf3904cab4b5c9f54ece5cfe6bead9"), looks := false }, kinds := [], alts := [], laidByText := true, laidKinds := [.data], laidTests := true, laidLooks := .later }
def OpOrderUptoCardSaid : Prop := Claim7.holds Tryd.pinned (.plain (OpenSpec.upto opOrderSpec)) opOrderUptoCard

/-- THE SECOND FORM's CARD OF 'huddlelaw11.OpPuts'. -/
def opPutsUptoCard : Claim7 := { stood := { row := opPutsUptoRow, standIns := [], harness := (true, "4017466a5e9b2906d6f1280fe387addeffcf3904cab4b5c9f54ece5cfe6bead9"), looks := false }, kinds := [], alts := [], laidByText := true, laidKinds := [.data], laidTests := true, laidLooks := .later }
def OpPutsUptoCardSaid : Prop := Claim7.holds Tryd.pinned (.plain (OpenSpec.upto opPutsSpec)) opPutsUptoCard

/-- THE SECOND FORM's CARD OF 'huddlelaw11.OpSame'. -/
def opSameUptoCard : Claim7 := { stood := { row := opSameUptoRow, standIns := [], harness := (true, "4017466a5e9b2906d6f1280fe387addeffcf3904cab4b5c9f54ece5cfe6bead9"), looks := false }, kinds := [], alts := [], laidByText := true, laidKinds := [.data], laidTests := true, laidLooks := .later }
def OpSameUptoCardSaid : Prop := Claim7.holds Tryd.pinned (.plain (OpenSpec.upto opSameSpec)) opSameUptoCard
end Rows
end Go.Proofs.YthmlaigpdpdpjaaDoor
