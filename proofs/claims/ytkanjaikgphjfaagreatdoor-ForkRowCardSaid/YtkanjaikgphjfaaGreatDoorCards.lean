/-
  DERIVED. GIVEN WITH THE SEED: THE CARDS: each row of YtkanjaikgphjfaaGreatDoorRows.lean that lists a variable, with what it lists TIED to the program's text (the seventh form; the later family's looks); each row that meets fmt, with fmt's text TOLD by the authors' own Lean function (tested against real Go, not proved from fmt's source: count such statements apart). THE CARD IS WHAT COUNTS. Prove the row's statement (the work); the ties are given (YtkanjaikgphjfaaGreatDoorTie.lean); close each card by the builder's one call (the guide's Derived/Test/ToyasCard.lean, 'card_holds'). Laid BY PROGRAM, IN A SANDBOX (cutbox-door.mjs). By AI agents, Wed Nov 11 2026. No macro, syntax, notation, axiom, sorry.
-/
import Derived.Test.YtkanjaikgphjfaaGreatDoorRows
import GoSem.ClaimSeven
namespace Go.Proofs.YtkanjaikgphjfaaGreatDoor
namespace Rows

/-- THE TIED CARD OF 'huddlelaw13.ForkMore'. -/
def forkMoreCard : Claim7 := { stood := { row := forkMoreRow, standIns := [], harness := (true, "5a1175df055d93971c25109e8ab4623de026253a388d36766dc23903d972f333"), looks := false }, kinds := [], alts := [], laidByText := true, laidKinds := [.data], laidTests := true, laidLooks := .later }
def ForkMoreCardSaid : Prop := Claim7.holds Tryz.pinned (.plain (OpenSpec.ofChange forkMoreSpec)) forkMoreCard

/-- THE TIED CARD OF 'huddlelaw13.ForkVoid'. -/
def forkVoidCard : Claim7 := { stood := { row := forkVoidRow, standIns := [], harness := (true, "5a1175df055d93971c25109e8ab4623de026253a388d36766dc23903d972f333"), looks := false }, kinds := [], alts := [], laidByText := true, laidKinds := [.data], laidTests := true, laidLooks := .later }
def ForkVoidCardSaid : Prop := Claim7.holds Tryz.pinned (.plain (OpenSpec.ofChange forkVoidSpec)) forkVoidCard

/-- THE TIED CARD OF 'huddlelaw13.ForkTells'. -/
def forkTellsCard : Claim7 := { stood := { row := forkTellsRow, standIns := [], harness := (true, "5a1175df055d93971c25109e8ab4623de026253a388d36766dc23903d972f333"), looks := false }, kinds := [], alts := [], laidByText := true, laidKinds := [.data], laidTests := true, laidLooks := .later }
def ForkTellsCardSaid : Prop := Claim7.holds Tryz.pinned (.plain (OpenSpec.ofChange forkTellsSpec)) forkTellsCard

/-- THE TIED CARD OF 'huddlelaw13.ForkRow'. -/
def forkRowCard : Claim7 := { stood := { row := forkRowRow, standIns := [], harness := (true, "5a1175df055d93971c25109e8ab4623de026253a388d36766dc23903d972f333"), looks := false }, kinds := [], alts := [], laidByText := true, laidKinds := [.data], laidTests := true, laidLooks := .later }
def ForkRowCardSaid : Prop := Claim7.holds Tryz.pinned (.plain (OpenSpec.ofChange forkRowSpec)) forkRowCard

/-- THE TIED CARD OF 'huddlelaw13.ForkOnce'. -/
def forkOnceCard : Claim7 := { stood := { row := forkOnceRow, standIns := [], harness := (true, "5a1175df055d93971c25109e8ab4623de026253a388d36766dc23903d972f333"), looks := false }, kinds := [], alts := [], laidByText := true, laidKinds := [.data], laidTests := true, laidLooks := .later }
def ForkOnceCardSaid : Prop := Claim7.holds Tryz.pinned (.plain (OpenSpec.ofChange forkOnceSpec)) forkOnceCard

/-- THE TIED CARD OF 'huddlelaw13.ForkProof'. -/
def forkProofCard : Claim7 := { stood := { row := forkProofRow, standIns := [], harness := (true, "5a1175df055d93971c25109e8ab4623de026253a388d36766dc23903d972f333"), looks := false }, kinds := [], alts := [], laidByText := true, laidKinds := [.data], laidTests := true, laidLooks := .later }
def ForkProofCardSaid : Prop := Claim7.holds Tryz.pinned (.plain (OpenSpec.ofChange forkProofSpec)) forkProofCard

/-- THE SECOND FORM's CARD OF 'huddlelaw13.ForkMore'. -/
def forkMoreUptoCard : Claim7 := { stood := { row := forkMoreUptoRow, standIns := [], harness := (true, "5a1175df055d93971c25109e8ab4623de026253a388d36766dc23903d972f333"), looks := false }, kinds := [], alts := [], laidByText := true, laidKinds := [.data], laidTests := true, laidLooks := .later }
def ForkMoreUptoCardSaid : Prop := Claim7.holds Tryz.pinned (.plain (OpenSpec.upto forkMoreSpec)) forkMoreUptoCard

/-- THE SECOND FORM's CARD OF 'huddlelaw13.ForkVoid'. -/
def forkVoidUptoCard : Claim7 := { stood := { row := forkVoidUptoRow, standIns := [], harness := (true, "5a1175df055d93971c25109e8ab4623de026253a388d36766dc23903d972f333"), looks := false }, kinds := [], alts := [], laidByText := true, laidKinds := [.data], laidTests := true, laidLooks := .later }
def ForkVoidUptoCardSaid : Prop := Claim7.holds Tryz.pinned (.plain (OpenSpec.upto forkVoidSpec)) forkVoidUptoCard

/-- THE SECOND FORM's CARD OF 'huddlelaw13.ForkTells'. -/
def forkTellsUptoCard : Claim7 := { stood := { row := forkTellsUptoRow, standIns := [], harness := (true, "5a1175df055d93971c25109e8ab4623de026253a388d36766dc23903d972f333"), looks := false }, kinds := [], alts := [], laidByText := true, laidKinds := [.data], laidTests := true, laidLooks := .later }
def ForkTellsUptoCardSaid : Prop := Claim7.holds Tryz.pinned (.plain (OpenSpec.upto forkTellsSpec)) forkTellsUptoCard

/-- THE SECOND FORM's CARD OF 'huddlelaw13.ForkRow'. -/
def forkRowUptoCard : Claim7 := { stood := { row := forkRowUptoRow, standIns := [], harness := (true, "5a1175df055d93971c25109e8ab4623de026253a388d36766dc23903d972f333"), looks := false }, kinds := [], alts := [], laidByText := true, laidKinds := [.data], laidTests := true, laidLooks := .later }
def ForkRowUptoCardSaid : Prop := Claim7.holds Tryz.pinned (.plain (OpenSpec.upto forkRowSpec)) forkRowUptoCard

/-- THE SECOND FORM's CARD OF 'huddlelaw13.ForkOnce'. -/
def forkOnceUptoCard : Claim7 := { stood := { row := forkOnceUptoRow, standIns := [], harness := (true, "5a1175df055d93971c25109e8ab4623de026253a388d36766dc23903d972f333"), looks := false }, kinds := [], alts := [], laidByText := true, laidKinds := [.data], laidTests := true, laidLooks := .later }
def ForkOnceUptoCardSaid : Prop := Claim7.holds Tryz.pinned (.plain (OpenSpec.upto forkOnceSpec)) forkOnceUptoCard

/-- THE SECOND FORM's CARD OF 'huddlelaw13.ForkProof'. -/
def forkProofUptoCard : Claim7 := { stood := { row := forkProofUptoRow, standIns := [], harness := (true, "5a1175df055d93971c25109e8ab4623de026253a388d36766dc23903d972f333"), looks := false }, kinds := [], alts := [], laidByText := true, laidKinds := [.data], laidTests := true, laidLooks := .later }
def ForkProofUptoCardSaid : Prop := Claim7.holds Tryz.pinned (.plain (OpenSpec.upto forkProofSpec)) forkProofUptoCard
end Rows
end Go.Proofs.YtkanjaikgphjfaaGreatDoor
