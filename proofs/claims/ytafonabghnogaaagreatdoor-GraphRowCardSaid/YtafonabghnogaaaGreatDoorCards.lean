/-
  DERIVED. GIVEN WITH THE SEED: THE CARDS: each row of YtafonabghnogaaaGreatDoorRows.lean that lists a variable, with what it lists TIED to the program's text (the seventh form; the later family's looks); each row that meets fmt, with fmt's text TOLD by the authors' own Lean function (tested against real Go, not proved from fmt's source: count such statements apart). THE CARD IS WHAT COUNTS. Prove the row's statement (the work); the ties are given (YtafonabghnogaaaGreatDoorTie.lean); close each card by the builder's one call (the guide's Derived/Test/ToyasCard.lean, 'card_holds'). Laid BY PROGRAM, IN A SANDBOX (cutbox-door.mjs). By AI agents, Wed Nov 11 2026. No macro, syntax, notation, axiom, sorry.
-/
import Derived.Test.YtafonabghnogaaaGreatDoorRows
import GoSem.ClaimSeven
namespace Go.Proofs.YtafonabghnogaaaGreatDoor
namespace Rows

/-- THE TIED CARD OF 'huddlelaw12.GraphRaw'. -/
def graphRawCard : Claim7 := { stood := { row := graphRawRow, standIns := [], harness := (true, "7e0c834fc93e2f05c1722e6864a69bf9e61c39615967a567db2e137b72a7bc25"), looks := false }, kinds := [], alts := [], laidByText := true, laidKinds := [.data], laidTests := true, laidLooks := .later }
def GraphRawCardSaid : Prop := Claim7.holds Tryz.pinned (.plain (OpenSpec.ofChange graphRawSpec)) graphRawCard

/-- THE TIED CARD OF 'huddlelaw12.GraphRow'. -/
def graphRowCard : Claim7 := { stood := { row := graphRowRow, standIns := [], harness := (true, "7e0c834fc93e2f05c1722e6864a69bf9e61c39615967a567db2e137b72a7bc25"), looks := false }, kinds := [], alts := [], laidByText := true, laidKinds := [.data], laidTests := true, laidLooks := .later }
def GraphRowCardSaid : Prop := Claim7.holds Tryz.pinned (.plain (OpenSpec.ofChange graphRowSpec)) graphRowCard

/-- THE TIED CARD OF 'huddlelaw12.GraphSeq'. -/
def graphSeqCard : Claim7 := { stood := { row := graphSeqRow, standIns := [], harness := (true, "7e0c834fc93e2f05c1722e6864a69bf9e61c39615967a567db2e137b72a7bc25"), looks := false }, kinds := [], alts := [], laidByText := true, laidKinds := [.data], laidTests := true, laidLooks := .later }
def GraphSeqCardSaid : Prop := Claim7.holds Tryz.pinned (.plain (OpenSpec.ofChange graphSeqSpec)) graphSeqCard

/-- THE TIED CARD OF 'huddlelaw12.GraphAdds'. -/
def graphAddsCard : Claim7 := { stood := { row := graphAddsRow, standIns := [], harness := (true, "7e0c834fc93e2f05c1722e6864a69bf9e61c39615967a567db2e137b72a7bc25"), looks := false }, kinds := [], alts := [], laidByText := true, laidKinds := [.data], laidTests := true, laidLooks := .later }
def GraphAddsCardSaid : Prop := Claim7.holds Tryz.pinned (.plain (OpenSpec.ofChange graphAddsSpec)) graphAddsCard

/-- THE TIED CARD OF 'huddlelaw12.GraphOrder'. -/
def graphOrderCard : Claim7 := { stood := { row := graphOrderRow, standIns := [], harness := (true, "7e0c834fc93e2f05c1722e6864a69bf9e61c39615967a567db2e137b72a7bc25"), looks := false }, kinds := [], alts := [], laidByText := true, laidKinds := [.data], laidTests := true, laidLooks := .later }
def GraphOrderCardSaid : Prop := Claim7.holds Tryz.pinned (.plain (OpenSpec.ofChange graphOrderSpec)) graphOrderCard

/-- THE TIED CARD OF 'huddlelaw12.GraphFull'. -/
def graphFullCard : Claim7 := { stood := { row := graphFullRow, standIns := [], harness := (true, "7e0c834fc93e2f05c1722e6864a69bf9e61c39615967a567db2e137b72a7bc25"), looks := false }, kinds := [], alts := [], laidByText := true, laidKinds := [.data], laidTests := true, laidLooks := .later }
def GraphFullCardSaid : Prop := Claim7.holds Tryz.pinned (.plain (OpenSpec.ofChange graphFullSpec)) graphFullCard

/-- THE TIED CARD OF 'huddlelaw12.GraphOwn'. -/
def graphOwnCard : Claim7 := { stood := { row := graphOwnRow, standIns := [], harness := (true, "7e0c834fc93e2f05c1722e6864a69bf9e61c39615967a567db2e137b72a7bc25"), looks := false }, kinds := [], alts := [], laidByText := true, laidKinds := [.data], laidTests := true, laidLooks := .later }
def GraphOwnCardSaid : Prop := Claim7.holds Tryz.pinned (.plain (OpenSpec.ofChange graphOwnSpec)) graphOwnCard

/-- THE TIED CARD OF 'huddlelaw12.GraphPasts'. -/
def graphPastsCard : Claim7 := { stood := { row := graphPastsRow, standIns := [], harness := (true, "7e0c834fc93e2f05c1722e6864a69bf9e61c39615967a567db2e137b72a7bc25"), looks := false }, kinds := [], alts := [], laidByText := true, laidKinds := [.data], laidTests := true, laidLooks := .later }
def GraphPastsCardSaid : Prop := Claim7.holds Tryz.pinned (.plain (OpenSpec.ofChange graphPastsSpec)) graphPastsCard

/-- THE TIED CARD OF 'huddlelaw12.GraphHeads'. -/
def graphHeadsCard : Claim7 := { stood := { row := graphHeadsRow, standIns := [], harness := (true, "7e0c834fc93e2f05c1722e6864a69bf9e61c39615967a567db2e137b72a7bc25"), looks := false }, kinds := [], alts := [], laidByText := true, laidKinds := [.data], laidTests := true, laidLooks := .later }
def GraphHeadsCardSaid : Prop := Claim7.holds Tryz.pinned (.plain (OpenSpec.ofChange graphHeadsSpec)) graphHeadsCard

/-- THE SECOND FORM's CARD OF 'huddlelaw12.GraphRaw'. -/
def graphRawUptoCard : Claim7 := { stood := { row := graphRawUptoRow, standIns := [], harness := (true, "7e0c834fc93e2f05c1722e6864a69bf9e61c39615967a567db2e137b72a7bc25"), looks := false }, kinds := [], alts := [], laidByText := true, laidKinds := [.data], laidTests := true, laidLooks := .later }
def GraphRawUptoCardSaid : Prop := Claim7.holds Tryz.pinned (.plain (OpenSpec.upto graphRawSpec)) graphRawUptoCard

/-- THE SECOND FORM's CARD OF 'huddlelaw12.GraphRow'. -/
def graphRowUptoCard : Claim7 := { stood := { row := graphRowUptoRow, standIns := [], harness := (true, "7e0c834fc93e2f05c1722e6864a69bf9e61c39615967a567db2e137b72a7bc25"), looks := false }, kinds := [], alts := [], laidByText := true, laidKinds := [.data], laidTests := true, laidLooks := .later }
def GraphRowUptoCardSaid : Prop := Claim7.holds Tryz.pinned (.plain (OpenSpec.upto graphRowSpec)) graphRowUptoCard

/-- THE SECOND FORM's CARD OF 'huddlelaw12.GraphSeq'. -/
def graphSeqUptoCard : Claim7 := { stood := { row := graphSeqUptoRow, standIns := [], harness := (true, "7e0c834fc93e2f05c1722e6864a69bf9e61c39615967a567db2e137b72a7bc25"), looks := false }, kinds := [], alts := [], laidByText := true, laidKinds := [.data], laidTests := true, laidLooks := .later }
def GraphSeqUptoCardSaid : Prop := Claim7.holds Tryz.pinned (.plain (OpenSpec.upto graphSeqSpec)) graphSeqUptoCard

/-- THE SECOND FORM's CARD OF 'huddlelaw12.GraphAdds'. -/
def graphAddsUptoCard : Claim7 := { stood := { row := graphAddsUptoRow, standIns := [], harness := (true, "7e0c834fc93e2f05c1722e6864a69bf9e61c39615967a567db2e137b72a7bc25"), looks := false }, kinds := [], alts := [], laidByText := true, laidKinds := [.data], laidTests := true, laidLooks := .later }
def GraphAddsUptoCardSaid : Prop := Claim7.holds Tryz.pinned (.plain (OpenSpec.upto graphAddsSpec)) graphAddsUptoCard

/-- THE SECOND FORM's CARD OF 'huddlelaw12.GraphOrder'. -/
def graphOrderUptoCard : Claim7 := { stood := { row := graphOrderUptoRow, standIns := [], harness := (true, "7e0c834fc93e2f05c1722e6864a69bf9e61c39615967a567db2e137b72a7bc25"), looks := false }, kinds := [], alts := [], laidByText := true, laidKinds := [.data], laidTests := true, laidLooks := .later }
def GraphOrderUptoCardSaid : Prop := Claim7.holds Tryz.pinned (.plain (OpenSpec.upto graphOrderSpec)) graphOrderUptoCard

/-- THE SECOND FORM's CARD OF 'huddlelaw12.GraphFull'. -/
def graphFullUptoCard : Claim7 := { stood := { row := graphFullUptoRow, standIns := [], harness := (true, "7e0c834fc93e2f05c1722e6864a69bf9e61c39615967a567db2e137b72a7bc25"), looks := false }, kinds := [], alts := [], laidByText := true, laidKinds := [.data], laidTests := true, laidLooks := .later }
def GraphFullUptoCardSaid : Prop := Claim7.holds Tryz.pinned (.plain (OpenSpec.upto graphFullSpec)) graphFullUptoCard

/-- THE SECOND FORM's CARD OF 'huddlelaw12.GraphOwn'. -/
def graphOwnUptoCard : Claim7 := { stood := { row := graphOwnUptoRow, standIns := [], harness := (true, "7e0c834fc93e2f05c1722e6864a69bf9e61c39615967a567db2e137b72a7bc25"), looks := false }, kinds := [], alts := [], laidByText := true, laidKinds := [.data], laidTests := true, laidLooks := .later }
def GraphOwnUptoCardSaid : Prop := Claim7.holds Tryz.pinned (.plain (OpenSpec.upto graphOwnSpec)) graphOwnUptoCard

/-- THE SECOND FORM's CARD OF 'huddlelaw12.GraphPasts'. -/
def graphPastsUptoCard : Claim7 := { stood := { row := graphPastsUptoRow, standIns := [], harness := (true, "7e0c834fc93e2f05c1722e6864a69bf9e61c39615967a567db2e137b72a7bc25"), looks := false }, kinds := [], alts := [], laidByText := true, laidKinds := [.data], laidTests := true, laidLooks := .later }
def GraphPastsUptoCardSaid : Prop := Claim7.holds Tryz.pinned (.plain (OpenSpec.upto graphPastsSpec)) graphPastsUptoCard

/-- THE SECOND FORM's CARD OF 'huddlelaw12.GraphHeads'. -/
def graphHeadsUptoCard : Claim7 := { stood := { row := graphHeadsUptoRow, standIns := [], harness := (true, "7e0c834fc93e2f05c1722e6864a69bf9e61c39615967a567db2e137b72a7bc25"), looks := false }, kinds := [], alts := [], laidByText := true, laidKinds := [.data], laidTests := true, laidLooks := .later }
def GraphHeadsUptoCardSaid : Prop := Claim7.holds Tryz.pinned (.plain (OpenSpec.upto graphHeadsSpec)) graphHeadsUptoCard
end Rows
end Go.Proofs.YtafonabghnogaaaGreatDoor
