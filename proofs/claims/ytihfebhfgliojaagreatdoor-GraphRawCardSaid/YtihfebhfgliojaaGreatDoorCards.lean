/-
  DERIVED. GIVEN WITH THE SEED: THE CARDS: each row of YtihfebhfgliojaaGreatDoorRows.lean that lists a variable, with what it lists TIED to the program's text (the seventh form; the later family's looks); each row that meets fmt, with fmt's text TOLD by the authors' own Lean function (tested against real Go, not proved from fmt's source: count such statements apart). THE CARD IS WHAT COUNTS. Prove the row's statement (the work); the ties are given (YtihfebhfgliojaaGreatDoorTie.lean); close each card by the builder's one call (the guide's Derived/Test/ToyasCard.lean, 'card_holds'). Laid BY PROGRAM, IN A SANDBOX (cutbox-door.mjs). By AI agents, Wed Nov 11 2026. No macro, syntax, notation, axiom, sorry.
-/
import Derived.Test.YtihfebhfgliojaaGreatDoorRows
import GoSem.ClaimSeven
namespace Go.Proofs.YtihfebhfgliojaaGreatDoor
namespace Rows

/-- THE TIED CARD OF 'huddlelaw12.GraphRaw'. -/
def graphRawCard : Claim7 := { stood := { row := graphRawRow, standIns := [], harness := (true, "384d72dad725d37bd6ac49b23d359ed0607772ed35652509833cbd7c76661533"), looks := false }, kinds := [], alts := [], laidByText := true, laidKinds := [.data], laidTests := true, laidLooks := .later }
def GraphRawCardSaid : Prop := Claim7.holds Tryz.pinned (.plain (OpenSpec.ofChange graphRawSpec)) graphRawCard

/-- THE TIED CARD OF 'huddlelaw14.RankSame'. -/
def rankSameCard : Claim7 := { stood := { row := rankSameRow, standIns := [], harness := (true, "384d72dad725d37bd6ac49b23d359ed0607772ed35652509833cbd7c76661533"), looks := false }, kinds := [], alts := [], laidByText := true, laidKinds := [.data], laidTests := true, laidLooks := .later }
def RankSameCardSaid : Prop := Claim7.holds Tryz.pinned (.plain (OpenSpec.ofChange rankSameSpec)) rankSameCard

/-- THE TIED CARD OF 'huddlelaw14.RankPart'. -/
def rankPartCard : Claim7 := { stood := { row := rankPartRow, standIns := [], harness := (true, "384d72dad725d37bd6ac49b23d359ed0607772ed35652509833cbd7c76661533"), looks := false }, kinds := [], alts := [], laidByText := true, laidKinds := [.data], laidTests := true, laidLooks := .later }
def RankPartCardSaid : Prop := Claim7.holds Tryz.pinned (.plain (OpenSpec.ofChange rankPartSpec)) rankPartCard

/-- THE TIED CARD OF 'huddlelaw14.RankOwn'. -/
def rankOwnCard : Claim7 := { stood := { row := rankOwnRow, standIns := [], harness := (true, "384d72dad725d37bd6ac49b23d359ed0607772ed35652509833cbd7c76661533"), looks := false }, kinds := [], alts := [], laidByText := true, laidKinds := [.data], laidTests := true, laidLooks := .later }
def RankOwnCardSaid : Prop := Claim7.holds Tryz.pinned (.plain (OpenSpec.ofChange rankOwnSpec)) rankOwnCard

/-- THE TIED CARD OF 'huddlelaw14.RankRow'. -/
def rankRowCard : Claim7 := { stood := { row := rankRowRow, standIns := [], harness := (true, "384d72dad725d37bd6ac49b23d359ed0607772ed35652509833cbd7c76661533"), looks := false }, kinds := [], alts := [], laidByText := true, laidKinds := [.data], laidTests := true, laidLooks := .later }
def RankRowCardSaid : Prop := Claim7.holds Tryz.pinned (.plain (OpenSpec.ofChange rankRowSpec)) rankRowCard

/-- THE TIED CARD OF 'huddlelaw14.RankTotal'. -/
def rankTotalCard : Claim7 := { stood := { row := rankTotalRow, standIns := [], harness := (true, "384d72dad725d37bd6ac49b23d359ed0607772ed35652509833cbd7c76661533"), looks := false }, kinds := [], alts := [], laidByText := true, laidKinds := [.data], laidTests := true, laidLooks := .later }
def RankTotalCardSaid : Prop := Claim7.holds Tryz.pinned (.plain (OpenSpec.ofChange rankTotalSpec)) rankTotalCard

/-- THE TIED CARD OF 'huddlelaw14.RankPast'. -/
def rankPastCard : Claim7 := { stood := { row := rankPastRow, standIns := [], harness := (true, "384d72dad725d37bd6ac49b23d359ed0607772ed35652509833cbd7c76661533"), looks := false }, kinds := [], alts := [], laidByText := true, laidKinds := [.data], laidTests := true, laidLooks := .later }
def RankPastCardSaid : Prop := Claim7.holds Tryz.pinned (.plain (OpenSpec.ofChange rankPastSpec)) rankPastCard

/-- THE TIED CARD OF 'huddlelaw14.RankCame'. -/
def rankCameCard : Claim7 := { stood := { row := rankCameRow, standIns := [], harness := (true, "384d72dad725d37bd6ac49b23d359ed0607772ed35652509833cbd7c76661533"), looks := false }, kinds := [], alts := [], laidByText := true, laidKinds := [.data], laidTests := true, laidLooks := .later }
def RankCameCardSaid : Prop := Claim7.holds Tryz.pinned (.plain (OpenSpec.ofChange rankCameSpec)) rankCameCard

/-- THE TIED CARD OF 'huddlelaw14.RankSeniors'. -/
def rankSeniorsCard : Claim7 := { stood := { row := rankSeniorsRow, standIns := [], harness := (true, "384d72dad725d37bd6ac49b23d359ed0607772ed35652509833cbd7c76661533"), looks := false }, kinds := [], alts := [], laidByText := true, laidKinds := [.data], laidTests := true, laidLooks := .later }
def RankSeniorsCardSaid : Prop := Claim7.holds Tryz.pinned (.plain (OpenSpec.ofChange rankSeniorsSpec)) rankSeniorsCard

/-- THE SECOND FORM's CARD OF 'huddlelaw12.GraphRaw'. -/
def graphRawUptoCard : Claim7 := { stood := { row := graphRawUptoRow, standIns := [], harness := (true, "384d72dad725d37bd6ac49b23d359ed0607772ed35652509833cbd7c76661533"), looks := false }, kinds := [], alts := [], laidByText := true, laidKinds := [.data], laidTests := true, laidLooks := .later }
def GraphRawUptoCardSaid : Prop := Claim7.holds Tryz.pinned (.plain (OpenSpec.upto graphRawSpec)) graphRawUptoCard

/-- THE SECOND FORM's CARD OF 'huddlelaw14.RankSame'. -/
def rankSameUptoCard : Claim7 := { stood := { row := rankSameUptoRow, standIns := [], harness := (true, "384d72dad725d37bd6ac49b23d359ed0607772ed35652509833cbd7c76661533"), looks := false }, kinds := [], alts := [], laidByText := true, laidKinds := [.data], laidTests := true, laidLooks := .later }
def RankSameUptoCardSaid : Prop := Claim7.holds Tryz.pinned (.plain (OpenSpec.upto rankSameSpec)) rankSameUptoCard

/-- THE SECOND FORM's CARD OF 'huddlelaw14.RankPart'. -/
def rankPartUptoCard : Claim7 := { stood := { row := rankPartUptoRow, standIns := [], harness := (true, "384d72dad725d37bd6ac49b23d359ed0607772ed35652509833cbd7c76661533"), looks := false }, kinds := [], alts := [], laidByText := true, laidKinds := [.data], laidTests := true, laidLooks := .later }
def RankPartUptoCardSaid : Prop := Claim7.holds Tryz.pinned (.plain (OpenSpec.upto rankPartSpec)) rankPartUptoCard

/-- THE SECOND FORM's CARD OF 'huddlelaw14.RankOwn'. -/
def rankOwnUptoCard : Claim7 := { stood := { row := rankOwnUptoRow, standIns := [], harness := (true, "384d72dad725d37bd6ac49b23d359ed0607772ed35652509833cbd7c76661533"), looks := false }, kinds := [], alts := [], laidByText := true, laidKinds := [.data], laidTests := true, laidLooks := .later }
def RankOwnUptoCardSaid : Prop := Claim7.holds Tryz.pinned (.plain (OpenSpec.upto rankOwnSpec)) rankOwnUptoCard

/-- THE SECOND FORM's CARD OF 'huddlelaw14.RankRow'. -/
def rankRowUptoCard : Claim7 := { stood := { row := rankRowUptoRow, standIns := [], harness := (true, "384d72dad725d37bd6ac49b23d359ed0607772ed35652509833cbd7c76661533"), looks := false }, kinds := [], alts := [], laidByText := true, laidKinds := [.data], laidTests := true, laidLooks := .later }
def RankRowUptoCardSaid : Prop := Claim7.holds Tryz.pinned (.plain (OpenSpec.upto rankRowSpec)) rankRowUptoCard

/-- THE SECOND FORM's CARD OF 'huddlelaw14.RankTotal'. -/
def rankTotalUptoCard : Claim7 := { stood := { row := rankTotalUptoRow, standIns := [], harness := (true, "384d72dad725d37bd6ac49b23d359ed0607772ed35652509833cbd7c76661533"), looks := false }, kinds := [], alts := [], laidByText := true, laidKinds := [.data], laidTests := true, laidLooks := .later }
def RankTotalUptoCardSaid : Prop := Claim7.holds Tryz.pinned (.plain (OpenSpec.upto rankTotalSpec)) rankTotalUptoCard

/-- THE SECOND FORM's CARD OF 'huddlelaw14.RankPast'. -/
def rankPastUptoCard : Claim7 := { stood := { row := rankPastUptoRow, standIns := [], harness := (true, "384d72dad725d37bd6ac49b23d359ed0607772ed35652509833cbd7c76661533"), looks := false }, kinds := [], alts := [], laidByText := true, laidKinds := [.data], laidTests := true, laidLooks := .later }
def RankPastUptoCardSaid : Prop := Claim7.holds Tryz.pinned (.plain (OpenSpec.upto rankPastSpec)) rankPastUptoCard

/-- THE SECOND FORM's CARD OF 'huddlelaw14.RankCame'. -/
def rankCameUptoCard : Claim7 := { stood := { row := rankCameUptoRow, standIns := [], harness := (true, "384d72dad725d37bd6ac49b23d359ed0607772ed35652509833cbd7c76661533"), looks := false }, kinds := [], alts := [], laidByText := true, laidKinds := [.data], laidTests := true, laidLooks := .later }
def RankCameUptoCardSaid : Prop := Claim7.holds Tryz.pinned (.plain (OpenSpec.upto rankCameSpec)) rankCameUptoCard

/-- THE SECOND FORM's CARD OF 'huddlelaw14.RankSeniors'. -/
def rankSeniorsUptoCard : Claim7 := { stood := { row := rankSeniorsUptoRow, standIns := [], harness := (true, "384d72dad725d37bd6ac49b23d359ed0607772ed35652509833cbd7c76661533"), looks := false }, kinds := [], alts := [], laidByText := true, laidKinds := [.data], laidTests := true, laidLooks := .later }
def RankSeniorsUptoCardSaid : Prop := Claim7.holds Tryz.pinned (.plain (OpenSpec.upto rankSeniorsSpec)) rankSeniorsUptoCard
end Rows
end Go.Proofs.YtihfebhfgliojaaGreatDoor
