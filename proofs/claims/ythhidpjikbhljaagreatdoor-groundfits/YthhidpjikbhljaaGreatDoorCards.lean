/-
  DERIVED. GIVEN WITH THE SEED: THE CARDS: each row of YthhidpjikbhljaaGreatDoorRows.lean that lists a variable, with what it lists TIED to the program's text (the seventh form; the later family's looks); each row that meets fmt, with fmt's text TOLD by the authors' own Lean function (tested against real Go, not proved from fmt's source: count such statements apart). THE CARD IS WHAT COUNTS. Prove the row's statement (the work); the ties are given (YthhidpjikbhljaaGreatDoorTie.lean); close each card by the builder's one call (the guide's Derived/Test/ToyasCard.lean, 'card_holds'). Laid BY PROGRAM, IN A SANDBOX (cutbox-door.mjs). By AI agents, Wed Nov 11 2026. No macro, syntax, notation, axiom, sorry.
-/
import Derived.Test.YthhidpjikbhljaaGreatDoorRows
import GoSem.ClaimSeven
namespace Go.Proofs.YthhidpjikbhljaaGreatDoor
namespace Rows

/-- THE TIED CARD OF 'turnroundlaw04.GroundChecks'. -/
def groundChecksCard : Claim7 := { stood := { row := groundChecksRow, standIns := [], harness := (true, "e813367c6a5abb3b8fc8cecdf0f8303c4a45e4a9ecf1e2daa4a2713c3aba99cf"), looks := false }, kinds := [], alts := [], laidByText := true, laidKinds := [.data], laidTests := true, laidLooks := .later }
def GroundChecksCardSaid : Prop := Claim7.holds Tryz.pinned (.plain (OpenSpec.ofChange groundChecksSpec)) groundChecksCard

/-- THE TIED CARD OF 'turnroundlaw04.GroundAssigns'. -/
def groundAssignsCard : Claim7 := { stood := { row := groundAssignsRow, standIns := [], harness := (true, "e813367c6a5abb3b8fc8cecdf0f8303c4a45e4a9ecf1e2daa4a2713c3aba99cf"), looks := false }, kinds := [], alts := [], laidByText := true, laidKinds := [.data], laidTests := true, laidLooks := .later }
def GroundAssignsCardSaid : Prop := Claim7.holds Tryz.pinned (.plain (OpenSpec.ofChange groundAssignsSpec)) groundAssignsCard

/-- THE TIED CARD OF 'turnroundlaw04.GroundSeats'. -/
def groundSeatsCard : Claim7 := { stood := { row := groundSeatsRow, standIns := [], harness := (true, "e813367c6a5abb3b8fc8cecdf0f8303c4a45e4a9ecf1e2daa4a2713c3aba99cf"), looks := false }, kinds := [], alts := [], laidByText := true, laidKinds := [.data], laidTests := true, laidLooks := .later }
def GroundSeatsCardSaid : Prop := Claim7.holds Tryz.pinned (.plain (OpenSpec.ofChange groundSeatsSpec)) groundSeatsCard

/-- THE TIED CARD OF 'turnroundlaw04.GroundRooms'. -/
def groundRoomsCard : Claim7 := { stood := { row := groundRoomsRow, standIns := [], harness := (true, "e813367c6a5abb3b8fc8cecdf0f8303c4a45e4a9ecf1e2daa4a2713c3aba99cf"), looks := false }, kinds := [], alts := [], laidByText := true, laidKinds := [.data], laidTests := true, laidLooks := .later }
def GroundRoomsCardSaid : Prop := Claim7.holds Tryz.pinned (.plain (OpenSpec.ofChange groundRoomsSpec)) groundRoomsCard

/-- THE TIED CARD OF 'turnroundlaw04.GroundNights'. -/
def groundNightsCard : Claim7 := { stood := { row := groundNightsRow, standIns := [], harness := (true, "e813367c6a5abb3b8fc8cecdf0f8303c4a45e4a9ecf1e2daa4a2713c3aba99cf"), looks := false }, kinds := [], alts := [], laidByText := true, laidKinds := [.data], laidTests := true, laidLooks := .later }
def GroundNightsCardSaid : Prop := Claim7.holds Tryz.pinned (.plain (OpenSpec.ofChange groundNightsSpec)) groundNightsCard

/-- THE TIED CARD OF 'turnroundlaw04.GroundFills'. -/
def groundFillsCard : Claim7 := { stood := { row := groundFillsRow, standIns := [], harness := (true, "e813367c6a5abb3b8fc8cecdf0f8303c4a45e4a9ecf1e2daa4a2713c3aba99cf"), looks := false }, kinds := [], alts := [], laidByText := true, laidKinds := [.data], laidTests := true, laidLooks := .later }
def GroundFillsCardSaid : Prop := Claim7.holds Tryz.pinned (.plain (OpenSpec.ofChange groundFillsSpec)) groundFillsCard

/-- THE TIED CARD OF 'turnroundlaw04.GroundSums'. -/
def groundSumsCard : Claim7 := { stood := { row := groundSumsRow, standIns := [], harness := (true, "e813367c6a5abb3b8fc8cecdf0f8303c4a45e4a9ecf1e2daa4a2713c3aba99cf"), looks := false }, kinds := [], alts := [], laidByText := true, laidKinds := [.data], laidTests := true, laidLooks := .later }
def GroundSumsCardSaid : Prop := Claim7.holds Tryz.pinned (.plain (OpenSpec.ofChange groundSumsSpec)) groundSumsCard

/-- THE TIED CARD OF 'turnroundlaw04.GroundClashes'. -/
def groundClashesCard : Claim7 := { stood := { row := groundClashesRow, standIns := [], harness := (true, "e813367c6a5abb3b8fc8cecdf0f8303c4a45e4a9ecf1e2daa4a2713c3aba99cf"), looks := false }, kinds := [], alts := [], laidByText := true, laidKinds := [.data], laidTests := true, laidLooks := .later }
def GroundClashesCardSaid : Prop := Claim7.holds Tryz.pinned (.plain (OpenSpec.ofChange groundClashesSpec)) groundClashesCard

/-- THE TIED CARD OF 'turnroundlaw04.GroundFits'. -/
def groundFitsCard : Claim7 := { stood := { row := groundFitsRow, standIns := [], harness := (true, "e813367c6a5abb3b8fc8cecdf0f8303c4a45e4a9ecf1e2daa4a2713c3aba99cf"), looks := false }, kinds := [], alts := [], laidByText := true, laidKinds := [.data], laidTests := true, laidLooks := .later }
def GroundFitsCardSaid : Prop := Claim7.holds Tryz.pinned (.plain (OpenSpec.ofChange groundFitsSpec)) groundFitsCard

/-- THE TIED CARD OF 'turnroundlaw04.GroundPairs'. -/
def groundPairsCard : Claim7 := { stood := { row := groundPairsRow, standIns := [], harness := (true, "e813367c6a5abb3b8fc8cecdf0f8303c4a45e4a9ecf1e2daa4a2713c3aba99cf"), looks := false }, kinds := [], alts := [], laidByText := true, laidKinds := [.data], laidTests := true, laidLooks := .later }
def GroundPairsCardSaid : Prop := Claim7.holds Tryz.pinned (.plain (OpenSpec.ofChange groundPairsSpec)) groundPairsCard

/-- THE TIED CARD OF 'turnroundlaw04.GroundQuotas'. -/
def groundQuotasCard : Claim7 := { stood := { row := groundQuotasRow, standIns := [], harness := (true, "e813367c6a5abb3b8fc8cecdf0f8303c4a45e4a9ecf1e2daa4a2713c3aba99cf"), looks := false }, kinds := [], alts := [], laidByText := true, laidKinds := [.data], laidTests := true, laidLooks := .later }
def GroundQuotasCardSaid : Prop := Claim7.holds Tryz.pinned (.plain (OpenSpec.ofChange groundQuotasSpec)) groundQuotasCard

/-- THE TIED CARD OF 'turnroundlaw04.GroundTiles'. -/
def groundTilesCard : Claim7 := { stood := { row := groundTilesRow, standIns := [], harness := (true, "e813367c6a5abb3b8fc8cecdf0f8303c4a45e4a9ecf1e2daa4a2713c3aba99cf"), looks := false }, kinds := [], alts := [], laidByText := true, laidKinds := [.data], laidTests := true, laidLooks := .later }
def GroundTilesCardSaid : Prop := Claim7.holds Tryz.pinned (.plain (OpenSpec.ofChange groundTilesSpec)) groundTilesCard

/-- THE SECOND FORM's CARD OF 'turnroundlaw04.GroundChecks'. -/
def groundChecksUptoCard : Claim7 := { stood := { row := groundChecksUptoRow, standIns := [], harness := (true, "e813367c6a5abb3b8fc8cecdf0f8303c4a45e4a9ecf1e2daa4a2713c3aba99cf"), looks := false }, kinds := [], alts := [], laidByText := true, laidKinds := [.data], laidTests := true, laidLooks := .later }
def GroundChecksUptoCardSaid : Prop := Claim7.holds Tryz.pinned (.plain (OpenSpec.upto groundChecksSpec)) groundChecksUptoCard

/-- THE SECOND FORM's CARD OF 'turnroundlaw04.GroundAssigns'. -/
def groundAssignsUptoCard : Claim7 := { stood := { row := groundAssignsUptoRow, standIns := [], harness := (true, "e813367c6a5abb3b8fc8cecdf0f8303c4a45e4a9ecf1e2daa4a2713c3aba99cf"), looks := false }, kinds := [], alts := [], laidByText := true, laidKinds := [.data], laidTests := true, laidLooks := .later }
def GroundAssignsUptoCardSaid : Prop := Claim7.holds Tryz.pinned (.plain (OpenSpec.upto groundAssignsSpec)) groundAssignsUptoCard

/-- THE SECOND FORM's CARD OF 'turnroundlaw04.GroundSeats'. -/
def groundSeatsUptoCard : Claim7 := { stood := { row := groundSeatsUptoRow, standIns := [], harness := (true, "e813367c6a5abb3b8fc8cecdf0f8303c4a45e4a9ecf1e2daa4a2713c3aba99cf"), looks := false }, kinds := [], alts := [], laidByText := true, laidKinds := [.data], laidTests := true, laidLooks := .later }
def GroundSeatsUptoCardSaid : Prop := Claim7.holds Tryz.pinned (.plain (OpenSpec.upto groundSeatsSpec)) groundSeatsUptoCard

/-- THE SECOND FORM's CARD OF 'turnroundlaw04.GroundRooms'. -/
def groundRoomsUptoCard : Claim7 := { stood := { row := groundRoomsUptoRow, standIns := [], harness := (true, "e813367c6a5abb3b8fc8cecdf0f8303c4a45e4a9ecf1e2daa4a2713c3aba99cf"), looks := false }, kinds := [], alts := [], laidByText := true, laidKinds := [.data], laidTests := true, laidLooks := .later }
def GroundRoomsUptoCardSaid : Prop := Claim7.holds Tryz.pinned (.plain (OpenSpec.upto groundRoomsSpec)) groundRoomsUptoCard

/-- THE SECOND FORM's CARD OF 'turnroundlaw04.GroundNights'. -/
def groundNightsUptoCard : Claim7 := { stood := { row := groundNightsUptoRow, standIns := [], harness := (true, "e813367c6a5abb3b8fc8cecdf0f8303c4a45e4a9ecf1e2daa4a2713c3aba99cf"), looks := false }, kinds := [], alts := [], laidByText := true, laidKinds := [.data], laidTests := true, laidLooks := .later }
def GroundNightsUptoCardSaid : Prop := Claim7.holds Tryz.pinned (.plain (OpenSpec.upto groundNightsSpec)) groundNightsUptoCard

/-- THE SECOND FORM's CARD OF 'turnroundlaw04.GroundFills'. -/
def groundFillsUptoCard : Claim7 := { stood := { row := groundFillsUptoRow, standIns := [], harness := (true, "e813367c6a5abb3b8fc8cecdf0f8303c4a45e4a9ecf1e2daa4a2713c3aba99cf"), looks := false }, kinds := [], alts := [], laidByText := true, laidKinds := [.data], laidTests := true, laidLooks := .later }
def GroundFillsUptoCardSaid : Prop := Claim7.holds Tryz.pinned (.plain (OpenSpec.upto groundFillsSpec)) groundFillsUptoCard

/-- THE SECOND FORM's CARD OF 'turnroundlaw04.GroundSums'. -/
def groundSumsUptoCard : Claim7 := { stood := { row := groundSumsUptoRow, standIns := [], harness := (true, "e813367c6a5abb3b8fc8cecdf0f8303c4a45e4a9ecf1e2daa4a2713c3aba99cf"), looks := false }, kinds := [], alts := [], laidByText := true, laidKinds := [.data], laidTests := true, laidLooks := .later }
def GroundSumsUptoCardSaid : Prop := Claim7.holds Tryz.pinned (.plain (OpenSpec.upto groundSumsSpec)) groundSumsUptoCard

/-- THE SECOND FORM's CARD OF 'turnroundlaw04.GroundClashes'. -/
def groundClashesUptoCard : Claim7 := { stood := { row := groundClashesUptoRow, standIns := [], harness := (true, "e813367c6a5abb3b8fc8cecdf0f8303c4a45e4a9ecf1e2daa4a2713c3aba99cf"), looks := false }, kinds := [], alts := [], laidByText := true, laidKinds := [.data], laidTests := true, laidLooks := .later }
def GroundClashesUptoCardSaid : Prop := Claim7.holds Tryz.pinned (.plain (OpenSpec.upto groundClashesSpec)) groundClashesUptoCard

/-- THE SECOND FORM's CARD OF 'turnroundlaw04.GroundFits'. -/
def groundFitsUptoCard : Claim7 := { stood := { row := groundFitsUptoRow, standIns := [], harness := (true, "e813367c6a5abb3b8fc8cecdf0f8303c4a45e4a9ecf1e2daa4a2713c3aba99cf"), looks := false }, kinds := [], alts := [], laidByText := true, laidKinds := [.data], laidTests := true, laidLooks := .later }
def GroundFitsUptoCardSaid : Prop := Claim7.holds Tryz.pinned (.plain (OpenSpec.upto groundFitsSpec)) groundFitsUptoCard

/-- THE SECOND FORM's CARD OF 'turnroundlaw04.GroundPairs'. -/
def groundPairsUptoCard : Claim7 := { stood := { row := groundPairsUptoRow, standIns := [], harness := (true, "e813367c6a5abb3b8fc8cecdf0f8303c4a45e4a9ecf1e2daa4a2713c3aba99cf"), looks := false }, kinds := [], alts := [], laidByText := true, laidKinds := [.data], laidTests := true, laidLooks := .later }
def GroundPairsUptoCardSaid : Prop := Claim7.holds Tryz.pinned (.plain (OpenSpec.upto groundPairsSpec)) groundPairsUptoCard

/-- THE SECOND FORM's CARD OF 'turnroundlaw04.GroundQuotas'. -/
def groundQuotasUptoCard : Claim7 := { stood := { row := groundQuotasUptoRow, standIns := [], harness := (true, "e813367c6a5abb3b8fc8cecdf0f8303c4a45e4a9ecf1e2daa4a2713c3aba99cf"), looks := false }, kinds := [], alts := [], laidByText := true, laidKinds := [.data], laidTests := true, laidLooks := .later }
def GroundQuotasUptoCardSaid : Prop := Claim7.holds Tryz.pinned (.plain (OpenSpec.upto groundQuotasSpec)) groundQuotasUptoCard

/-- THE SECOND FORM's CARD OF 'turnroundlaw04.GroundTiles'. -/
def groundTilesUptoCard : Claim7 := { stood := { row := groundTilesUptoRow, standIns := [], harness := (true, "e813367c6a5abb3b8fc8cecdf0f8303c4a45e4a9ecf1e2daa4a2713c3aba99cf"), looks := false }, kinds := [], alts := [], laidByText := true, laidKinds := [.data], laidTests := true, laidLooks := .later }
def GroundTilesUptoCardSaid : Prop := Claim7.holds Tryz.pinned (.plain (OpenSpec.upto groundTilesSpec)) groundTilesUptoCard
end Rows
end Go.Proofs.YthhidpjikbhljaaGreatDoor
