/-
  DERIVED. GIVEN WITH THE SEED: THE CARDS: each row of YtdfgeoefbbkcnaaGreatDoorRows.lean that lists a variable, with what it lists TIED to the program's text (the seventh form; the later family's looks); each row that meets fmt, with fmt's text TOLD by the authors' own Lean function (tested against real Go, not proved from fmt's source: count such statements apart). THE CARD IS WHAT COUNTS. Prove the row's statement (the work); the ties are given (YtdfgeoefbbkcnaaGreatDoorTie.lean); close each card by the builder's one call (the guide's Derived/Test/ToyasCard.lean, 'card_holds'). Laid BY PROGRAM, IN A SANDBOX (cutbox-door.mjs). By AI agents, Wed Nov 11 2026. No macro, syntax, notation, axiom, sorry.
-/
import Derived.Test.YtdfgeoefbbkcnaaGreatDoorRows
import GoSem.ClaimSeven
namespace Go.Proofs.YtdfgeoefbbkcnaaGreatDoor
namespace Rows

/-- THE TIED CARD OF 'turnroundlaw09.UseChecks'. -/
def useChecksCard : Claim7 := { stood := { row := useChecksRow, standIns := [], harness := (true, "53f62e1175aec5bbbb2f5a8fad07f2d835bf6bbac642c2d216bb8dfb64a17572"), looks := false }, kinds := [], alts := [], laidByText := true, laidKinds := [.data, .data], laidTests := true, laidLooks := .later }
def UseChecksCardSaid : Prop := Claim7.holds Tryz.pinned (.plain (OpenSpec.ofChange useChecksSpec)) useChecksCard

/-- THE TIED CARD OF 'turnroundlaw09.UseSeries'. -/
def useSeriesCard : Claim7 := { stood := { row := useSeriesRow, standIns := [], harness := (true, "53f62e1175aec5bbbb2f5a8fad07f2d835bf6bbac642c2d216bb8dfb64a17572"), looks := false }, kinds := [], alts := [], laidByText := true, laidKinds := [.data, .data], laidTests := true, laidLooks := .later }
def UseSeriesCardSaid : Prop := Claim7.holds Tryz.pinned (.plain (OpenSpec.ofChange useSeriesSpec)) useSeriesCard

/-- THE TIED CARD OF 'turnroundlaw09.UseRatios'. -/
def useRatiosCard : Claim7 := { stood := { row := useRatiosRow, standIns := [], harness := (true, "53f62e1175aec5bbbb2f5a8fad07f2d835bf6bbac642c2d216bb8dfb64a17572"), looks := false }, kinds := [], alts := [], laidByText := true, laidKinds := [.data, .data], laidTests := true, laidLooks := .later }
def UseRatiosCardSaid : Prop := Claim7.holds Tryz.pinned (.plain (OpenSpec.ofChange useRatiosSpec)) useRatiosCard

/-- THE TIED CARD OF 'turnroundlaw09.UseHistoric'. -/
def useHistoricCard : Claim7 := { stood := { row := useHistoricRow, standIns := [], harness := (true, "53f62e1175aec5bbbb2f5a8fad07f2d835bf6bbac642c2d216bb8dfb64a17572"), looks := false }, kinds := [], alts := [], laidByText := true, laidKinds := [.data, .data], laidTests := true, laidLooks := .later }
def UseHistoricCardSaid : Prop := Claim7.holds Tryz.pinned (.plain (OpenSpec.ofChange useHistoricSpec)) useHistoricCard

/-- THE TIED CARD OF 'turnroundlaw09.UseShares'. -/
def useSharesCard : Claim7 := { stood := { row := useSharesRow, standIns := [], harness := (true, "53f62e1175aec5bbbb2f5a8fad07f2d835bf6bbac642c2d216bb8dfb64a17572"), looks := false }, kinds := [], alts := [], laidByText := true, laidKinds := [.data, .data], laidTests := true, laidLooks := .later }
def UseSharesCardSaid : Prop := Claim7.holds Tryz.pinned (.plain (OpenSpec.ofChange useSharesSpec)) useSharesCard

/-- THE TIED CARD OF 'turnroundlaw09.UseMatches'. -/
def useMatchesCard : Claim7 := { stood := { row := useMatchesRow, standIns := [], harness := (true, "53f62e1175aec5bbbb2f5a8fad07f2d835bf6bbac642c2d216bb8dfb64a17572"), looks := false }, kinds := [], alts := [], laidByText := true, laidKinds := [.data, .data], laidTests := true, laidLooks := .later }
def UseMatchesCardSaid : Prop := Claim7.holds Tryz.pinned (.plain (OpenSpec.ofChange useMatchesSpec)) useMatchesCard

/-- THE TIED CARD OF 'turnroundlaw09.UseStatus'. -/
def useStatusCard : Claim7 := { stood := { row := useStatusRow, standIns := [], harness := (true, "53f62e1175aec5bbbb2f5a8fad07f2d835bf6bbac642c2d216bb8dfb64a17572"), looks := false }, kinds := [], alts := [], laidByText := true, laidKinds := [.data, .data], laidTests := true, laidLooks := .later }
def UseStatusCardSaid : Prop := Claim7.holds Tryz.pinned (.plain (OpenSpec.ofChange useStatusSpec)) useStatusCard

/-- THE TIED CARD OF 'turnroundlaw09.UseOrders'. -/
def useOrdersCard : Claim7 := { stood := { row := useOrdersRow, standIns := [], harness := (true, "53f62e1175aec5bbbb2f5a8fad07f2d835bf6bbac642c2d216bb8dfb64a17572"), looks := false }, kinds := [], alts := [], laidByText := true, laidKinds := [.data, .data], laidTests := true, laidLooks := .later }
def UseOrdersCardSaid : Prop := Claim7.holds Tryz.pinned (.plain (OpenSpec.ofChange useOrdersSpec)) useOrdersCard

/-- THE TIED CARD OF 'turnroundlaw09.UseRights'. -/
def useRightsCard : Claim7 := { stood := { row := useRightsRow, standIns := [], harness := (true, "53f62e1175aec5bbbb2f5a8fad07f2d835bf6bbac642c2d216bb8dfb64a17572"), looks := false }, kinds := [], alts := [], laidByText := true, laidKinds := [.data, .data], laidTests := true, laidLooks := .later }
def UseRightsCardSaid : Prop := Claim7.holds Tryz.pinned (.plain (OpenSpec.ofChange useRightsSpec)) useRightsCard

/-- THE TIED CARD OF 'turnroundlaw09.UseCarries'. -/
def useCarriesCard : Claim7 := { stood := { row := useCarriesRow, standIns := [], harness := (true, "53f62e1175aec5bbbb2f5a8fad07f2d835bf6bbac642c2d216bb8dfb64a17572"), looks := false }, kinds := [], alts := [], laidByText := true, laidKinds := [.data, .data], laidTests := true, laidLooks := .later }
def UseCarriesCardSaid : Prop := Claim7.holds Tryz.pinned (.plain (OpenSpec.ofChange useCarriesSpec)) useCarriesCard

/-- THE TIED CARD OF 'turnroundlaw09.UseTables'. -/
def useTablesCard : Claim7 := { stood := { row := useTablesRow, standIns := [], harness := (true, "53f62e1175aec5bbbb2f5a8fad07f2d835bf6bbac642c2d216bb8dfb64a17572"), looks := false }, kinds := [], alts := [], laidByText := true, laidKinds := [.data, .data], laidTests := true, laidLooks := .later }
def UseTablesCardSaid : Prop := Claim7.holds Tryz.pinned (.plain (OpenSpec.ofChange useTablesSpec)) useTablesCard

/-- THE TIED CARD OF 'turnroundlaw09.UsePairs'. -/
def usePairsCard : Claim7 := { stood := { row := usePairsRow, standIns := [], harness := (true, "53f62e1175aec5bbbb2f5a8fad07f2d835bf6bbac642c2d216bb8dfb64a17572"), looks := false }, kinds := [], alts := [], laidByText := true, laidKinds := [.data, .data], laidTests := true, laidLooks := .later }
def UsePairsCardSaid : Prop := Claim7.holds Tryz.pinned (.plain (OpenSpec.ofChange usePairsSpec)) usePairsCard

/-- THE TIED CARD OF 'turnroundlaw09.UseGreatest'. -/
def useGreatestCard : Claim7 := { stood := { row := useGreatestRow, standIns := [], harness := (true, "53f62e1175aec5bbbb2f5a8fad07f2d835bf6bbac642c2d216bb8dfb64a17572"), looks := false }, kinds := [], alts := [], laidByText := true, laidKinds := [.data, .data], laidTests := true, laidLooks := .later }
def UseGreatestCardSaid : Prop := Claim7.holds Tryz.pinned (.plain (OpenSpec.ofChange useGreatestSpec)) useGreatestCard

/-- THE SECOND FORM's CARD OF 'turnroundlaw09.UseChecks'. -/
def useChecksUptoCard : Claim7 := { stood := { row := useChecksUptoRow, standIns := [], harness := (true, "53f62e1175aec5bbbb2f5a8fad07f2d835bf6bbac642c2d216bb8dfb64a17572"), looks := false }, kinds := [], alts := [], laidByText := true, laidKinds := [.data, .data], laidTests := true, laidLooks := .later }
def UseChecksUptoCardSaid : Prop := Claim7.holds Tryz.pinned (.plain (OpenSpec.upto useChecksSpec)) useChecksUptoCard

/-- THE SECOND FORM's CARD OF 'turnroundlaw09.UseSeries'. -/
def useSeriesUptoCard : Claim7 := { stood := { row := useSeriesUptoRow, standIns := [], harness := (true, "53f62e1175aec5bbbb2f5a8fad07f2d835bf6bbac642c2d216bb8dfb64a17572"), looks := false }, kinds := [], alts := [], laidByText := true, laidKinds := [.data, .data], laidTests := true, laidLooks := .later }
def UseSeriesUptoCardSaid : Prop := Claim7.holds Tryz.pinned (.plain (OpenSpec.upto useSeriesSpec)) useSeriesUptoCard

/-- THE SECOND FORM's CARD OF 'turnroundlaw09.UseRatios'. -/
def useRatiosUptoCard : Claim7 := { stood := { row := useRatiosUptoRow, standIns := [], harness := (true, "53f62e1175aec5bbbb2f5a8fad07f2d835bf6bbac642c2d216bb8dfb64a17572"), looks := false }, kinds := [], alts := [], laidByText := true, laidKinds := [.data, .data], laidTests := true, laidLooks := .later }
def UseRatiosUptoCardSaid : Prop := Claim7.holds Tryz.pinned (.plain (OpenSpec.upto useRatiosSpec)) useRatiosUptoCard

/-- THE SECOND FORM's CARD OF 'turnroundlaw09.UseHistoric'. -/
def useHistoricUptoCard : Claim7 := { stood := { row := useHistoricUptoRow, standIns := [], harness := (true, "53f62e1175aec5bbbb2f5a8fad07f2d835bf6bbac642c2d216bb8dfb64a17572"), looks := false }, kinds := [], alts := [], laidByText := true, laidKinds := [.data, .data], laidTests := true, laidLooks := .later }
def UseHistoricUptoCardSaid : Prop := Claim7.holds Tryz.pinned (.plain (OpenSpec.upto useHistoricSpec)) useHistoricUptoCard

/-- THE SECOND FORM's CARD OF 'turnroundlaw09.UseShares'. -/
def useSharesUptoCard : Claim7 := { stood := { row := useSharesUptoRow, standIns := [], harness := (true, "53f62e1175aec5bbbb2f5a8fad07f2d835bf6bbac642c2d216bb8dfb64a17572"), looks := false }, kinds := [], alts := [], laidByText := true, laidKinds := [.data, .data], laidTests := true, laidLooks := .later }
def UseSharesUptoCardSaid : Prop := Claim7.holds Tryz.pinned (.plain (OpenSpec.upto useSharesSpec)) useSharesUptoCard

/-- THE SECOND FORM's CARD OF 'turnroundlaw09.UseMatches'. -/
def useMatchesUptoCard : Claim7 := { stood := { row := useMatchesUptoRow, standIns := [], harness := (true, "53f62e1175aec5bbbb2f5a8fad07f2d835bf6bbac642c2d216bb8dfb64a17572"), looks := false }, kinds := [], alts := [], laidByText := true, laidKinds := [.data, .data], laidTests := true, laidLooks := .later }
def UseMatchesUptoCardSaid : Prop := Claim7.holds Tryz.pinned (.plain (OpenSpec.upto useMatchesSpec)) useMatchesUptoCard

/-- THE SECOND FORM's CARD OF 'turnroundlaw09.UseStatus'. -/
def useStatusUptoCard : Claim7 := { stood := { row := useStatusUptoRow, standIns := [], harness := (true, "53f62e1175aec5bbbb2f5a8fad07f2d835bf6bbac642c2d216bb8dfb64a17572"), looks := false }, kinds := [], alts := [], laidByText := true, laidKinds := [.data, .data], laidTests := true, laidLooks := .later }
def UseStatusUptoCardSaid : Prop := Claim7.holds Tryz.pinned (.plain (OpenSpec.upto useStatusSpec)) useStatusUptoCard

/-- THE SECOND FORM's CARD OF 'turnroundlaw09.UseOrders'. -/
def useOrdersUptoCard : Claim7 := { stood := { row := useOrdersUptoRow, standIns := [], harness := (true, "53f62e1175aec5bbbb2f5a8fad07f2d835bf6bbac642c2d216bb8dfb64a17572"), looks := false }, kinds := [], alts := [], laidByText := true, laidKinds := [.data, .data], laidTests := true, laidLooks := .later }
def UseOrdersUptoCardSaid : Prop := Claim7.holds Tryz.pinned (.plain (OpenSpec.upto useOrdersSpec)) useOrdersUptoCard

/-- THE SECOND FORM's CARD OF 'turnroundlaw09.UseRights'. -/
def useRightsUptoCard : Claim7 := { stood := { row := useRightsUptoRow, standIns := [], harness := (true, "53f62e1175aec5bbbb2f5a8fad07f2d835bf6bbac642c2d216bb8dfb64a17572"), looks := false }, kinds := [], alts := [], laidByText := true, laidKinds := [.data, .data], laidTests := true, laidLooks := .later }
def UseRightsUptoCardSaid : Prop := Claim7.holds Tryz.pinned (.plain (OpenSpec.upto useRightsSpec)) useRightsUptoCard

/-- THE SECOND FORM's CARD OF 'turnroundlaw09.UseCarries'. -/
def useCarriesUptoCard : Claim7 := { stood := { row := useCarriesUptoRow, standIns := [], harness := (true, "53f62e1175aec5bbbb2f5a8fad07f2d835bf6bbac642c2d216bb8dfb64a17572"), looks := false }, kinds := [], alts := [], laidByText := true, laidKinds := [.data, .data], laidTests := true, laidLooks := .later }
def UseCarriesUptoCardSaid : Prop := Claim7.holds Tryz.pinned (.plain (OpenSpec.upto useCarriesSpec)) useCarriesUptoCard

/-- THE SECOND FORM's CARD OF 'turnroundlaw09.UseTables'. -/
def useTablesUptoCard : Claim7 := { stood := { row := useTablesUptoRow, standIns := [], harness := (true, "53f62e1175aec5bbbb2f5a8fad07f2d835bf6bbac642c2d216bb8dfb64a17572"), looks := false }, kinds := [], alts := [], laidByText := true, laidKinds := [.data, .data], laidTests := true, laidLooks := .later }
def UseTablesUptoCardSaid : Prop := Claim7.holds Tryz.pinned (.plain (OpenSpec.upto useTablesSpec)) useTablesUptoCard

/-- THE SECOND FORM's CARD OF 'turnroundlaw09.UsePairs'. -/
def usePairsUptoCard : Claim7 := { stood := { row := usePairsUptoRow, standIns := [], harness := (true, "53f62e1175aec5bbbb2f5a8fad07f2d835bf6bbac642c2d216bb8dfb64a17572"), looks := false }, kinds := [], alts := [], laidByText := true, laidKinds := [.data, .data], laidTests := true, laidLooks := .later }
def UsePairsUptoCardSaid : Prop := Claim7.holds Tryz.pinned (.plain (OpenSpec.upto usePairsSpec)) usePairsUptoCard

/-- THE SECOND FORM's CARD OF 'turnroundlaw09.UseGreatest'. -/
def useGreatestUptoCard : Claim7 := { stood := { row := useGreatestUptoRow, standIns := [], harness := (true, "53f62e1175aec5bbbb2f5a8fad07f2d835bf6bbac642c2d216bb8dfb64a17572"), looks := false }, kinds := [], alts := [], laidByText := true, laidKinds := [.data, .data], laidTests := true, laidLooks := .later }
def UseGreatestUptoCardSaid : Prop := Claim7.holds Tryz.pinned (.plain (OpenSpec.upto useGreatestSpec)) useGreatestUptoCard
end Rows
end Go.Proofs.YtdfgeoefbbkcnaaGreatDoor
