/-
  DERIVED. GIVEN WITH THE SEED: THE CARDS: each row of YtkeegnagpekgmaaDoorRows.lean that lists a variable, with what it lists TIED to the program's text (the seventh form; the later family's looks); each row that meets fmt, with fmt's text TOLD by the authors' own Lean function (tested against real Go, not proved from fmt's source: count such statements apart). THE CARD IS WHAT COUNTS. Prove the row's statement (the work); the ties are given (YtkeegnagpekgmaaDoorTie.lean); close each card by the builder's one call (the guide's Derived/Test/ToyasCard.lean, 'card_holds'). Laid BY PROGRAM, IN A SANDBOX (cutbox-door.mjs). By AI agents, Wed Nov 11 2026. No macro, syntax, notation, axiom, sorry.
-/
import Derived.Test.YtkeegnagpekgmaaDoorRows
import GoSem.ClaimSeven
namespace Go.Proofs.YtkeegnagpekgmaaDoor
namespace Rows

/-- THE TIED CARD OF 'turnroundtop.TopBeaconSeasons'. -/
def topBeaconSeasonsCard : Claim7 := { stood := { row := topBeaconSeasonsRow, standIns := [], harness := (true, "a8caa43040ed250ba8f9f4270ef20c1aea07e67ca42d57cffd3a28b6ade8b35c"), looks := false }, kinds := [], alts := [], laidByText := true, laidKinds := [.data], laidTests := true, laidLooks := .later }
def TopBeaconSeasonsCardSaid : Prop := Claim7.holds Tryd.pinned (.plain (OpenSpec.ofChange topBeaconSeasonsSpec)) topBeaconSeasonsCard

/-- THE SECOND FORM's CARD OF 'turnroundtop.TopBeaconSeasons'. -/
def topBeaconSeasonsUptoCard : Claim7 := { stood := { row := topBeaconSeasonsUptoRow, standIns := [], harness := (true, "a8caa43040ed250ba8f9f4270ef20c1aea07e67ca42d57cffd3a28b6ade8b35c"), looks := false }, kinds := [], alts := [], laidByText := true, laidKinds := [.data], laidTests := true, laidLooks := .later }
def TopBeaconSeasonsUptoCardSaid : Prop := Claim7.holds Tryd.pinned (.plain (OpenSpec.upto topBeaconSeasonsSpec)) topBeaconSeasonsUptoCard
end Rows
end Go.Proofs.YtkeegnagpekgmaaDoor
