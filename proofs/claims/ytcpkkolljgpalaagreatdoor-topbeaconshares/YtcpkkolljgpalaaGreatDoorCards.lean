/-
  DERIVED. GIVEN WITH THE SEED: THE CARDS: each row of YtcpkkolljgpalaaGreatDoorRows.lean that lists a variable, with what it lists TIED to the program's text (the seventh form; the later family's looks); each row that meets fmt, with fmt's text TOLD by the authors' own Lean function (tested against real Go, not proved from fmt's source: count such statements apart). THE CARD IS WHAT COUNTS. Prove the row's statement (the work); the ties are given (YtcpkkolljgpalaaGreatDoorTie.lean); close each card by the builder's one call (the guide's Derived/Test/ToyasCard.lean, 'card_holds'). Laid BY PROGRAM, IN A SANDBOX (cutbox-door.mjs). By AI agents, Wed Nov 11 2026. No macro, syntax, notation, axiom, sorry.
-/
import Derived.Test.YtcpkkolljgpalaaGreatDoorRows
import GoSem.ClaimSeven
namespace Go.Proofs.YtcpkkolljgpalaaGreatDoor
namespace Rows

/-- THE TIED CARD OF 'turnroundtop.TopBeaconReduced'. -/
def topBeaconReducedCard : Claim7 := { stood := { row := topBeaconReducedRow, standIns := [], harness := (true, "a2be69bcb50fc0f25f40339c6b3b2bf019808a8acd15c88e52868d9e3cafe357"), looks := false }, kinds := [], alts := [], laidByText := true, laidKinds := [.data], laidTests := true, laidLooks := .later }
def TopBeaconReducedCardSaid : Prop := Claim7.holds Tryz.pinned (.plain (OpenSpec.ofChange topBeaconReducedSpec)) topBeaconReducedCard

/-- THE TIED CARD OF 'turnroundtop.TopBeaconShares'. -/
def topBeaconSharesCard : Claim7 := { stood := { row := topBeaconSharesRow, standIns := [], harness := (true, "a2be69bcb50fc0f25f40339c6b3b2bf019808a8acd15c88e52868d9e3cafe357"), looks := false }, kinds := [], alts := [], laidByText := true, laidKinds := [.data], laidTests := true, laidLooks := .later }
def TopBeaconSharesCardSaid : Prop := Claim7.holds Tryz.pinned (.plain (OpenSpec.ofChange topBeaconSharesSpec)) topBeaconSharesCard

/-- THE SECOND FORM's CARD OF 'turnroundtop.TopBeaconReduced'. -/
def topBeaconReducedUptoCard : Claim7 := { stood := { row := topBeaconReducedUptoRow, standIns := [], harness := (true, "a2be69bcb50fc0f25f40339c6b3b2bf019808a8acd15c88e52868d9e3cafe357"), looks := false }, kinds := [], alts := [], laidByText := true, laidKinds := [.data], laidTests := true, laidLooks := .later }
def TopBeaconReducedUptoCardSaid : Prop := Claim7.holds Tryz.pinned (.plain (OpenSpec.upto topBeaconReducedSpec)) topBeaconReducedUptoCard

/-- THE SECOND FORM's CARD OF 'turnroundtop.TopBeaconShares'. -/
def topBeaconSharesUptoCard : Claim7 := { stood := { row := topBeaconSharesUptoRow, standIns := [], harness := (true, "a2be69bcb50fc0f25f40339c6b3b2bf019808a8acd15c88e52868d9e3cafe357"), looks := false }, kinds := [], alts := [], laidByText := true, laidKinds := [.data], laidTests := true, laidLooks := .later }
def TopBeaconSharesUptoCardSaid : Prop := Claim7.holds Tryz.pinned (.plain (OpenSpec.upto topBeaconSharesSpec)) topBeaconSharesUptoCard
end Rows
end Go.Proofs.YtcpkkolljgpalaaGreatDoor
