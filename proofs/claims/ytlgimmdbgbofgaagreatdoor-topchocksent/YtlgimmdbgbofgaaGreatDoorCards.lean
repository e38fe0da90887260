/-
  DERIVED. GIVEN WITH THE SEED: THE CARDS: each row of YtlgimmdbgbofgaaGreatDoorRows.lean that lists a variable, with what it lists TIED to the program's text (the seventh form; the later family's looks); each row that meets fmt, with fmt's text TOLD by the authors' own Lean function (tested against real Go, not proved from fmt's source: count such statements apart). THE CARD IS WHAT COUNTS. Prove the row's statement (the work); the ties are given (YtlgimmdbgbofgaaGreatDoorTie.lean); close each card by the builder's one call (the guide's Derived/Test/ToyasCard.lean, 'card_holds'). Laid BY PROGRAM, IN A SANDBOX (cutbox-door.mjs). By AI agents, Wed Nov 11 2026. No macro, syntax, notation, axiom, sorry.
-/
import Derived.Test.YtlgimmdbgbofgaaGreatDoorRows
import GoSem.ClaimSeven
namespace Go.Proofs.YtlgimmdbgbofgaaGreatDoor
namespace Rows

/-- THE TIED CARD OF 'turnroundtop.TopChockShifted'. -/
def topChockShiftedCard : Claim7 := { stood := { row := topChockShiftedRow, standIns := [], harness := (true, "cbd6ddfd89d34e11aec7e57186b3fb0a01d034d4db0746dc2757ca271999405b"), looks := false }, kinds := [], alts := [], laidByText := true, laidKinds := [.data, .data, .data, .data, .pinned], laidTests := true, laidLooks := .later }
def TopChockShiftedCardSaid : Prop := Claim7.holds Tryz.pinned (.plain (OpenSpec.ofChange topChockShiftedSpec)) topChockShiftedCard

/-- THE TIED CARD OF 'turnroundtop.TopChockSent'. -/
def topChockSentCard : Claim7 := { stood := { row := topChockSentRow, standIns := [], harness := (true, "cbd6ddfd89d34e11aec7e57186b3fb0a01d034d4db0746dc2757ca271999405b"), looks := false }, kinds := [], alts := [], laidByText := true, laidKinds := [.data, .data, .data, .data, .pinned], laidTests := true, laidLooks := .later }
def TopChockSentCardSaid : Prop := Claim7.holds Tryz.pinned (.plain (OpenSpec.ofChange topChockSentSpec)) topChockSentCard

/-- THE SECOND FORM's CARD OF 'turnroundtop.TopChockShifted'. -/
def topChockShiftedUptoCard : Claim7 := { stood := { row := topChockShiftedUptoRow, standIns := [], harness := (true, "cbd6ddfd89d34e11aec7e57186b3fb0a01d034d4db0746dc2757ca271999405b"), looks := false }, kinds := [], alts := [], laidByText := true, laidKinds := [.data, .data, .data, .data, .pinned], laidTests := true, laidLooks := .later }
def TopChockShiftedUptoCardSaid : Prop := Claim7.holds Tryz.pinned (.plain (OpenSpec.upto topChockShiftedSpec)) topChockShiftedUptoCard

/-- THE SECOND FORM's CARD OF 'turnroundtop.TopChockSent'. -/
def topChockSentUptoCard : Claim7 := { stood := { row := topChockSentUptoRow, standIns := [], harness := (true, "cbd6ddfd89d34e11aec7e57186b3fb0a01d034d4db0746dc2757ca271999405b"), looks := false }, kinds := [], alts := [], laidByText := true, laidKinds := [.data, .data, .data, .data, .pinned], laidTests := true, laidLooks := .later }
def TopChockSentUptoCardSaid : Prop := Claim7.holds Tryz.pinned (.plain (OpenSpec.upto topChockSentSpec)) topChockSentUptoCard
end Rows
end Go.Proofs.YtlgimmdbgbofgaaGreatDoor
