/-
  NARROWER THAN 'FOR EVERY INPUT', by the rows' own cells (each row's printed sentence says how): GroundChecks: laid · GroundAssigns: laid · GroundSeats: laid · GroundRooms: laid · GroundNights: laid · GroundFills: laid · GroundSums: laid · GroundClashes: laid · GroundFits: laid · GroundPairs: laid · GroundQuotas: laid · GroundTiles: laid.
  DERIVED. THE GIVEN ROWS OF THIS SEAT. 12 by the template 'for every input the law returns true; each argument reads behind the call as it read before'; 0 by the template 'total and deterministic' (their statements: YthhidpjikbhljaaGreatDoorTotals.lean).
  GIVEN WITH THE SEED: the statements are not yours to turn. If you find one false, say at which input.
  Laid BY PROGRAM, IN A SANDBOX (cutbox-rows.mjs): the forced cells as the released guide's own fill.sh prints them over the translation a5345874968a3885… (all of the seat's roots in one cut). By AI agents, Wed Nov 11 2026. No macro, syntax, notation, axiom, sorry.
-/
import Derived.Test.YthhidpjikbhljaaGreatDoorChecked
import GoSem.Claim
import GoSem.ClaimJoined
import GoSem.ClaimMapViews
import Derived.JoinedTies
import Derived.KernelRfl
namespace Go.Proofs.YthhidpjikbhljaaGreatDoor
/- THE CELL 'sum', in the pinned program and in every row, IS THE sha256 OF THE DUMP (.gsa) THAT YthhidpjikbhljaaGreatDoorProg.lean LOADS. Nothing in Lean hashes anything: it is a label: what it is worth is what the hold of that sum in a sandbox is worth. -/
noncomputable def Tryz.pinned : Pinned := { name := "ythhidpjikbhljaagreatdoor", sum := "a5345874968a3885c424455c5984b87dd6ad52a40114a4320f179aa11a8e4b41", checked := Tryz.checked }
namespace Rows
def none {H : Type} : Left H := { results := [], args := [] }

/- WHAT THE LISTED PACKAGE-LEVEL VARIABLES READ AS WHEN THE CALL BEGINS. Each datum BY PROGRAM (the guide's laid-datum.mjs) off the statement by which the dump's own 'gosem.cut.vars' lays the variable. In a bare row this is a premise. The card (YthhidpjikbhljaaGreatDoorCards.lean) ties it to the program's text. -/
def laid_turnround_calendar_lengths {H : Type} : DataW H := .agg [.lit (.int .i64 31), .lit (.int .i64 28), .lit (.int .i64 31), .lit (.int .i64 30), .lit (.int .i64 31), .lit (.int .i64 30), .lit (.int .i64 31), .lit (.int .i64 31), .lit (.int .i64 30), .lit (.int .i64 31), .lit (.int .i64 30), .lit (.int .i64 31)]

/-- 'turnroundlaw04.GroundChecks': WHATEVER THE INPUT: true; the input reads as it did. -/
def groundChecksSpec : ChangeSpec := { name := "groundChecks", fn := fun _ => fun
  | [d1, d2, d3] => { results := [.lit (.bool true)], args := [d1, d2, d3] }
  | _ => none }
def groundChecksRow : OpenClaim := { program := "ythhidpjikbhljaagreatdoor", sum := "a5345874968a3885c424455c5984b87dd6ad52a40114a4320f179aa11a8e4b41", func := "turnround/turnroundlaw04.GroundChecks", spec := "groundChecks", unfollowed := true, recurses := true, named := ["turnround/calendar.lengths"], apart := false, laid := [("turnround/calendar.lengths", laid_turnround_calendar_lengths)] }
def GroundChecksSaid : Prop := groundChecksRow.holds Tryz.pinned (OpenSpec.ofChange groundChecksSpec)

/-- ITS FALSE NEIGHBOUR: 'it returns false'. Refute it at one input. -/
def groundChecksWrong : ChangeSpec := { name := "groundChecks", fn := fun _ => fun
  | [d1, d2, d3] => { results := [.lit (.bool false)], args := [d1, d2, d3] }
  | _ => none }
def GroundChecksWrongFalsely : Prop := groundChecksRow.holds Tryz.pinned (OpenSpec.ofChange groundChecksWrong)

/-- 'turnroundlaw04.GroundAssigns': WHATEVER THE INPUT: true; the input reads as it did. -/
def groundAssignsSpec : ChangeSpec := { name := "groundAssigns", fn := fun _ => fun
  | [d1, d2] => { results := [.lit (.bool true)], args := [d1, d2] }
  | _ => none }
def groundAssignsRow : OpenClaim := { program := "ythhidpjikbhljaagreatdoor", sum := "a5345874968a3885c424455c5984b87dd6ad52a40114a4320f179aa11a8e4b41", func := "turnround/turnroundlaw04.GroundAssigns", spec := "groundAssigns", unfollowed := true, recurses := true, named := ["turnround/calendar.lengths"], apart := false, laid := [("turnround/calendar.lengths", laid_turnround_calendar_lengths)] }
def GroundAssignsSaid : Prop := groundAssignsRow.holds Tryz.pinned (OpenSpec.ofChange groundAssignsSpec)

/-- ITS FALSE NEIGHBOUR: 'it returns false'. Refute it at one input. -/
def groundAssignsWrong : ChangeSpec := { name := "groundAssigns", fn := fun _ => fun
  | [d1, d2] => { results := [.lit (.bool false)], args := [d1, d2] }
  | _ => none }
def GroundAssignsWrongFalsely : Prop := groundAssignsRow.holds Tryz.pinned (OpenSpec.ofChange groundAssignsWrong)

/-- 'turnroundlaw04.GroundSeats': WHATEVER THE INPUT: true; the input reads as it did. -/
def groundSeatsSpec : ChangeSpec := { name := "groundSeats", fn := fun _ => fun
  | [d1, d2] => { results := [.lit (.bool true)], args := [d1, d2] }
  | _ => none }
def groundSeatsRow : OpenClaim := { program := "ythhidpjikbhljaagreatdoor", sum := "a5345874968a3885c424455c5984b87dd6ad52a40114a4320f179aa11a8e4b41", func := "turnround/turnroundlaw04.GroundSeats", spec := "groundSeats", unfollowed := true, recurses := true, named := ["turnround/calendar.lengths"], apart := false, laid := [("turnround/calendar.lengths", laid_turnround_calendar_lengths)] }
def GroundSeatsSaid : Prop := groundSeatsRow.holds Tryz.pinned (OpenSpec.ofChange groundSeatsSpec)

/-- ITS FALSE NEIGHBOUR: 'it returns false'. Refute it at one input. -/
def groundSeatsWrong : ChangeSpec := { name := "groundSeats", fn := fun _ => fun
  | [d1, d2] => { results := [.lit (.bool false)], args := [d1, d2] }
  | _ => none }
def GroundSeatsWrongFalsely : Prop := groundSeatsRow.holds Tryz.pinned (OpenSpec.ofChange groundSeatsWrong)

/-- 'turnroundlaw04.GroundRooms': WHATEVER THE INPUT: true; the input reads as it did. -/
def groundRoomsSpec : ChangeSpec := { name := "groundRooms", fn := fun _ => fun
  | [d1, d2] => { results := [.lit (.bool true)], args := [d1, d2] }
  | _ => none }
def groundRoomsRow : OpenClaim := { program := "ythhidpjikbhljaagreatdoor", sum := "a5345874968a3885c424455c5984b87dd6ad52a40114a4320f179aa11a8e4b41", func := "turnround/turnroundlaw04.GroundRooms", spec := "groundRooms", unfollowed := true, recurses := true, named := ["turnround/calendar.lengths"], apart := false, laid := [("turnround/calendar.lengths", laid_turnround_calendar_lengths)] }
def GroundRoomsSaid : Prop := groundRoomsRow.holds Tryz.pinned (OpenSpec.ofChange groundRoomsSpec)

/-- ITS FALSE NEIGHBOUR: 'it returns false'. Refute it at one input. -/
def groundRoomsWrong : ChangeSpec := { name := "groundRooms", fn := fun _ => fun
  | [d1, d2] => { results := [.lit (.bool false)], args := [d1, d2] }
  | _ => none }
def GroundRoomsWrongFalsely : Prop := groundRoomsRow.holds Tryz.pinned (OpenSpec.ofChange groundRoomsWrong)

/-- 'turnroundlaw04.GroundNights': WHATEVER THE INPUT: true; the input reads as it did. -/
def groundNightsSpec : ChangeSpec := { name := "groundNights", fn := fun _ => fun
  | [d1, d2] => { results := [.lit (.bool true)], args := [d1, d2] }
  | _ => none }
def groundNightsRow : OpenClaim := { program := "ythhidpjikbhljaagreatdoor", sum := "a5345874968a3885c424455c5984b87dd6ad52a40114a4320f179aa11a8e4b41", func := "turnround/turnroundlaw04.GroundNights", spec := "groundNights", unfollowed := true, recurses := true, named := ["turnround/calendar.lengths"], apart := false, laid := [("turnround/calendar.lengths", laid_turnround_calendar_lengths)] }
def GroundNightsSaid : Prop := groundNightsRow.holds Tryz.pinned (OpenSpec.ofChange groundNightsSpec)

/-- ITS FALSE NEIGHBOUR: 'it returns false'. Refute it at one input. -/
def groundNightsWrong : ChangeSpec := { name := "groundNights", fn := fun _ => fun
  | [d1, d2] => { results := [.lit (.bool false)], args := [d1, d2] }
  | _ => none }
def GroundNightsWrongFalsely : Prop := groundNightsRow.holds Tryz.pinned (OpenSpec.ofChange groundNightsWrong)

/-- 'turnroundlaw04.GroundFills': WHATEVER THE INPUT: true; the input reads as it did. -/
def groundFillsSpec : ChangeSpec := { name := "groundFills", fn := fun _ => fun
  | [d1, d2] => { results := [.lit (.bool true)], args := [d1, d2] }
  | _ => none }
def groundFillsRow : OpenClaim := { program := "ythhidpjikbhljaagreatdoor", sum := "a5345874968a3885c424455c5984b87dd6ad52a40114a4320f179aa11a8e4b41", func := "turnround/turnroundlaw04.GroundFills", spec := "groundFills", unfollowed := true, recurses := true, named := ["turnround/calendar.lengths"], apart := false, laid := [("turnround/calendar.lengths", laid_turnround_calendar_lengths)] }
def GroundFillsSaid : Prop := groundFillsRow.holds Tryz.pinned (OpenSpec.ofChange groundFillsSpec)

/-- ITS FALSE NEIGHBOUR: 'it returns false'. Refute it at one input. -/
def groundFillsWrong : ChangeSpec := { name := "groundFills", fn := fun _ => fun
  | [d1, d2] => { results := [.lit (.bool false)], args := [d1, d2] }
  | _ => none }
def GroundFillsWrongFalsely : Prop := groundFillsRow.holds Tryz.pinned (OpenSpec.ofChange groundFillsWrong)

/-- 'turnroundlaw04.GroundSums': WHATEVER THE INPUT: true; the input reads as it did. -/
def groundSumsSpec : ChangeSpec := { name := "groundSums", fn := fun _ => fun
  | [d1, d2, d3] => { results := [.lit (.bool true)], args := [d1, d2, d3] }
  | _ => none }
def groundSumsRow : OpenClaim := { program := "ythhidpjikbhljaagreatdoor", sum := "a5345874968a3885c424455c5984b87dd6ad52a40114a4320f179aa11a8e4b41", func := "turnround/turnroundlaw04.GroundSums", spec := "groundSums", unfollowed := true, recurses := true, named := ["turnround/calendar.lengths"], apart := false, laid := [("turnround/calendar.lengths", laid_turnround_calendar_lengths)] }
def GroundSumsSaid : Prop := groundSumsRow.holds Tryz.pinned (OpenSpec.ofChange groundSumsSpec)

/-- ITS FALSE NEIGHBOUR: 'it returns false'. Refute it at one input. -/
def groundSumsWrong : ChangeSpec := { name := "groundSums", fn := fun _ => fun
  | [d1, d2, d3] => { results := [.lit (.bool false)], args := [d1, d2, d3] }
  | _ => none }
def GroundSumsWrongFalsely : Prop := groundSumsRow.holds Tryz.pinned (OpenSpec.ofChange groundSumsWrong)

/-- 'turnroundlaw04.GroundClashes': WHATEVER THE INPUT: true; the input reads as it did. -/
def groundClashesSpec : ChangeSpec := { name := "groundClashes", fn := fun _ => fun
  | [d1, d2, d3] => { results := [.lit (.bool true)], args := [d1, d2, d3] }
  | _ => none }
def groundClashesRow : OpenClaim := { program := "ythhidpjikbhljaagreatdoor", sum := "a5345874968a3885c424455c5984b87dd6ad52a40114a4320f179aa11a8e4b41", func := "turnround/turnroundlaw04.GroundClashes", spec := "groundClashes", unfollowed := true, recurses := true, named := ["turnround/calendar.lengths"], apart := false, laid := [("turnround/calendar.lengths", laid_turnround_calendar_lengths)] }
def GroundClashesSaid : Prop := groundClashesRow.holds Tryz.pinned (OpenSpec.ofChange groundClashesSpec)

/-- ITS FALSE NEIGHBOUR: 'it returns false'. Refute it at one input. -/
def groundClashesWrong : ChangeSpec := { name := "groundClashes", fn := fun _ => fun
  | [d1, d2, d3] => { results := [.lit (.bool false)], args := [d1, d2, d3] }
  | _ => none }
def GroundClashesWrongFalsely : Prop := groundClashesRow.holds Tryz.pinned (OpenSpec.ofChange groundClashesWrong)

/-- 'turnroundlaw04.GroundFits': WHATEVER THE INPUT: true; the input reads as it did. -/
def groundFitsSpec : ChangeSpec := { name := "groundFits", fn := fun _ => fun
  | [d1, d2, d3] => { results := [.lit (.bool true)], args := [d1, d2, d3] }
  | _ => none }
def groundFitsRow : OpenClaim := { program := "ythhidpjikbhljaagreatdoor", sum := "a5345874968a3885c424455c5984b87dd6ad52a40114a4320f179aa11a8e4b41", func := "turnround/turnroundlaw04.GroundFits", spec := "groundFits", unfollowed := true, recurses := true, named := ["turnround/calendar.lengths"], apart := false, laid := [("turnround/calendar.lengths", laid_turnround_calendar_lengths)] }
def GroundFitsSaid : Prop := groundFitsRow.holds Tryz.pinned (OpenSpec.ofChange groundFitsSpec)

/-- ITS FALSE NEIGHBOUR: 'it returns false'. Refute it at one input. -/
def groundFitsWrong : ChangeSpec := { name := "groundFits", fn := fun _ => fun
  | [d1, d2, d3] => { results := [.lit (.bool false)], args := [d1, d2, d3] }
  | _ => none }
def GroundFitsWrongFalsely : Prop := groundFitsRow.holds Tryz.pinned (OpenSpec.ofChange groundFitsWrong)

/-- 'turnroundlaw04.GroundPairs': WHATEVER THE INPUT: true; the input reads as it did. -/
def groundPairsSpec : ChangeSpec := { name := "groundPairs", fn := fun _ => fun
  | [d1, d2, d3] => { results := [.lit (.bool true)], args := [d1, d2, d3] }
  | _ => none }
def groundPairsRow : OpenClaim := { program := "ythhidpjikbhljaagreatdoor", sum := "a5345874968a3885c424455c5984b87dd6ad52a40114a4320f179aa11a8e4b41", func := "turnround/turnroundlaw04.GroundPairs", spec := "groundPairs", unfollowed := true, recurses := true, named := ["turnround/calendar.lengths"], apart := false, laid := [("turnround/calendar.lengths", laid_turnround_calendar_lengths)] }
def GroundPairsSaid : Prop := groundPairsRow.holds Tryz.pinned (OpenSpec.ofChange groundPairsSpec)

/-- ITS FALSE NEIGHBOUR: 'it returns false'. Refute it at one input. -/
def groundPairsWrong : ChangeSpec := { name := "groundPairs", fn := fun _ => fun
  | [d1, d2, d3] => { results := [.lit (.bool false)], args := [d1, d2, d3] }
  | _ => none }
def GroundPairsWrongFalsely : Prop := groundPairsRow.holds Tryz.pinned (OpenSpec.ofChange groundPairsWrong)

/-- 'turnroundlaw04.GroundQuotas': WHATEVER THE INPUT: true; the input reads as it did. -/
def groundQuotasSpec : ChangeSpec := { name := "groundQuotas", fn := fun _ => fun
  | [d1, d2] => { results := [.lit (.bool true)], args := [d1, d2] }
  | _ => none }
def groundQuotasRow : OpenClaim := { program := "ythhidpjikbhljaagreatdoor", sum := "a5345874968a3885c424455c5984b87dd6ad52a40114a4320f179aa11a8e4b41", func := "turnround/turnroundlaw04.GroundQuotas", spec := "groundQuotas", unfollowed := true, recurses := true, named := ["turnround/calendar.lengths"], apart := false, laid := [("turnround/calendar.lengths", laid_turnround_calendar_lengths)] }
def GroundQuotasSaid : Prop := groundQuotasRow.holds Tryz.pinned (OpenSpec.ofChange groundQuotasSpec)

/-- ITS FALSE NEIGHBOUR: 'it returns false'. Refute it at one input. -/
def groundQuotasWrong : ChangeSpec := { name := "groundQuotas", fn := fun _ => fun
  | [d1, d2] => { results := [.lit (.bool false)], args := [d1, d2] }
  | _ => none }
def GroundQuotasWrongFalsely : Prop := groundQuotasRow.holds Tryz.pinned (OpenSpec.ofChange groundQuotasWrong)

/-- 'turnroundlaw04.GroundTiles': WHATEVER THE INPUT: true; the input reads as it did. -/
def groundTilesSpec : ChangeSpec := { name := "groundTiles", fn := fun _ => fun
  | [d1, d2, d3] => { results := [.lit (.bool true)], args := [d1, d2, d3] }
  | _ => none }
def groundTilesRow : OpenClaim := { program := "ythhidpjikbhljaagreatdoor", sum := "a5345874968a3885c424455c5984b87dd6ad52a40114a4320f179aa11a8e4b41", func := "turnround/turnroundlaw04.GroundTiles", spec := "groundTiles", unfollowed := true, recurses := true, named := ["turnround/calendar.lengths"], apart := false, laid := [("turnround/calendar.lengths", laid_turnround_calendar_lengths)] }
def GroundTilesSaid : Prop := groundTilesRow.holds Tryz.pinned (OpenSpec.ofChange groundTilesSpec)

/-- ITS FALSE NEIGHBOUR: 'it returns false'. Refute it at one input. -/
def groundTilesWrong : ChangeSpec := { name := "groundTiles", fn := fun _ => fun
  | [d1, d2, d3] => { results := [.lit (.bool false)], args := [d1, d2, d3] }
  | _ => none }
def GroundTilesWrongFalsely : Prop := groundTilesRow.holds Tryz.pinned (OpenSpec.ofChange groundTilesWrong)

/- THE SECOND FORM. 'bulk': how many values and letters a reading holds, each counted each time it is reached (what is shared counts as often as it is met; a slice's spare places count too). A statement '..UptoSaid' is the law's where the arguments, and the package variables that the reading takes, are together of bulk at most 1048576: NARROWER than '..Said'. Prove '..Said' where nothing that the law and all that it calls make is longer than what came in: it says more and counts as full. Else prove '..UptoSaid'. A law counts once. -/
mutual
def uptoBulk {H : Type} : DataW H → Nat
  | .lit (.string bytes) => bytes.length + 1
  | .lit _ => 1
  | .nil => 1
  | .ptr d => uptoBulk d + 1
  | .slice elems spare => uptoBulkAll elems + uptoBulkAll spare + 1
  | .agg parts => uptoBulkAll parts + 1
  | .iface _ d => uptoBulk d + 1
  | .map entries => uptoBulkEntries entries + 1
  | .held _ => 1
def uptoBulkAll {H : Type} : List (DataW H) → Nat
  | [] => 0
  | d :: r => uptoBulk d + uptoBulkAll r
def uptoBulkEntries {H : Type} : List (Lit × DataW H) → Nat
  | [] => 0
  | x :: r => uptoBulkEntry x + uptoBulkEntries r
def uptoBulkEntry {H : Type} : Lit × DataW H → Nat
  | (.string bytes, d) => bytes.length + uptoBulk d + 1
  | (_, d) => uptoBulk d + 1
 end
def uptoSmall : (H : Type) → List (DataW H) → Bool := fun _ ds => decide (uptoBulkAll ds ≤ 1048576)
def OpenSpec.upto (s : _root_.Go.ChangeSpec) : _root_.Go.OpenSpec := { _root_.Go.OpenSpec.ofChange s with cond := some uptoSmall }

/-- 'turnroundlaw04.GroundChecks', WHERE WHAT IT READS IS OF BULK AT MOST 1048576: true; the input reads as it did. -/
def groundChecksUptoRow : OpenClaim := { program := "ythhidpjikbhljaagreatdoor", sum := "a5345874968a3885c424455c5984b87dd6ad52a40114a4320f179aa11a8e4b41", func := "turnround/turnroundlaw04.GroundChecks", spec := "groundChecks", unfollowed := true, recurses := true, named := ["turnround/calendar.lengths"], apart := false, laid := [("turnround/calendar.lengths", laid_turnround_calendar_lengths)], narrowed := true }
def GroundChecksUptoSaid : Prop := groundChecksUptoRow.holds Tryz.pinned (OpenSpec.upto groundChecksSpec)

/-- 'turnroundlaw04.GroundAssigns', WHERE WHAT IT READS IS OF BULK AT MOST 1048576: true; the input reads as it did. -/
def groundAssignsUptoRow : OpenClaim := { program := "ythhidpjikbhljaagreatdoor", sum := "a5345874968a3885c424455c5984b87dd6ad52a40114a4320f179aa11a8e4b41", func := "turnround/turnroundlaw04.GroundAssigns", spec := "groundAssigns", unfollowed := true, recurses := true, named := ["turnround/calendar.lengths"], apart := false, laid := [("turnround/calendar.lengths", laid_turnround_calendar_lengths)], narrowed := true }
def GroundAssignsUptoSaid : Prop := groundAssignsUptoRow.holds Tryz.pinned (OpenSpec.upto groundAssignsSpec)

/-- 'turnroundlaw04.GroundSeats', WHERE WHAT IT READS IS OF BULK AT MOST 1048576: true; the input reads as it did. -/
def groundSeatsUptoRow : OpenClaim := { program := "ythhidpjikbhljaagreatdoor", sum := "a5345874968a3885c424455c5984b87dd6ad52a40114a4320f179aa11a8e4b41", func := "turnround/turnroundlaw04.GroundSeats", spec := "groundSeats", unfollowed := true, recurses := true, named := ["turnround/calendar.lengths"], apart := false, laid := [("turnround/calendar.lengths", laid_turnround_calendar_lengths)], narrowed := true }
def GroundSeatsUptoSaid : Prop := groundSeatsUptoRow.holds Tryz.pinned (OpenSpec.upto groundSeatsSpec)

/-- 'turnroundlaw04.GroundRooms', WHERE WHAT IT READS IS OF BULK AT MOST 1048576: true; the input reads as it did. -/
def groundRoomsUptoRow : OpenClaim := { program := "ythhidpjikbhljaagreatdoor", sum := "a5345874968a3885c424455c5984b87dd6ad52a40114a4320f179aa11a8e4b41", func := "turnround/turnroundlaw04.GroundRooms", spec := "groundRooms", unfollowed := true, recurses := true, named := ["turnround/calendar.lengths"], apart := false, laid := [("turnround/calendar.lengths", laid_turnround_calendar_lengths)], narrowed := true }
def GroundRoomsUptoSaid : Prop := groundRoomsUptoRow.holds Tryz.pinned (OpenSpec.upto groundRoomsSpec)

/-- 'turnroundlaw04.GroundNights', WHERE WHAT IT READS IS OF BULK AT MOST 1048576: true; the input reads as it did. -/
def groundNightsUptoRow : OpenClaim := { program := "ythhidpjikbhljaagreatdoor", sum := "a5345874968a3885c424455c5984b87dd6ad52a40114a4320f179aa11a8e4b41", func := "turnround/turnroundlaw04.GroundNights", spec := "groundNights", unfollowed := true, recurses := true, named := ["turnround/calendar.lengths"], apart := false, laid := [("turnround/calendar.lengths", laid_turnround_calendar_lengths)], narrowed := true }
def GroundNightsUptoSaid : Prop := groundNightsUptoRow.holds Tryz.pinned (OpenSpec.upto groundNightsSpec)

/-- 'turnroundlaw04.GroundFills', WHERE WHAT IT READS IS OF BULK AT MOST 1048576: true; the input reads as it did. -/
def groundFillsUptoRow : OpenClaim := { program := "ythhidpjikbhljaagreatdoor", sum := "a5345874968a3885c424455c5984b87dd6ad52a40114a4320f179aa11a8e4b41", func := "turnround/turnroundlaw04.GroundFills", spec := "groundFills", unfollowed := true, recurses := true, named := ["turnround/calendar.lengths"], apart := false, laid := [("turnround/calendar.lengths", laid_turnround_calendar_lengths)], narrowed := true }
def GroundFillsUptoSaid : Prop := groundFillsUptoRow.holds Tryz.pinned (OpenSpec.upto groundFillsSpec)

/-- 'turnroundlaw04.GroundSums', WHERE WHAT IT READS IS OF BULK AT MOST 1048576: true; the input reads as it did. -/
def groundSumsUptoRow : OpenClaim := { program := "ythhidpjikbhljaagreatdoor", sum := "a5345874968a3885c424455c5984b87dd6ad52a40114a4320f179aa11a8e4b41", func := "turnround/turnroundlaw04.GroundSums", spec := "groundSums", unfollowed := true, recurses := true, named := ["turnround/calendar.lengths"], apart := false, laid := [("turnround/calendar.lengths", laid_turnround_calendar_lengths)], narrowed := true }
def GroundSumsUptoSaid : Prop := groundSumsUptoRow.holds Tryz.pinned (OpenSpec.upto groundSumsSpec)

/-- 'turnroundlaw04.GroundClashes', WHERE WHAT IT READS IS OF BULK AT MOST 1048576: true; the input reads as it did. -/
def groundClashesUptoRow : OpenClaim := { program := "ythhidpjikbhljaagreatdoor", sum := "a5345874968a3885c424455c5984b87dd6ad52a40114a4320f179aa11a8e4b41", func := "turnround/turnroundlaw04.GroundClashes", spec := "groundClashes", unfollowed := true, recurses := true, named := ["turnround/calendar.lengths"], apart := false, laid := [("turnround/calendar.lengths", laid_turnround_calendar_lengths)], narrowed := true }
def GroundClashesUptoSaid : Prop := groundClashesUptoRow.holds Tryz.pinned (OpenSpec.upto groundClashesSpec)

/-- 'turnroundlaw04.GroundFits', WHERE WHAT IT READS IS OF BULK AT MOST 1048576: true; the input reads as it did. -/
def groundFitsUptoRow : OpenClaim := { program := "ythhidpjikbhljaagreatdoor", sum := "a5345874968a3885c424455c5984b87dd6ad52a40114a4320f179aa11a8e4b41", func := "turnround/turnroundlaw04.GroundFits", spec := "groundFits", unfollowed := true, recurses := true, named := ["turnround/calendar.lengths"], apart := false, laid := [("turnround/calendar.lengths", laid_turnround_calendar_lengths)], narrowed := true }
def GroundFitsUptoSaid : Prop := groundFitsUptoRow.holds Tryz.pinned (OpenSpec.upto groundFitsSpec)

/-- 'turnroundlaw04.GroundPairs', WHERE WHAT IT READS IS OF BULK AT MOST 1048576: true; the input reads as it did. -/
def groundPairsUptoRow : OpenClaim := { program := "ythhidpjikbhljaagreatdoor", sum := "a5345874968a3885c424455c5984b87dd6ad52a40114a4320f179aa11a8e4b41", func := "turnround/turnroundlaw04.GroundPairs", spec := "groundPairs", unfollowed := true, recurses := true, named := ["turnround/calendar.lengths"], apart := false, laid := [("turnround/calendar.lengths", laid_turnround_calendar_lengths)], narrowed := true }
def GroundPairsUptoSaid : Prop := groundPairsUptoRow.holds Tryz.pinned (OpenSpec.upto groundPairsSpec)

/-- 'turnroundlaw04.GroundQuotas', WHERE WHAT IT READS IS OF BULK AT MOST 1048576: true; the input reads as it did. -/
def groundQuotasUptoRow : OpenClaim := { program := "ythhidpjikbhljaagreatdoor", sum := "a5345874968a3885c424455c5984b87dd6ad52a40114a4320f179aa11a8e4b41", func := "turnround/turnroundlaw04.GroundQuotas", spec := "groundQuotas", unfollowed := true, recurses := true, named := ["turnround/calendar.lengths"], apart := false, laid := [("turnround/calendar.lengths", laid_turnround_calendar_lengths)], narrowed := true }
def GroundQuotasUptoSaid : Prop := groundQuotasUptoRow.holds Tryz.pinned (OpenSpec.upto groundQuotasSpec)

/-- 'turnroundlaw04.GroundTiles', WHERE WHAT IT READS IS OF BULK AT MOST 1048576: true; the input reads as it did. -/
def groundTilesUptoRow : OpenClaim := { program := "ythhidpjikbhljaagreatdoor", sum := "a5345874968a3885c424455c5984b87dd6ad52a40114a4320f179aa11a8e4b41", func := "turnround/turnroundlaw04.GroundTiles", spec := "groundTiles", unfollowed := true, recurses := true, named := ["turnround/calendar.lengths"], apart := false, laid := [("turnround/calendar.lengths", laid_turnround_calendar_lengths)], narrowed := true }
def GroundTilesUptoSaid : Prop := groundTilesUptoRow.holds Tryz.pinned (OpenSpec.upto groundTilesSpec)

end Rows
end Go.Proofs.YthhidpjikbhljaaGreatDoor
