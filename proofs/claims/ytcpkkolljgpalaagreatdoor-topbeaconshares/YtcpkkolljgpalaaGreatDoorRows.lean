/-
  NARROWER THAN 'FOR EVERY INPUT', by the rows' own cells (each row's printed sentence says how): TopBeaconReduced: laid · TopBeaconShares: laid.
  DERIVED. THE GIVEN ROWS OF THIS SEAT. 2 by the template 'for every input the law returns true; each argument reads behind the call as it read before'; 0 by the template 'total and deterministic' (their statements: YtcpkkolljgpalaaGreatDoorTotals.lean).
  GIVEN WITH THE SEED: the statements are not yours to turn. If you find one false, say at which input.
  Laid BY PROGRAM, IN A SANDBOX (cutbox-rows.mjs): the forced cells as the released guide's own fill.sh prints them over the translation 4306d4c0cd12ef03… (all of the seat's roots in one cut). By AI agents, Wed Nov 11 2026. No macro, syntax, notation, axiom, sorry.
-/
import Derived.Test.YtcpkkolljgpalaaGreatDoorChecked
import GoSem.Claim
import GoSem.ClaimJoined
import GoSem.ClaimMapViews
import Derived.JoinedTies
import Derived.KernelRfl
namespace Go.Proofs.YtcpkkolljgpalaaGreatDoor
/- THE CELL 'sum', in the pinned program and in every row, IS THE sha256 OF THE DUMP (.gsa) THAT YtcpkkolljgpalaaGreatDoorProg.lean LOADS. Nothing in Lean hashes anything: it is a label: what it is worth is what the hold of that sum in a sandbox is worth. -/
noncomputable def Tryz.pinned : Pinned := { name := "ytcpkkolljgpalaagreatdoor", sum := "4306d4c0cd12ef038ceb6050f33ad39d9375ac52ddc7667bf7f1ce0a30d1813b", checked := Tryz.checked }
namespace Rows
def none {H : Type} : Left H := { results := [], args := [] }

/- WHAT THE LISTED PACKAGE-LEVEL VARIABLES READ AS WHEN THE CALL BEGINS. Each datum BY PROGRAM (the guide's laid-datum.mjs) off the statement by which the dump's own 'gosem.cut.vars' lays the variable. In a bare row this is a premise. The card (YtcpkkolljgpalaaGreatDoorCards.lean) ties it to the program's text. -/
def laid_turnround_calendar_lengths {H : Type} : DataW H := .agg [.lit (.int .i64 31), .lit (.int .i64 28), .lit (.int .i64 31), .lit (.int .i64 30), .lit (.int .i64 31), .lit (.int .i64 30), .lit (.int .i64 31), .lit (.int .i64 31), .lit (.int .i64 30), .lit (.int .i64 31), .lit (.int .i64 30), .lit (.int .i64 31)]

/-- 'turnroundtop.TopBeaconReduced': WHATEVER THE INPUT: true; the input reads as it did. -/
def topBeaconReducedSpec : ChangeSpec := { name := "topBeaconReduced", fn := fun _ => fun
  | [d1, d2, d3] => { results := [.lit (.bool true)], args := [d1, d2, d3] }
  | _ => none }
def topBeaconReducedRow : OpenClaim := { program := "ytcpkkolljgpalaagreatdoor", sum := "4306d4c0cd12ef038ceb6050f33ad39d9375ac52ddc7667bf7f1ce0a30d1813b", func := "turnround/turnroundtop.TopBeaconReduced", spec := "topBeaconReduced", unfollowed := true, recurses := true, named := ["turnround/calendar.lengths"], plainKeys := false, apart := false, laid := [("turnround/calendar.lengths", laid_turnround_calendar_lengths)] }
def TopBeaconReducedSaid : Prop := topBeaconReducedRow.holds Tryz.pinned (OpenSpec.ofChange topBeaconReducedSpec)

/-- ITS FALSE NEIGHBOUR: 'it returns false'. Refute it at one input. -/
def topBeaconReducedWrong : ChangeSpec := { name := "topBeaconReduced", fn := fun _ => fun
  | [d1, d2, d3] => { results := [.lit (.bool false)], args := [d1, d2, d3] }
  | _ => none }
def TopBeaconReducedWrongFalsely : Prop := topBeaconReducedRow.holds Tryz.pinned (OpenSpec.ofChange topBeaconReducedWrong)

/-- 'turnroundtop.TopBeaconShares': WHATEVER THE INPUT: true; the input reads as it did. -/
def topBeaconSharesSpec : ChangeSpec := { name := "topBeaconShares", fn := fun _ => fun
  | [d1, d2, d3] => { results := [.lit (.bool true)], args := [d1, d2, d3] }
  | _ => none }
def topBeaconSharesRow : OpenClaim := { program := "ytcpkkolljgpalaagreatdoor", sum := "4306d4c0cd12ef038ceb6050f33ad39d9375ac52ddc7667bf7f1ce0a30d1813b", func := "turnround/turnroundtop.TopBeaconShares", spec := "topBeaconShares", unfollowed := true, recurses := true, named := ["turnround/calendar.lengths"], plainKeys := false, apart := false, laid := [("turnround/calendar.lengths", laid_turnround_calendar_lengths)] }
def TopBeaconSharesSaid : Prop := topBeaconSharesRow.holds Tryz.pinned (OpenSpec.ofChange topBeaconSharesSpec)

/-- ITS FALSE NEIGHBOUR: 'it returns false'. Refute it at one input. -/
def topBeaconSharesWrong : ChangeSpec := { name := "topBeaconShares", fn := fun _ => fun
  | [d1, d2, d3] => { results := [.lit (.bool false)], args := [d1, d2, d3] }
  | _ => none }
def TopBeaconSharesWrongFalsely : Prop := topBeaconSharesRow.holds Tryz.pinned (OpenSpec.ofChange topBeaconSharesWrong)

/- THE SECOND FORM. 'bulk': how many values and letters a reading holds, each counted each time it is reached (what is shared counts as often as it is met; a slice's spare places count too). A statement '..UptoSaid' is the law's where the arguments, and the package variables that the reading takes, are together of bulk at most 1048576: NARROWER than '..Said'. Prove '..Said' where nothing that the law and all that it calls make is longer than what came in: it says more and counts as full. Else prove '..UptoSaid'. A law counts once. -/
mutual
def uptoBulk {H : Type} : DataW H → Nat
  | .lit (.string bytes) => bytes.length + 1
  | .lit _ => 1
  | .nil => 1
  | .ptr d => uptoBulk d + 1
  | .slice elems spare => uptoBulkAll elems + uptoBulkAll spare + 1
  | .agg parts => uptoBulkAll parts + 1
  | .iface _ d => uptoBulk d + 1
  | .map entries => uptoBulkEntries entries + 1
  | .held _ => 1
def uptoBulkAll {H : Type} : List (DataW H) → Nat
  | [] => 0
  | d :: r => uptoBulk d + uptoBulkAll r
def uptoBulkEntries {H : Type} : List (Lit × DataW H) → Nat
  | [] => 0
  | x :: r => uptoBulkEntry x + uptoBulkEntries r
def uptoBulkEntry {H : Type} : Lit × DataW H → Nat
  | (.string bytes, d) => bytes.length + uptoBulk d + 1
  | (_, d) => uptoBulk d + 1
 end
def uptoSmall : (H : Type) → List (DataW H) → Bool := fun _ ds => decide (uptoBulkAll ds ≤ 1048576)
def OpenSpec.upto (s : _root_.Go.ChangeSpec) : _root_.Go.OpenSpec := { _root_.Go.OpenSpec.ofChange s with cond := some uptoSmall }

/-- 'turnroundtop.TopBeaconReduced', WHERE WHAT IT READS IS OF BULK AT MOST 1048576: true; the input reads as it did. -/
def topBeaconReducedUptoRow : OpenClaim := { program := "ytcpkkolljgpalaagreatdoor", sum := "4306d4c0cd12ef038ceb6050f33ad39d9375ac52ddc7667bf7f1ce0a30d1813b", func := "turnround/turnroundtop.TopBeaconReduced", spec := "topBeaconReduced", unfollowed := true, recurses := true, named := ["turnround/calendar.lengths"], plainKeys := false, apart := false, laid := [("turnround/calendar.lengths", laid_turnround_calendar_lengths)], narrowed := true }
def TopBeaconReducedUptoSaid : Prop := topBeaconReducedUptoRow.holds Tryz.pinned (OpenSpec.upto topBeaconReducedSpec)

/-- 'turnroundtop.TopBeaconShares', WHERE WHAT IT READS IS OF BULK AT MOST 1048576: true; the input reads as it did. -/
def topBeaconSharesUptoRow : OpenClaim := { program := "ytcpkkolljgpalaagreatdoor", sum := "4306d4c0cd12ef038ceb6050f33ad39d9375ac52ddc7667bf7f1ce0a30d1813b", func := "turnround/turnroundtop.TopBeaconShares", spec := "topBeaconShares", unfollowed := true, recurses := true, named := ["turnround/calendar.lengths"], plainKeys := false, apart := false, laid := [("turnround/calendar.lengths", laid_turnround_calendar_lengths)], narrowed := true }
def TopBeaconSharesUptoSaid : Prop := topBeaconSharesUptoRow.holds Tryz.pinned (OpenSpec.upto topBeaconSharesSpec)

end Rows
end Go.Proofs.YtcpkkolljgpalaaGreatDoor
