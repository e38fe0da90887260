/-
  NARROWER THAN 'FOR EVERY INPUT', by the rows' own cells (each row's printed sentence says how): UseChecks: laid · UseSeries: laid · UseRatios: laid · UseHistoric: laid · UseShares: laid · UseMatches: laid · UseStatus: laid · UseOrders: laid · UseRights: laid · UseCarries: laid · UseTables: laid · UsePairs: laid · UseGreatest: laid.
  DERIVED. THE GIVEN ROWS OF THIS SEAT. 13 by the template 'for every input the law returns true; each argument reads behind the call as it read before'; 0 by the template 'total and deterministic' (their statements: YtdfgeoefbbkcnaaGreatDoorTotals.lean).
  GIVEN WITH THE SEED: the statements are not yours to turn. If you find one false, say at which input.
  Laid BY PROGRAM, IN A SANDBOX (cutbox-rows.mjs): the forced cells as the released guide's own fill.sh prints them over the translation 0000999ff8ded4df… (all of the seat's roots in one cut). By AI agents, Wed Nov 11 2026. No macro, syntax, notation, axiom, sorry.
-/
import Derived.Test.YtdfgeoefbbkcnaaGreatDoorChecked
import GoSem.Claim
import GoSem.ClaimJoined
import GoSem.ClaimMapViews
import Derived.JoinedTies
import Derived.KernelRfl
namespace Go.Proofs.YtdfgeoefbbkcnaaGreatDoor
/- THE CELL 'sum', in the pinned program and in every row, IS THE sha256 OF THE DUMP (.gsa) THAT YtdfgeoefbbkcnaaGreatDoorProg.lean LOADS. Nothing in Lean hashes anything: it is a label: what it is worth is what the hold of that sum in a sandbox is worth. -/
noncomputable def Tryz.pinned : Pinned := { name := "ytdfgeoefbbkcnaagreatdoor", sum := "0000999ff8ded4dfa528fe8da60b0ee84b7cd3cf04663b137b5f83b89263609a", checked := Tryz.checked }
namespace Rows
def none {H : Type} : Left H := { results := [], args := [] }

/- WHAT THE LISTED PACKAGE-LEVEL VARIABLES READ AS WHEN THE CALL BEGINS. Each datum BY PROGRAM (the guide's laid-datum.mjs) off the statement by which the dump's own 'gosem.cut.vars' lays the variable. In a bare row this is a premise. The card (YtdfgeoefbbkcnaaGreatDoorCards.lean) ties it to the program's text. -/
def laid_turnround_calendar_lengths {H : Type} : DataW H := .agg [.lit (.int .i64 31), .lit (.int .i64 28), .lit (.int .i64 31), .lit (.int .i64 30), .lit (.int .i64 31), .lit (.int .i64 30), .lit (.int .i64 31), .lit (.int .i64 31), .lit (.int .i64 30), .lit (.int .i64 31), .lit (.int .i64 30), .lit (.int .i64 31)]
def laid_turnround_use_statuses {H : Type} : DataW H := .agg [.lit (.string [114, 101, 116, 117, 114, 110, 101, 100]), .lit (.string [102, 108, 111, 119, 110]), .lit (.string [101, 120, 99, 117, 115, 101, 100]), .lit (.string [109, 105, 115, 115, 101, 100])]

/-- 'turnroundlaw09.UseChecks': WHATEVER THE INPUT: true; the input reads as it did. -/
def useChecksSpec : ChangeSpec := { name := "useChecks", fn := fun _ => fun
  | [d1, d2, d3] => { results := [.lit (.bool true)], args := [d1, d2, d3] }
  | _ => none }
def useChecksRow : OpenClaim := { program := "ytdfgeoefbbkcnaagreatdoor", sum := "0000999ff8ded4dfa528fe8da60b0ee84b7cd3cf04663b137b5f83b89263609a", func := "turnround/turnroundlaw09.UseChecks", spec := "useChecks", unfollowed := true, recurses := true, named := ["turnround/use.statuses", "turnround/calendar.lengths"], apart := false, laid := [("turnround/calendar.lengths", laid_turnround_calendar_lengths), ("turnround/use.statuses", laid_turnround_use_statuses)] }
def UseChecksSaid : Prop := useChecksRow.holds Tryz.pinned (OpenSpec.ofChange useChecksSpec)

/-- ITS FALSE NEIGHBOUR: 'it returns false'. Refute it at one input. -/
def useChecksWrong : ChangeSpec := { name := "useChecks", fn := fun _ => fun
  | [d1, d2, d3] => { results := [.lit (.bool false)], args := [d1, d2, d3] }
  | _ => none }
def UseChecksWrongFalsely : Prop := useChecksRow.holds Tryz.pinned (OpenSpec.ofChange useChecksWrong)

/-- 'turnroundlaw09.UseSeries': WHATEVER THE INPUT: true; the input reads as it did. -/
def useSeriesSpec : ChangeSpec := { name := "useSeries", fn := fun _ => fun
  | [d] => { results := [.lit (.bool true)], args := [d] }
  | _ => none }
def useSeriesRow : OpenClaim := { program := "ytdfgeoefbbkcnaagreatdoor", sum := "0000999ff8ded4dfa528fe8da60b0ee84b7cd3cf04663b137b5f83b89263609a", func := "turnround/turnroundlaw09.UseSeries", spec := "useSeries", unfollowed := true, recurses := true, named := ["turnround/use.statuses", "turnround/calendar.lengths"], apart := false, laid := [("turnround/calendar.lengths", laid_turnround_calendar_lengths), ("turnround/use.statuses", laid_turnround_use_statuses)] }
def UseSeriesSaid : Prop := useSeriesRow.holds Tryz.pinned (OpenSpec.ofChange useSeriesSpec)

/-- ITS FALSE NEIGHBOUR: 'it returns false'. Refute it at one input. -/
def useSeriesWrong : ChangeSpec := { name := "useSeries", fn := fun _ => fun
  | [d] => { results := [.lit (.bool false)], args := [d] }
  | _ => none }
def UseSeriesWrongFalsely : Prop := useSeriesRow.holds Tryz.pinned (OpenSpec.ofChange useSeriesWrong)

/-- 'turnroundlaw09.UseRatios': WHATEVER THE INPUT: true; the input reads as it did. -/
def useRatiosSpec : ChangeSpec := { name := "useRatios", fn := fun _ => fun
  | [d1, d2] => { results := [.lit (.bool true)], args := [d1, d2] }
  | _ => none }
def useRatiosRow : OpenClaim := { program := "ytdfgeoefbbkcnaagreatdoor", sum := "0000999ff8ded4dfa528fe8da60b0ee84b7cd3cf04663b137b5f83b89263609a", func := "turnround/turnroundlaw09.UseRatios", spec := "useRatios", unfollowed := true, recurses := true, named := ["turnround/use.statuses", "turnround/calendar.lengths"], apart := false, laid := [("turnround/calendar.lengths", laid_turnround_calendar_lengths), ("turnround/use.statuses", laid_turnround_use_statuses)] }
def UseRatiosSaid : Prop := useRatiosRow.holds Tryz.pinned (OpenSpec.ofChange useRatiosSpec)

/-- ITS FALSE NEIGHBOUR: 'it returns false'. Refute it at one input. -/
def useRatiosWrong : ChangeSpec := { name := "useRatios", fn := fun _ => fun
  | [d1, d2] => { results := [.lit (.bool false)], args := [d1, d2] }
  | _ => none }
def UseRatiosWrongFalsely : Prop := useRatiosRow.holds Tryz.pinned (OpenSpec.ofChange useRatiosWrong)

/-- 'turnroundlaw09.UseHistoric': WHATEVER THE INPUT: true; the input reads as it did. -/
def useHistoricSpec : ChangeSpec := { name := "useHistoric", fn := fun _ => fun
  | [d1, d2] => { results := [.lit (.bool true)], args := [d1, d2] }
  | _ => none }
def useHistoricRow : OpenClaim := { program := "ytdfgeoefbbkcnaagreatdoor", sum := "0000999ff8ded4dfa528fe8da60b0ee84b7cd3cf04663b137b5f83b89263609a", func := "turnround/turnroundlaw09.UseHistoric", spec := "useHistoric", unfollowed := true, recurses := true, named := ["turnround/use.statuses", "turnround/calendar.lengths"], apart := false, laid := [("turnround/calendar.lengths", laid_turnround_calendar_lengths), ("turnround/use.statuses", laid_turnround_use_statuses)] }
def UseHistoricSaid : Prop := useHistoricRow.holds Tryz.pinned (OpenSpec.ofChange useHistoricSpec)

/-- ITS FALSE NEIGHBOUR: 'it returns false'. Refute it at one input. -/
def useHistoricWrong : ChangeSpec := { name := "useHistoric", fn := fun _ => fun
  | [d1, d2] => { results := [.lit (.bool false)], args := [d1, d2] }
  | _ => none }
def UseHistoricWrongFalsely : Prop := useHistoricRow.holds Tryz.pinned (OpenSpec.ofChange useHistoricWrong)

/-- 'turnroundlaw09.UseShares': WHATEVER THE INPUT: true; the input reads as it did. -/
def useSharesSpec : ChangeSpec := { name := "useShares", fn := fun _ => fun
  | [d1, d2] => { results := [.lit (.bool true)], args := [d1, d2] }
  | _ => none }
def useSharesRow : OpenClaim := { program := "ytdfgeoefbbkcnaagreatdoor", sum := "0000999ff8ded4dfa528fe8da60b0ee84b7cd3cf04663b137b5f83b89263609a", func := "turnround/turnroundlaw09.UseShares", spec := "useShares", unfollowed := true, recurses := true, named := ["turnround/use.statuses", "turnround/calendar.lengths"], apart := false, laid := [("turnround/calendar.lengths", laid_turnround_calendar_lengths), ("turnround/use.statuses", laid_turnround_use_statuses)] }
def UseSharesSaid : Prop := useSharesRow.holds Tryz.pinned (OpenSpec.ofChange useSharesSpec)

/-- ITS FALSE NEIGHBOUR: 'it returns false'. Refute it at one input. -/
def useSharesWrong : ChangeSpec := { name := "useShares", fn := fun _ => fun
  | [d1, d2] => { results := [.lit (.bool false)], args := [d1, d2] }
  | _ => none }
def UseSharesWrongFalsely : Prop := useSharesRow.holds Tryz.pinned (OpenSpec.ofChange useSharesWrong)

/-- 'turnroundlaw09.UseMatches': WHATEVER THE INPUT: true; the input reads as it did. -/
def useMatchesSpec : ChangeSpec := { name := "useMatches", fn := fun _ => fun
  | [d1, d2, d3] => { results := [.lit (.bool true)], args := [d1, d2, d3] }
  | _ => none }
def useMatchesRow : OpenClaim := { program := "ytdfgeoefbbkcnaagreatdoor", sum := "0000999ff8ded4dfa528fe8da60b0ee84b7cd3cf04663b137b5f83b89263609a", func := "turnround/turnroundlaw09.UseMatches", spec := "useMatches", unfollowed := true, recurses := true, named := ["turnround/use.statuses", "turnround/calendar.lengths"], apart := false, laid := [("turnround/calendar.lengths", laid_turnround_calendar_lengths), ("turnround/use.statuses", laid_turnround_use_statuses)] }
def UseMatchesSaid : Prop := useMatchesRow.holds Tryz.pinned (OpenSpec.ofChange useMatchesSpec)

/-- ITS FALSE NEIGHBOUR: 'it returns false'. Refute it at one input. -/
def useMatchesWrong : ChangeSpec := { name := "useMatches", fn := fun _ => fun
  | [d1, d2, d3] => { results := [.lit (.bool false)], args := [d1, d2, d3] }
  | _ => none }
def UseMatchesWrongFalsely : Prop := useMatchesRow.holds Tryz.pinned (OpenSpec.ofChange useMatchesWrong)

/-- 'turnroundlaw09.UseStatus': WHATEVER THE INPUT: true; the input reads as it did. -/
def useStatusSpec : ChangeSpec := { name := "useStatus", fn := fun _ => fun
  | [d1, d2, d3] => { results := [.lit (.bool true)], args := [d1, d2, d3] }
  | _ => none }
def useStatusRow : OpenClaim := { program := "ytdfgeoefbbkcnaagreatdoor", sum := "0000999ff8ded4dfa528fe8da60b0ee84b7cd3cf04663b137b5f83b89263609a", func := "turnround/turnroundlaw09.UseStatus", spec := "useStatus", unfollowed := true, recurses := true, named := ["turnround/use.statuses", "turnround/calendar.lengths"], apart := false, laid := [("turnround/calendar.lengths", laid_turnround_calendar_lengths), ("turnround/use.statuses", laid_turnround_use_statuses)] }
def UseStatusSaid : Prop := useStatusRow.holds Tryz.pinned (OpenSpec.ofChange useStatusSpec)

/-- ITS FALSE NEIGHBOUR: 'it returns false'. Refute it at one input. -/
def useStatusWrong : ChangeSpec := { name := "useStatus", fn := fun _ => fun
  | [d1, d2, d3] => { results := [.lit (.bool false)], args := [d1, d2, d3] }
  | _ => none }
def UseStatusWrongFalsely : Prop := useStatusRow.holds Tryz.pinned (OpenSpec.ofChange useStatusWrong)

/-- 'turnroundlaw09.UseOrders': WHATEVER THE INPUT: true; the input reads as it did. -/
def useOrdersSpec : ChangeSpec := { name := "useOrders", fn := fun _ => fun
  | [d1, d2, d3] => { results := [.lit (.bool true)], args := [d1, d2, d3] }
  | _ => none }
def useOrdersRow : OpenClaim := { program := "ytdfgeoefbbkcnaagreatdoor", sum := "0000999ff8ded4dfa528fe8da60b0ee84b7cd3cf04663b137b5f83b89263609a", func := "turnround/turnroundlaw09.UseOrders", spec := "useOrders", unfollowed := true, recurses := true, named := ["turnround/use.statuses", "turnround/calendar.lengths"], apart := false, laid := [("turnround/calendar.lengths", laid_turnround_calendar_lengths), ("turnround/use.statuses", laid_turnround_use_statuses)] }
def UseOrdersSaid : Prop := useOrdersRow.holds Tryz.pinned (OpenSpec.ofChange useOrdersSpec)

/-- ITS FALSE NEIGHBOUR: 'it returns false'. Refute it at one input. -/
def useOrdersWrong : ChangeSpec := { name := "useOrders", fn := fun _ => fun
  | [d1, d2, d3] => { results := [.lit (.bool false)], args := [d1, d2, d3] }
  | _ => none }
def UseOrdersWrongFalsely : Prop := useOrdersRow.holds Tryz.pinned (OpenSpec.ofChange useOrdersWrong)

/-- 'turnroundlaw09.UseRights': WHATEVER THE INPUT: true; the input reads as it did. -/
def useRightsSpec : ChangeSpec := { name := "useRights", fn := fun _ => fun
  | [d1, d2, d3] => { results := [.lit (.bool true)], args := [d1, d2, d3] }
  | _ => none }
def useRightsRow : OpenClaim := { program := "ytdfgeoefbbkcnaagreatdoor", sum := "0000999ff8ded4dfa528fe8da60b0ee84b7cd3cf04663b137b5f83b89263609a", func := "turnround/turnroundlaw09.UseRights", spec := "useRights", unfollowed := true, recurses := true, named := ["turnround/use.statuses", "turnround/calendar.lengths"], apart := false, laid := [("turnround/calendar.lengths", laid_turnround_calendar_lengths), ("turnround/use.statuses", laid_turnround_use_statuses)] }
def UseRightsSaid : Prop := useRightsRow.holds Tryz.pinned (OpenSpec.ofChange useRightsSpec)

/-- ITS FALSE NEIGHBOUR: 'it returns false'. Refute it at one input. -/
def useRightsWrong : ChangeSpec := { name := "useRights", fn := fun _ => fun
  | [d1, d2, d3] => { results := [.lit (.bool false)], args := [d1, d2, d3] }
  | _ => none }
def UseRightsWrongFalsely : Prop := useRightsRow.holds Tryz.pinned (OpenSpec.ofChange useRightsWrong)

/-- 'turnroundlaw09.UseCarries': WHATEVER THE INPUT: true; the input reads as it did. -/
def useCarriesSpec : ChangeSpec := { name := "useCarries", fn := fun _ => fun
  | [d1, d2] => { results := [.lit (.bool true)], args := [d1, d2] }
  | _ => none }
def useCarriesRow : OpenClaim := { program := "ytdfgeoefbbkcnaagreatdoor", sum := "0000999ff8ded4dfa528fe8da60b0ee84b7cd3cf04663b137b5f83b89263609a", func := "turnround/turnroundlaw09.UseCarries", spec := "useCarries", unfollowed := true, recurses := true, named := ["turnround/use.statuses", "turnround/calendar.lengths"], apart := false, laid := [("turnround/calendar.lengths", laid_turnround_calendar_lengths), ("turnround/use.statuses", laid_turnround_use_statuses)] }
def UseCarriesSaid : Prop := useCarriesRow.holds Tryz.pinned (OpenSpec.ofChange useCarriesSpec)

/-- ITS FALSE NEIGHBOUR: 'it returns false'. Refute it at one input. -/
def useCarriesWrong : ChangeSpec := { name := "useCarries", fn := fun _ => fun
  | [d1, d2] => { results := [.lit (.bool false)], args := [d1, d2] }
  | _ => none }
def UseCarriesWrongFalsely : Prop := useCarriesRow.holds Tryz.pinned (OpenSpec.ofChange useCarriesWrong)

/-- 'turnroundlaw09.UseTables': WHATEVER THE INPUT: true; the input reads as it did. -/
def useTablesSpec : ChangeSpec := { name := "useTables", fn := fun _ => fun
  | [d1, d2, d3] => { results := [.lit (.bool true)], args := [d1, d2, d3] }
  | _ => none }
def useTablesRow : OpenClaim := { program := "ytdfgeoefbbkcnaagreatdoor", sum := "0000999ff8ded4dfa528fe8da60b0ee84b7cd3cf04663b137b5f83b89263609a", func := "turnround/turnroundlaw09.UseTables", spec := "useTables", unfollowed := true, recurses := true, named := ["turnround/use.statuses", "turnround/calendar.lengths"], apart := false, laid := [("turnround/calendar.lengths", laid_turnround_calendar_lengths), ("turnround/use.statuses", laid_turnround_use_statuses)] }
def UseTablesSaid : Prop := useTablesRow.holds Tryz.pinned (OpenSpec.ofChange useTablesSpec)

/-- ITS FALSE NEIGHBOUR: 'it returns false'. Refute it at one input. -/
def useTablesWrong : ChangeSpec := { name := "useTables", fn := fun _ => fun
  | [d1, d2, d3] => { results := [.lit (.bool false)], args := [d1, d2, d3] }
  | _ => none }
def UseTablesWrongFalsely : Prop := useTablesRow.holds Tryz.pinned (OpenSpec.ofChange useTablesWrong)

/-- 'turnroundlaw09.UsePairs': WHATEVER THE INPUT: true; the input reads as it did. -/
def usePairsSpec : ChangeSpec := { name := "usePairs", fn := fun _ => fun
  | [d1, d2] => { results := [.lit (.bool true)], args := [d1, d2] }
  | _ => none }
def usePairsRow : OpenClaim := { program := "ytdfgeoefbbkcnaagreatdoor", sum := "0000999ff8ded4dfa528fe8da60b0ee84b7cd3cf04663b137b5f83b89263609a", func := "turnround/turnroundlaw09.UsePairs", spec := "usePairs", unfollowed := true, recurses := true, named := ["turnround/use.statuses", "turnround/calendar.lengths"], apart := false, laid := [("turnround/calendar.lengths", laid_turnround_calendar_lengths), ("turnround/use.statuses", laid_turnround_use_statuses)] }
def UsePairsSaid : Prop := usePairsRow.holds Tryz.pinned (OpenSpec.ofChange usePairsSpec)

/-- ITS FALSE NEIGHBOUR: 'it returns false'. Refute it at one input. -/
def usePairsWrong : ChangeSpec := { name := "usePairs", fn := fun _ => fun
  | [d1, d2] => { results := [.lit (.bool false)], args := [d1, d2] }
  | _ => none }
def UsePairsWrongFalsely : Prop := usePairsRow.holds Tryz.pinned (OpenSpec.ofChange usePairsWrong)

/-- 'turnroundlaw09.UseGreatest': WHATEVER THE INPUT: true; the input reads as it did. -/
def useGreatestSpec : ChangeSpec := { name := "useGreatest", fn := fun _ => fun
  | [d1, d2] => { results := [.lit (.bool true)], args := [d1, d2] }
  | _ => none }
def useGreatestRow : OpenClaim := { program := "ytdfgeoefbbkcnaagreatdoor", sum := "0000999ff8ded4dfa528fe8da60b0ee84b7cd3cf04663b137b5f83b89263609a", func := "turnround/turnroundlaw09.UseGreatest", spec := "useGreatest", unfollowed := true, recurses := true, named := ["turnround/use.statuses", "turnround/calendar.lengths"], apart := false, laid := [("turnround/calendar.lengths", laid_turnround_calendar_lengths), ("turnround/use.statuses", laid_turnround_use_statuses)] }
def UseGreatestSaid : Prop := useGreatestRow.holds Tryz.pinned (OpenSpec.ofChange useGreatestSpec)

/-- ITS FALSE NEIGHBOUR: 'it returns false'. Refute it at one input. -/
def useGreatestWrong : ChangeSpec := { name := "useGreatest", fn := fun _ => fun
  | [d1, d2] => { results := [.lit (.bool false)], args := [d1, d2] }
  | _ => none }
def UseGreatestWrongFalsely : Prop := useGreatestRow.holds Tryz.pinned (OpenSpec.ofChange useGreatestWrong)

/- THE SECOND FORM. 'bulk': how many values and letters a reading holds, each counted each time it is reached (what is shared counts as often as it is met; a slice's spare places count too). A statement '..UptoSaid' is the law's where the arguments, and the package variables that the reading takes, are together of bulk at most 1048576: NARROWER than '..Said'. Prove '..Said' where nothing that the law and all that it calls make is longer than what came in: it says more and counts as full. Else prove '..UptoSaid'. A law counts once. -/
mutual
def uptoBulk {H : Type} : DataW H → Nat
  | .lit (.string bytes) => bytes.length + 1
  | .lit _ => 1
  | .nil => 1
  | .ptr d => uptoBulk d + 1
  | .slice elems spare => uptoBulkAll elems + uptoBulkAll spare + 1
  | .agg parts => uptoBulkAll parts + 1
  | .iface _ d => uptoBulk d + 1
  | .map entries => uptoBulkEntries entries + 1
  | .held _ => 1
def uptoBulkAll {H : Type} : List (DataW H) → Nat
  | [] => 0
  | d :: r => uptoBulk d + uptoBulkAll r
def uptoBulkEntries {H : Type} : List (Lit × DataW H) → Nat
  | [] => 0
  | x :: r => uptoBulkEntry x + uptoBulkEntries r
def uptoBulkEntry {H : Type} : Lit × DataW H → Nat
  | (.string bytes, d) => bytes.length + uptoBulk d + 1
  | (_, d) => uptoBulk d + 1
 end
def uptoSmall : (H : Type) → List (DataW H) → Bool := fun _ ds => decide (uptoBulkAll ds ≤ 1048576)
def OpenSpec.upto (s : _root_.Go.ChangeSpec) : _root_.Go.OpenSpec := { _root_.Go.OpenSpec.ofChange s with cond := some uptoSmall }

/-- 'turnroundlaw09.UseChecks', WHERE WHAT IT READS IS OF BULK AT MOST 1048576: true; the input reads as it did. -/
def useChecksUptoRow : OpenClaim := { program := "ytdfgeoefbbkcnaagreatdoor", sum := "0000999ff8ded4dfa528fe8da60b0ee84b7cd3cf04663b137b5f83b89263609a", func := "turnround/turnroundlaw09.UseChecks", spec := "useChecks", unfollowed := true, recurses := true, named := ["turnround/use.statuses", "turnround/calendar.lengths"], apart := false, laid := [("turnround/calendar.lengths", laid_turnround_calendar_lengths), ("turnround/use.statuses", laid_turnround_use_statuses)], narrowed := true }
def UseChecksUptoSaid : Prop := useChecksUptoRow.holds Tryz.pinned (OpenSpec.upto useChecksSpec)

/-- 'turnroundlaw09.UseSeries', WHERE WHAT IT READS IS OF BULK AT MOST 1048576: true; the input reads as it did. -/
def useSeriesUptoRow : OpenClaim := { program := "ytdfgeoefbbkcnaagreatdoor", sum := "0000999ff8ded4dfa528fe8da60b0ee84b7cd3cf04663b137b5f83b89263609a", func := "turnround/turnroundlaw09.UseSeries", spec := "useSeries", unfollowed := true, recurses := true, named := ["turnround/use.statuses", "turnround/calendar.lengths"], apart := false, laid := [("turnround/calendar.lengths", laid_turnround_calendar_lengths), ("turnround/use.statuses", laid_turnround_use_statuses)], narrowed := true }
def UseSeriesUptoSaid : Prop := useSeriesUptoRow.holds Tryz.pinned (OpenSpec.upto useSeriesSpec)

/-- 'turnroundlaw09.UseRatios', WHERE WHAT IT READS IS OF BULK AT MOST 1048576: true; the input reads as it did. -/
def useRatiosUptoRow : OpenClaim := { program := "ytdfgeoefbbkcnaagreatdoor", sum := "0000999ff8ded4dfa528fe8da60b0ee84b7cd3cf04663b137b5f83b89263609a", func := "turnround/turnroundlaw09.UseRatios", spec := "useRatios", unfollowed := true, recurses := true, named := ["turnround/use.statuses", "turnround/calendar.lengths"], apart := false, laid := [("turnround/calendar.lengths", laid_turnround_calendar_lengths), ("turnround/use.statuses", laid_turnround_use_statuses)], narrowed := true }
def UseRatiosUptoSaid : Prop := useRatiosUptoRow.holds Tryz.pinned (OpenSpec.upto useRatiosSpec)

/-- 'turnroundlaw09.UseHistoric', WHERE WHAT IT READS IS OF BULK AT MOST 1048576: true; the input reads as it did. -/
def useHistoricUptoRow : OpenClaim := { program := "ytdfgeoefbbkcnaagreatdoor", sum := "0000999ff8ded4dfa528fe8da60b0ee84b7cd3cf04663b137b5f83b89263609a", func := "turnround/turnroundlaw09.UseHistoric", spec := "useHistoric", unfollowed := true, recurses := true, named := ["turnround/use.statuses", "turnround/calendar.lengths"], apart := false, laid := [("turnround/calendar.lengths", laid_turnround_calendar_lengths), ("turnround/use.statuses", laid_turnround_use_statuses)], narrowed := true }
def UseHistoricUptoSaid : Prop := useHistoricUptoRow.holds Tryz.pinned (OpenSpec.upto useHistoricSpec)

/-- 'turnroundlaw09.UseShares', WHERE WHAT IT READS IS OF BULK AT MOST 1048576: true; the input reads as it did. -/
def useSharesUptoRow : OpenClaim := { program := "ytdfgeoefbbkcnaagreatdoor", sum := "0000999ff8ded4dfa528fe8da60b0ee84b7cd3cf04663b137b5f83b89263609a", func := "turnround/turnroundlaw09.UseShares", spec := "useShares", unfollowed := true, recurses := true, named := ["turnround/use.statuses", "turnround/calendar.lengths"], apart := false, laid := [("turnround/calendar.lengths", laid_turnround_calendar_lengths), ("turnround/use.statuses", laid_turnround_use_statuses)], narrowed := true }
def UseSharesUptoSaid : Prop := useSharesUptoRow.holds Tryz.pinned (OpenSpec.upto useSharesSpec)

/-- 'turnroundlaw09.UseMatches', WHERE WHAT IT READS IS OF BULK AT MOST 1048576: true; the input reads as it did. -/
def useMatchesUptoRow : OpenClaim := { program := "ytdfgeoefbbkcnaagreatdoor", sum := "0000999ff8ded4dfa528fe8da60b0ee84b7cd3cf04663b137b5f83b89263609a", func := "turnround/turnroundlaw09.UseMatches", spec := "useMatches", unfollowed := true, recurses := true, named := ["turnround/use.statuses", "turnround/calendar.lengths"], apart := false, laid := [("turnround/calendar.lengths", laid_turnround_calendar_lengths), ("turnround/use.statuses", laid_turnround_use_statuses)], narrowed := true }
def UseMatchesUptoSaid : Prop := useMatchesUptoRow.holds Tryz.pinned (OpenSpec.upto useMatchesSpec)

/-- 'turnroundlaw09.UseStatus', WHERE WHAT IT READS IS OF BULK AT MOST 1048576: true; the input reads as it did. -/
def useStatusUptoRow : OpenClaim := { program := "ytdfgeoefbbkcnaagreatdoor", sum := "0000999ff8ded4dfa528fe8da60b0ee84b7cd3cf04663b137b5f83b89263609a", func := "turnround/turnroundlaw09.UseStatus", spec := "useStatus", unfollowed := true, recurses := true, named := ["turnround/use.statuses", "turnround/calendar.lengths"], apart := false, laid := [("turnround/calendar.lengths", laid_turnround_calendar_lengths), ("turnround/use.statuses", laid_turnround_use_statuses)], narrowed := true }
def UseStatusUptoSaid : Prop := useStatusUptoRow.holds Tryz.pinned (OpenSpec.upto useStatusSpec)

/-- 'turnroundlaw09.UseOrders', WHERE WHAT IT READS IS OF BULK AT MOST 1048576: true; the input reads as it did. -/
def useOrdersUptoRow : OpenClaim := { program := "ytdfgeoefbbkcnaagreatdoor", sum := "0000999ff8ded4dfa528fe8da60b0ee84b7cd3cf04663b137b5f83b89263609a", func := "turnround/turnroundlaw09.UseOrders", spec := "useOrders", unfollowed := true, recurses := true, named := ["turnround/use.statuses", "turnround/calendar.lengths"], apart := false, laid := [("turnround/calendar.lengths", laid_turnround_calendar_lengths), ("turnround/use.statuses", laid_turnround_use_statuses)], narrowed := true }
def UseOrdersUptoSaid : Prop := useOrdersUptoRow.holds Tryz.pinned (OpenSpec.upto useOrdersSpec)

/-- 'turnroundlaw09.UseRights', WHERE WHAT IT READS IS OF BULK AT MOST 1048576: true; the input reads as it did. -/
def useRightsUptoRow : OpenClaim := { program := "ytdfgeoefbbkcnaagreatdoor", sum := "0000999ff8ded4dfa528fe8da60b0ee84b7cd3cf04663b137b5f83b89263609a", func := "turnround/turnroundlaw09.UseRights", spec := "useRights", unfollowed := true, recurses := true, named := ["turnround/use.statuses", "turnround/calendar.lengths"], apart := false, laid := [("turnround/calendar.lengths", laid_turnround_calendar_lengths), ("turnround/use.statuses", laid_turnround_use_statuses)], narrowed := true }
def UseRightsUptoSaid : Prop := useRightsUptoRow.holds Tryz.pinned (OpenSpec.upto useRightsSpec)

/-- 'turnroundlaw09.UseCarries', WHERE WHAT IT READS IS OF BULK AT MOST 1048576: true; the input reads as it did. -/
def useCarriesUptoRow : OpenClaim := { program := "ytdfgeoefbbkcnaagreatdoor", sum := "0000999ff8ded4dfa528fe8da60b0ee84b7cd3cf04663b137b5f83b89263609a", func := "turnround/turnroundlaw09.UseCarries", spec := "useCarries", unfollowed := true, recurses := true, named := ["turnround/use.statuses", "turnround/calendar.lengths"], apart := false, laid := [("turnround/calendar.lengths", laid_turnround_calendar_lengths), ("turnround/use.statuses", laid_turnround_use_statuses)], narrowed := true }
def UseCarriesUptoSaid : Prop := useCarriesUptoRow.holds Tryz.pinned (OpenSpec.upto useCarriesSpec)

/-- 'turnroundlaw09.UseTables', WHERE WHAT IT READS IS OF BULK AT MOST 1048576: true; the input reads as it did. -/
def useTablesUptoRow : OpenClaim := { program := "ytdfgeoefbbkcnaagreatdoor", sum := "0000999ff8ded4dfa528fe8da60b0ee84b7cd3cf04663b137b5f83b89263609a", func := "turnround/turnroundlaw09.UseTables", spec := "useTables", unfollowed := true, recurses := true, named := ["turnround/use.statuses", "turnround/calendar.lengths"], apart := false, laid := [("turnround/calendar.lengths", laid_turnround_calendar_lengths), ("turnround/use.statuses", laid_turnround_use_statuses)], narrowed := true }
def UseTablesUptoSaid : Prop := useTablesUptoRow.holds Tryz.pinned (OpenSpec.upto useTablesSpec)

/-- 'turnroundlaw09.UsePairs', WHERE WHAT IT READS IS OF BULK AT MOST 1048576: true; the input reads as it did. -/
def usePairsUptoRow : OpenClaim := { program := "ytdfgeoefbbkcnaagreatdoor", sum := "0000999ff8ded4dfa528fe8da60b0ee84b7cd3cf04663b137b5f83b89263609a", func := "turnround/turnroundlaw09.UsePairs", spec := "usePairs", unfollowed := true, recurses := true, named := ["turnround/use.statuses", "turnround/calendar.lengths"], apart := false, laid := [("turnround/calendar.lengths", laid_turnround_calendar_lengths), ("turnround/use.statuses", laid_turnround_use_statuses)], narrowed := true }
def UsePairsUptoSaid : Prop := usePairsUptoRow.holds Tryz.pinned (OpenSpec.upto usePairsSpec)

/-- 'turnroundlaw09.UseGreatest', WHERE WHAT IT READS IS OF BULK AT MOST 1048576: true; the input reads as it did. -/
def useGreatestUptoRow : OpenClaim := { program := "ytdfgeoefbbkcnaagreatdoor", sum := "0000999ff8ded4dfa528fe8da60b0ee84b7cd3cf04663b137b5f83b89263609a", func := "turnround/turnroundlaw09.UseGreatest", spec := "useGreatest", unfollowed := true, recurses := true, named := ["turnround/use.statuses", "turnround/calendar.lengths"], apart := false, laid := [("turnround/calendar.lengths", laid_turnround_calendar_lengths), ("turnround/use.statuses", laid_turnround_use_statuses)], narrowed := true }
def UseGreatestUptoSaid : Prop := useGreatestUptoRow.holds Tryz.pinned (OpenSpec.upto useGreatestSpec)

end Rows
end Go.Proofs.YtdfgeoefbbkcnaaGreatDoor
