/-
  What is proved: lemmas and contracts of functions on the way to the law topBeaconShares (part 17).
-/
import Derived.Test.YtcpkkolljgpalaaGreatDoorVrB3
set_option linter.unusedSectionVars false
set_option linter.unusedSimpArgs false
set_option linter.unusedVariables false
set_option linter.unnecessarySimpa false
set_option linter.deprecated false
namespace Go.Ex
open Go.Proofs
theorem run_sea4 : isVal row_sea4.r (runT [] row_sea4.f row_sea4.vs) = true := by kernel_rfl
theorem ok_sea4 : RowOk EE row_sea4 := row_ok tab0_ok (by rfl) (by rfl) run_sea4
end Go.Ex
