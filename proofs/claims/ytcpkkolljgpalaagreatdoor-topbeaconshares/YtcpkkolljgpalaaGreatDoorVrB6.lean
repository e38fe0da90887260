/-
  What is proved: lemmas and contracts of functions on the way to the law topBeaconShares (part 15).
-/
import Derived.Test.YtcpkkolljgpalaaGreatDoorVrB3
set_option linter.unusedSectionVars false
set_option linter.unusedSimpArgs false
set_option linter.unusedVariables false
set_option linter.unnecessarySimpa false
set_option linter.deprecated false
namespace Go.Ex
open Go.Proofs
theorem run_sea2 : isVal row_sea2.r (runT [] row_sea2.f row_sea2.vs) = true := by kernel_rfl
theorem ok_sea2 : RowOk EE row_sea2 := row_ok tab0_ok (by rfl) (by rfl) run_sea2
end Go.Ex
