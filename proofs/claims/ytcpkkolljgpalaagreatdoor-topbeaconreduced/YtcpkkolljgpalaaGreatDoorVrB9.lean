/-
  What is proved: lemmas and contracts of functions on the way to the law topBeaconReduced (part 18).
-/
import Derived.Test.YtcpkkolljgpalaaGreatDoorVrB4
set_option linter.unusedSectionVars false
set_option linter.unusedSimpArgs false
set_option linter.unusedVariables false
set_option linter.unnecessarySimpa false
set_option linter.deprecated false
namespace Go.Ex
open Go.Proofs
theorem qs2 : isVal row_sea4.r (runT [] row_sea4.f row_sea4.vs) = true := by kernel_rfl
theorem qpr : RowOk EE row_sea4 := jk qbn (by rfl) (by rfl) qs2
end Go.Ex
