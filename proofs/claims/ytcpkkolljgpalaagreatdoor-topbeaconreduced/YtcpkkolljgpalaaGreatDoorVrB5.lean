/-
  What is proved: lemmas and contracts of functions on the way to the law topBeaconReduced (part 14).
-/
import Derived.Test.YtcpkkolljgpalaaGreatDoorVrB4
set_option linter.unusedSectionVars false
set_option linter.unusedSimpArgs false
set_option linter.unusedVariables false
set_option linter.unnecessarySimpa false
set_option linter.deprecated false
namespace Go.Ex
open Go.Proofs
theorem qs3 : isVal row_sea0.r (runT [] row_sea0.f row_sea0.vs) = true := by kernel_rfl
theorem qps : RowOk EE row_sea0 := jk qbn (by rfl) (by rfl) qs3
end Go.Ex
