/-
  What is proved: lemmas and contracts of functions on the way to the law topBeaconReduced (part 15).
-/
import Derived.Test.YtcpkkolljgpalaaGreatDoorVrB4
set_option linter.unusedSectionVars false
set_option linter.unusedSimpArgs false
set_option linter.unusedVariables false
set_option linter.unnecessarySimpa false
set_option linter.deprecated false
namespace Go.Ex
open Go.Proofs
theorem qsb : isVal row_sea1.r (runT [] row_sea1.f row_sea1.vs) = true := by kernel_rfl
theorem qoq : RowOk EE row_sea1 := jk qbn (by rfl) (by rfl) qsb
end Go.Ex
