/-
  What is proved: lemmas and contracts of functions on the way to the law topBeaconReduced (part 17).
-/
import Derived.Test.YtcpkkolljgpalaaGreatDoorVrB4
set_option linter.unusedSectionVars false
set_option linter.unusedSimpArgs false
set_option linter.unusedVariables false
set_option linter.unnecessarySimpa false
set_option linter.deprecated false
namespace Go.Ex
open Go.Proofs
theorem qti : isVal row_sea3.r (runT [] row_sea3.f row_sea3.vs) = true := by kernel_rfl
theorem qq9 : RowOk EE row_sea3 := jk qbn (by rfl) (by rfl) qti
end Go.Ex
