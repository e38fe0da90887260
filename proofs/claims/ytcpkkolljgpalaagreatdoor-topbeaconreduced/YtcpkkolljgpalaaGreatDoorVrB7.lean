/-
  What is proved: lemmas and contracts of functions on the way to the law topBeaconReduced (part 16).
-/
import Derived.Test.YtcpkkolljgpalaaGreatDoorVrB4
set_option linter.unusedSectionVars false
set_option linter.unusedSimpArgs false
set_option linter.unusedVariables false
set_option linter.unnecessarySimpa false
set_option linter.deprecated false
namespace Go.Ex
open Go.Proofs
theorem qsc : isVal row_sea2.r (runT [] row_sea2.f row_sea2.vs) = true := by kernel_rfl
theorem qor : RowOk EE row_sea2 := jk qbn (by rfl) (by rfl) qsc
end Go.Ex
