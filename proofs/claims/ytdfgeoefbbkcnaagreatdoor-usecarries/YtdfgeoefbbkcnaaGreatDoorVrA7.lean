/-
  What is proved: the run of awake ends true.
-/
import Derived.Test.YtdfgeoefbbkcnaaGreatDoorVrA6
set_option linter.unusedSectionVars false
set_option linter.unusedSimpArgs false
set_option linter.unusedVariables false
set_option linter.unnecessarySimpa false
set_option linter.deprecated false
namespace Go.Ex
open Go.Proofs
theorem ql7 : isBool true (call Tryz.prog gl orc 40 16 [] h0 1000 1000) = true := by kernel_rfl
end Go.Ex
