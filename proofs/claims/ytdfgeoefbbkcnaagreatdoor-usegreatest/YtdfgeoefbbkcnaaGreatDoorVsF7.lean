/-
  What is proved: the walk of the states: the reference.
-/
import Derived.Test.YtdfgeoefbbkcnaaGreatDoorVsF6
import Derived.Test.YtdfgeoefbbkcnaaGreatDoorVaA4
set_option linter.unusedSectionVars false
set_option linter.unusedSimpArgs false
set_option linter.unusedVariables false
set_option linter.unnecessarySimpa false
set_option linter.deprecated false
namespace Go.Sim
end Go.Sim

set_option linter.unusedSimpArgs false
set_option linter.unusedVariables false
set_option maxRecDepth 10000
namespace Go.Sim
open Go.Proofs


end Go.Sim

set_option linter.unusedSimpArgs false
set_option linter.unusedVariables false
set_option maxRecDepth 10000
namespace Go.Sim
open Go.Proofs


end Go.Sim

namespace Go.Sim
end Go.Sim

set_option linter.unusedSimpArgs false
set_option linter.unusedVariables false
set_option maxRecDepth 10000
namespace Go.Sim
open Go.Proofs


end Go.Sim

set_option linter.unusedSimpArgs false
set_option linter.unusedVariables false
set_option maxRecDepth 10000
namespace Go.Sim
open Go.Proofs


end Go.Sim

namespace Go.Sim
end Go.Sim

set_option linter.unusedSimpArgs false
set_option linter.unusedVariables false
set_option maxRecDepth 10000
namespace Go.Sim
open Go.Proofs


end Go.Sim

