/-
  What is proved: the run of awake ends true.
-/
import Derived.Test.YtnknncfgbefpeaaGreatVrA4
import Derived.Test.YtnknncfgbefpeaaGreatVrA5
set_option linter.unusedSectionVars false
set_option linter.unusedSimpArgs false
set_option linter.unusedVariables false
set_option linter.unnecessarySimpa false
set_option linter.deprecated false
namespace Go.Ex
open Go.Proofs
def gl (_ : Nat) : Bool := false
noncomputable def h0 : H := .nil
noncomputable def orc : Orc := fun _ _ _ _ _ => none
theorem qco {c0 : Nat} (hc : 2 ≤ c0) : ∀ g, gl g = true → g < c0 ∧ ∃ vs : List Value, vs ≠ [] ∧ (g, vs) ∈ Sim.glT ∧ h0.get g = some (.fix (vs.map .lit)) := by
 intro g hg; cases hg
end Go.Ex
