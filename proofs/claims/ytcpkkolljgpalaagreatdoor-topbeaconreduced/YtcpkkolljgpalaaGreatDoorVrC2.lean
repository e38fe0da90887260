/-
  What is proved: lemmas and contracts of functions on the way to the law topBeaconReduced (part 20).
-/
import Derived.Test.YtcpkkolljgpalaaGreatDoorVrC1
set_option linter.unusedSectionVars false
set_option linter.unusedSimpArgs false
set_option linter.unusedVariables false
set_option linter.unnecessarySimpa false
set_option linter.deprecated false
namespace Go.Ex
open Go.Proofs
theorem qpt : isBool true (call Tryz.prog gl (orcOf tab2) 40 (.fn 7) [] h0 1000 1000) = true := by kernel_rfl
end Go.Ex
namespace Go.Sim
open Go.Proofs Go.Ex
theorem ex2007 : ∃ b : Bool, b = true := ⟨true, rfl⟩
noncomputable def s2007 : Bool := ex2007.choose
theorem qgw : s2007 = true := ex2007.choose_spec
theorem qpu : Con (EG glT) 7 [] (G.bool s2007) := by
 obtain ⟨h', c', h⟩ := qpv qpt;rw [qgw];exact jm (vs := []) (qla qxp) qop (by decide) (qbq (by decide)) h
end Go.Sim
