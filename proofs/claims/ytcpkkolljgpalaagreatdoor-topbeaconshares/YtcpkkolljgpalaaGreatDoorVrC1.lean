/-
  What is proved: lemmas and contracts of functions on the way to the law topBeaconShares (part 19).
-/
import Derived.Test.YtcpkkolljgpalaaGreatDoorVrB9
set_option linter.unusedSectionVars false
set_option linter.unusedSimpArgs false
set_option linter.unusedVariables false
set_option linter.unnecessarySimpa false
set_option linter.deprecated false
namespace Go.Ex
open Go.Proofs
theorem awake_run : isBool true (call Tryz.prog gl (orcOf tab2) 40 (.fn 7) [] h0 1000 1000) = true := by kernel_rfl
end Go.Ex
namespace Go.Sim
open Go.Proofs Go.Ex
theorem ex2007 : ∃ b : Bool, b = true := ⟨true, rfl⟩
noncomputable def s2007 : Bool := ex2007.choose
theorem s2007_eq : s2007 = true := ex2007.choose_spec
theorem c2007 : Con (EG glT) 7 [] (G.bool s2007) := by
 obtain ⟨h', c', h⟩ := isBool_ex awake_run;rw [s2007_eq];exact con_of_call (vs := []) (orcOf_ok tab2_ok) orcOf_k (by decide) (gl_ok (by decide)) h
end Go.Sim
