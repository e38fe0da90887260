/-
  What is proved: the run of awake ends true.
-/
import Derived.Test.YtkeegnagpekgmaaGreatVrA4
import Derived.Test.YtkeegnagpekgmaaGreatVrA5
set_option linter.unusedSectionVars false
set_option linter.unusedSimpArgs false
set_option linter.unusedVariables false
set_option linter.unnecessarySimpa false
set_option linter.deprecated false
namespace Go.Ex
open Go.Proofs
def gl (_ : Nat) : Bool := false
noncomputable def h0 : H := .nil
noncomputable def orc : Orc := fun _ _ _ _ _ => none
def isBool (b : Bool) : Re (V × H × Nat) → Bool
 | .ok (.lit (.bool m), _, _) => m == b
 | _ => false
theorem isBool_ex {b : Bool} {r : Re (V × H × Nat)} (h : isBool b r = true) : ∃ h' c', r = .ok (.lit (.bool b), h', c') := by
 unfold isBool at h
 split at h
 ·rename_i m h' c'; exact ⟨h', c', by rw [of_decide_eq_true (by simpa using h) |> fun (e : m = b) => e]⟩
 ·cases h
theorem gl_ok {c0 : Nat} (hc : 2 ≤ c0) : ∀ g, gl g = true → g < c0 ∧ ∃ vs : List Value, vs ≠ [] ∧ (g, vs) ∈ Sim.glT ∧ h0.get g = some (.fix (vs.map .lit)) := by
 intro g hg; cases hg
theorem awake_run : isBool true (call Tryz.prog gl (fun _ _ _ _ _ => none) 40 (.fn 6) [] h0 1000 1000) = true := by kernel_rfl
end Go.Ex
namespace Go.Sim
open Go.Proofs Go.Ex
theorem ex2006 : ∃ b : Bool, b = true := ⟨true, rfl⟩
noncomputable def s2006 : Bool := ex2006.choose
theorem s2006_eq : s2006 = true := ex2006.choose_spec
theorem c2006 : Con (EG glT) 6 [] (G.bool s2006) := by
 obtain ⟨h', c', h⟩ := isBool_ex awake_run;rw [s2006_eq];exact con_of_call (vs := []) orc_none orcK_none (by decide) (gl_ok (by decide)) h
end Go.Sim
