/-
  What is proved: the run of awake ends true.
-/
import Derived.Test.YtcpkkolljgpalaaGreatDoorVrA4
import Derived.Test.YtcpkkolljgpalaaGreatDoorVrA5
set_option linter.unusedSectionVars false
set_option linter.unusedSimpArgs false
set_option linter.unusedVariables false
set_option linter.unnecessarySimpa false
set_option linter.deprecated false
namespace Go.Ex
open Go.Proofs
def gl (g : Nat) : Bool := Nat.beq g 0
noncomputable def h0 : H := hset .nil 0 (.fix (Sim.lengthCells.map .lit))
def isBool (b : Bool) : Re (V × H × Nat) → Bool
 | .ok (.lit (.bool m), _, _) => m == b
 | _ => false
theorem isBool_ex {b : Bool} {r : Re (V × H × Nat)} (h : isBool b r = true) : ∃ h' c', r = .ok (.lit (.bool b), h', c') := by
 unfold isBool at h
 split at h
 ·rename_i m h' c'; exact ⟨h', c', by rw [of_decide_eq_true (by simpa using h) |> fun (e : m = b) => e]⟩
 ·cases h
theorem gl_ok {c0 : Nat} (hc : 2 ≤ c0) : ∀ g, gl g = true → g < c0 ∧ ∃ vs : List Value, vs ≠ [] ∧ (g, vs) ∈ Sim.glT ∧ h0.get g = some (.fix (vs.map .lit)) := by
 intro g hg
 obtain rfl : g = 0 := by simpa [gl, Nat.beq_eq] using hg
 refine ⟨by omega, Sim.lengthCells, by unfold Sim.lengthCells; simp, by unfold Sim.glT; simp, ?_⟩;unfold h0;rw [hget_set (by decide), if_pos rfl]
noncomputable abbrev EE : Sim.Env := Sim.EG Sim.glT
noncomputable abbrev runT (tab : List Row) (f : Nat) (vs : List Value) : Re (V × H × Nat) := call Tryz.prog gl (orcOf tab) 40 (.fn f) (vs.map toV) h0 1000 1000
theorem row_ok {tab : List Row} (ht : ∀ q ∈ tab, RowOk EE q) {f : Nat} {vs : List Value} {r : Value} (h1 : okR r = true) (h2 : vs.all okV = true) (h : isVal r (runT tab f vs) = true) : RowOk EE ⟨f, vs, r⟩ :=
 have k := con_of_callV (E := EE) (gl := gl) (orcOf_ok ht) orcOf_k (by decide) (gl_ok (by decide)) h2 h
 ⟨h1, k.1, k.2⟩
theorem row_mem {q : Row} {tab : List Row} (hq : RowOk EE q) (ht : ∀ q ∈ tab, RowOk EE q) : ∀ q' ∈ q :: tab, RowOk EE q' := fun q' h => by
 rcases List.mem_cons.1 h with rfl | h
 ·exact hq
 ·exact ht q' h
def tx (l : List UInt8) : Value := .string ⟨l.toArray⟩
def it (n : Int) : Value := .int .i64 n
end Go.Ex
