/-
  What is proved: closed facts of the row.
-/
import Derived.Test.YthhidpjikbhljaaGreatDoorVrB3
set_option linter.unusedSectionVars false
set_option linter.unusedSimpArgs false
set_option linter.unusedVariables false
set_option linter.unnecessarySimpa false
set_option linter.deprecated false
namespace Go.Proofs.YthhidpjikbhljaaGreatDoor
theorem groundChecks_q10 : (Rows.groundChecksRow.inPlace == Tryz.prog.inPlace 3) = true := by kernel_rfl
theorem groundChecks_q11 : (Rows.groundChecksRow.unfollowed == Tryz.prog.unfollowed 3) = true := by kernel_rfl
theorem groundChecks_q12 : (Rows.groundChecksRow.recurses == Tryz.prog.recurses 3) = true := by kernel_rfl
theorem groundChecks_q13 : (Rows.groundChecksRow.named == Tryz.prog.varsNamed 3) = true := by kernel_rfl
theorem groundChecks_q1 : Rows.groundChecksRow.wf (OpenSpec.ofChange Rows.groundChecksSpec) = true := by kernel_rfl
theorem groundChecks_q4 : Tryz.f3.params.all (Tryz.prog.readableRec ·) = true := by kernel_rfl
theorem groundChecks_q5 : namedTie Tryz.prog Rows.groundChecksRow.named Rows.groundChecksSpec.vars = true := by kernel_rfl
theorem groundChecks_q14 : (Rows.groundChecksRow.maps == (Tryz.f3.params.toList ++ Rows.groundChecksSpec.plain.varTypes Tryz.prog).any (Tryz.prog.mapsRec ·)) = true := by kernel_rfl
theorem groundChecks_q15 : (Rows.groundChecksRow.ifaces == (Tryz.f3.params.toList ++ Rows.groundChecksSpec.plain.varTypes Tryz.prog).any (Tryz.prog.ifacesRec ·)) = true := by kernel_rfl
theorem groundChecks_q16 : (Rows.groundChecksRow.mapsOut == Tryz.prog.mapsAmong Tryz.f3.resultTypes.toList) = true := by kernel_rfl
theorem groundChecks_q17 : (Rows.groundChecksRow.loops == (Tryz.f3.params.toList ++ Rows.groundChecksSpec.plain.varTypes Tryz.prog).any (Tryz.prog.loopsFrom ·)) = true := by kernel_rfl
theorem groundChecks_q17b : (Rows.groundChecksRow.wideKeys == (Tryz.f3.params.toList ++ Rows.groundChecksSpec.plain.varTypes Tryz.prog ++ Tryz.f3.resultTypes.toList).any (Tryz.prog.wideKeysFrom ·)) = true := by kernel_rfl
theorem groundChecks_q18 : Rows.groundChecksSpec.vars.all (Tryz.prog.varReadable ·) = true := by kernel_rfl
theorem groundChecks_q19 : Tryz.f3.resultTypes.all (fun t => Tryz.prog.readableRec t && decide (t < Tryz.prog.types.size)) = true := by kernel_rfl
theorem groundChecks_q20 : (Rows.groundChecksRow.ifacesOut == Tryz.f3.resultTypes.toList.any (Tryz.prog.ifacesRec ·)) = true := by kernel_rfl
theorem groundChecks_q21 : (Rows.groundChecksRow.loopsOut == Tryz.f3.resultTypes.toList.any (Tryz.prog.loopsFrom ·)) = true := by kernel_rfl
theorem groundChecks_q23 : Rows.groundChecksRow.shortTexts.isNone = true := by kernel_rfl
theorem groundChecks_q26 : (Rows.groundChecksRow.pinned == Rows.groundChecksRow.pinnedBy) = true := by kernel_rfl
theorem groundChecks_q27 : (Rows.groundChecksRow.veiled == (Tryz.f3.params.toList ++ Rows.groundChecksSpec.plain.varTypes Tryz.prog ++ Tryz.f3.resultTypes.toList).any (Tryz.prog.veiledRec ·)) = true := by kernel_rfl
theorem groundChecks_q28 : Rows.groundChecksRow.veiledFits Tryz.prog Tryz.f3.params.toList (Tryz.f3.params.toList ++ Rows.groundChecksSpec.plain.varTypes Tryz.prog ++ Tryz.f3.resultTypes.toList) = true := by kernel_rfl
theorem groundChecks_p22 : (Rows.groundChecksRow.plainKeys == Tryz.prog.plainKeys) = true := by kernel_rfl
theorem groundChecks_p24b : (Rows.groundChecksRow.lifted == Tryz.prog.liftsFinal) = true := by kernel_rfl
theorem groundChecks_p24c : (Tryz.prog.make == some Rows.groundChecksRow.make) = true := by kernel_rfl
theorem inst3 : Tryz.f3.isInstance Tryz.prog Rows.groundChecksRow.origin Rows.groundChecksRow.targs := of_decide_eq_true (by kernel_rfl)
theorem wrap3 : Tryz.f3.isWrapper Tryz.prog Rows.groundChecksRow.wrapper Rows.groundChecksRow.mainSum := by unfold Func.isWrapper; first | (rw [if_pos (by decide +kernel)]; kernel_rfl) | (rw [if_neg (by decide +kernel)]; exact ⟨rfl, rfl⟩)
theorem named3 : Tryz.prog.funcNamed Rows.groundChecksRow.func = some 3 := by kernel_rfl
theorem closed3 : joinedFacts Tryz.prog 3 Tryz.f3 Rows.groundChecksSpec Rows.groundChecksRow = true :=
 joinedFacts_mk groundChecks_q1 p2 p3 groundChecks_q4 groundChecks_q5 rfl p7 rfl p9 groundChecks_q10 groundChecks_q11 groundChecks_q12 groundChecks_q13 groundChecks_q14 groundChecks_q15 groundChecks_q16 groundChecks_q17 groundChecks_q17b groundChecks_q18 groundChecks_q19 groundChecks_q20 groundChecks_q21 groundChecks_p22 groundChecks_q23 p23b p24 groundChecks_p24b groundChecks_p24c (by kernel_rfl) groundChecks_q26 groundChecks_q27 groundChecks_q28
end Go.Proofs.YthhidpjikbhljaaGreatDoor
