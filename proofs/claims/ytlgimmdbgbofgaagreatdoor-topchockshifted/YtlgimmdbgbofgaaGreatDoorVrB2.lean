/-
  What is proved: closed facts of the row.
-/
import Derived.Test.YtlgimmdbgbofgaaGreatDoorVrB1
set_option linter.unusedSectionVars false
set_option linter.unusedSimpArgs false
set_option linter.unusedVariables false
set_option linter.unnecessarySimpa false
set_option linter.deprecated false
namespace Go.Proofs.YtlgimmdbgbofgaaGreatDoor
theorem topChockShifted_q10 : (Rows.topChockShiftedRow.inPlace == Tryz.prog.inPlace 3) = true := by kernel_rfl
theorem topChockShifted_q11 : (Rows.topChockShiftedRow.unfollowed == Tryz.prog.unfollowed 3) = true := by kernel_rfl
theorem topChockShifted_q12 : (Rows.topChockShiftedRow.recurses == Tryz.prog.recurses 3) = true := by kernel_rfl
theorem topChockShifted_q13 : (Rows.topChockShiftedRow.named == Tryz.prog.varsNamed 3) = true := by kernel_rfl
theorem topChockShifted_q1 : Rows.topChockShiftedRow.wf (OpenSpec.ofChange Rows.topChockShiftedSpec) = true := by kernel_rfl
theorem topChockShifted_q4 : Tryz.f3.params.all (Tryz.prog.readableRec ·) = true := by kernel_rfl
theorem topChockShifted_q5 : namedTie Tryz.prog Rows.topChockShiftedRow.named Rows.topChockShiftedSpec.vars = true := by kernel_rfl
theorem topChockShifted_q14 : (Rows.topChockShiftedRow.maps == (Tryz.f3.params.toList ++ Rows.topChockShiftedSpec.plain.varTypes Tryz.prog).any (Tryz.prog.mapsRec ·)) = true := by kernel_rfl
theorem topChockShifted_q15 : (Rows.topChockShiftedRow.ifaces == (Tryz.f3.params.toList ++ Rows.topChockShiftedSpec.plain.varTypes Tryz.prog).any (Tryz.prog.ifacesRec ·)) = true := by kernel_rfl
theorem topChockShifted_q16 : (Rows.topChockShiftedRow.mapsOut == Tryz.prog.mapsAmong Tryz.f3.resultTypes.toList) = true := by kernel_rfl
theorem topChockShifted_q17 : (Rows.topChockShiftedRow.loops == (Tryz.f3.params.toList ++ Rows.topChockShiftedSpec.plain.varTypes Tryz.prog).any (Tryz.prog.loopsFrom ·)) = true := by kernel_rfl
theorem topChockShifted_q17b : (Rows.topChockShiftedRow.wideKeys == (Tryz.f3.params.toList ++ Rows.topChockShiftedSpec.plain.varTypes Tryz.prog ++ Tryz.f3.resultTypes.toList).any (Tryz.prog.wideKeysFrom ·)) = true := by kernel_rfl
theorem topChockShifted_q18 : Rows.topChockShiftedSpec.vars.all (Tryz.prog.varReadable ·) = true := by kernel_rfl
theorem topChockShifted_q19 : Tryz.f3.resultTypes.all (fun t => Tryz.prog.readableRec t && decide (t < Tryz.prog.types.size)) = true := by kernel_rfl
theorem topChockShifted_q20 : (Rows.topChockShiftedRow.ifacesOut == Tryz.f3.resultTypes.toList.any (Tryz.prog.ifacesRec ·)) = true := by kernel_rfl
theorem topChockShifted_q21 : (Rows.topChockShiftedRow.loopsOut == Tryz.f3.resultTypes.toList.any (Tryz.prog.loopsFrom ·)) = true := by kernel_rfl
theorem topChockShifted_q23 : Rows.topChockShiftedRow.shortTexts.isNone = true := by kernel_rfl
theorem topChockShifted_q26 : (Rows.topChockShiftedRow.pinned == Rows.topChockShiftedRow.pinnedBy) = true := by kernel_rfl
theorem topChockShifted_q27 : (Rows.topChockShiftedRow.veiled == (Tryz.f3.params.toList ++ Rows.topChockShiftedSpec.plain.varTypes Tryz.prog ++ Tryz.f3.resultTypes.toList).any (Tryz.prog.veiledRec ·)) = true := by kernel_rfl
theorem topChockShifted_q28 : Rows.topChockShiftedRow.veiledFits Tryz.prog Tryz.f3.params.toList (Tryz.f3.params.toList ++ Rows.topChockShiftedSpec.plain.varTypes Tryz.prog ++ Tryz.f3.resultTypes.toList) = true := by kernel_rfl
theorem topChockShifted_p22 : (Rows.topChockShiftedRow.plainKeys == Tryz.prog.plainKeys) = true := by kernel_rfl
theorem topChockShifted_p24b : (Rows.topChockShiftedRow.lifted == Tryz.prog.liftsFinal) = true := by kernel_rfl
theorem topChockShifted_p24c : (Tryz.prog.make == some Rows.topChockShiftedRow.make) = true := by kernel_rfl
theorem inst3 : Tryz.f3.isInstance Tryz.prog Rows.topChockShiftedRow.origin Rows.topChockShiftedRow.targs := of_decide_eq_true (by kernel_rfl)
theorem wrap3 : Tryz.f3.isWrapper Tryz.prog Rows.topChockShiftedRow.wrapper Rows.topChockShiftedRow.mainSum := by unfold Func.isWrapper; first | (rw [if_pos (by decide +kernel)]; kernel_rfl) | (rw [if_neg (by decide +kernel)]; exact ⟨rfl, rfl⟩)
theorem named3 : Tryz.prog.funcNamed Rows.topChockShiftedRow.func = some 3 := by kernel_rfl
theorem closed3 : joinedFacts Tryz.prog 3 Tryz.f3 Rows.topChockShiftedSpec Rows.topChockShiftedRow = true :=
 joinedFacts_mk topChockShifted_q1 p2 p3 topChockShifted_q4 topChockShifted_q5 rfl p7 rfl p9 topChockShifted_q10 topChockShifted_q11 topChockShifted_q12 topChockShifted_q13 topChockShifted_q14 topChockShifted_q15 topChockShifted_q16 topChockShifted_q17 topChockShifted_q17b topChockShifted_q18 topChockShifted_q19 topChockShifted_q20 topChockShifted_q21 topChockShifted_p22 topChockShifted_q23 p23b p24 topChockShifted_p24b topChockShifted_p24c (by kernel_rfl) topChockShifted_q26 topChockShifted_q27 topChockShifted_q28
end Go.Proofs.YtlgimmdbgbofgaaGreatDoor
