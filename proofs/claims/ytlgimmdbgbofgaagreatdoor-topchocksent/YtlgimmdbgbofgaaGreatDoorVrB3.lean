/-
  What is proved: closed facts of the row.
-/
import Derived.Test.YtlgimmdbgbofgaaGreatDoorVrB2
set_option linter.unusedSectionVars false
set_option linter.unusedSimpArgs false
set_option linter.unusedVariables false
set_option linter.unnecessarySimpa false
set_option linter.deprecated false
namespace Go.Proofs.YtlgimmdbgbofgaaGreatDoor
theorem topChockSent_q10 : (Rows.topChockSentRow.inPlace == Tryz.prog.inPlace 4) = true := by kernel_rfl
theorem topChockSent_q11 : (Rows.topChockSentRow.unfollowed == Tryz.prog.unfollowed 4) = true := by kernel_rfl
theorem topChockSent_q12 : (Rows.topChockSentRow.recurses == Tryz.prog.recurses 4) = true := by kernel_rfl
theorem topChockSent_q13 : (Rows.topChockSentRow.named == Tryz.prog.varsNamed 4) = true := by kernel_rfl
theorem topChockSent_q1 : Rows.topChockSentRow.wf (OpenSpec.ofChange Rows.topChockSentSpec) = true := by kernel_rfl
theorem topChockSent_q4 : Tryz.f4.params.all (Tryz.prog.readableRec ·) = true := by kernel_rfl
theorem topChockSent_q5 : namedTie Tryz.prog Rows.topChockSentRow.named Rows.topChockSentSpec.vars = true := by kernel_rfl
theorem topChockSent_q14 : (Rows.topChockSentRow.maps == (Tryz.f4.params.toList ++ Rows.topChockSentSpec.plain.varTypes Tryz.prog).any (Tryz.prog.mapsRec ·)) = true := by kernel_rfl
theorem topChockSent_q15 : (Rows.topChockSentRow.ifaces == (Tryz.f4.params.toList ++ Rows.topChockSentSpec.plain.varTypes Tryz.prog).any (Tryz.prog.ifacesRec ·)) = true := by kernel_rfl
theorem topChockSent_q16 : (Rows.topChockSentRow.mapsOut == Tryz.prog.mapsAmong Tryz.f4.resultTypes.toList) = true := by kernel_rfl
theorem topChockSent_q17 : (Rows.topChockSentRow.loops == (Tryz.f4.params.toList ++ Rows.topChockSentSpec.plain.varTypes Tryz.prog).any (Tryz.prog.loopsFrom ·)) = true := by kernel_rfl
theorem topChockSent_q17b : (Rows.topChockSentRow.wideKeys == (Tryz.f4.params.toList ++ Rows.topChockSentSpec.plain.varTypes Tryz.prog ++ Tryz.f4.resultTypes.toList).any (Tryz.prog.wideKeysFrom ·)) = true := by kernel_rfl
theorem topChockSent_q18 : Rows.topChockSentSpec.vars.all (Tryz.prog.varReadable ·) = true := by kernel_rfl
theorem topChockSent_q19 : Tryz.f4.resultTypes.all (fun t => Tryz.prog.readableRec t && decide (t < Tryz.prog.types.size)) = true := by kernel_rfl
theorem topChockSent_q20 : (Rows.topChockSentRow.ifacesOut == Tryz.f4.resultTypes.toList.any (Tryz.prog.ifacesRec ·)) = true := by kernel_rfl
theorem topChockSent_q21 : (Rows.topChockSentRow.loopsOut == Tryz.f4.resultTypes.toList.any (Tryz.prog.loopsFrom ·)) = true := by kernel_rfl
theorem topChockSent_q23 : Rows.topChockSentRow.shortTexts.isNone = true := by kernel_rfl
theorem topChockSent_q26 : (Rows.topChockSentRow.pinned == Rows.topChockSentRow.pinnedBy) = true := by kernel_rfl
theorem topChockSent_q27 : (Rows.topChockSentRow.veiled == (Tryz.f4.params.toList ++ Rows.topChockSentSpec.plain.varTypes Tryz.prog ++ Tryz.f4.resultTypes.toList).any (Tryz.prog.veiledRec ·)) = true := by kernel_rfl
theorem topChockSent_q28 : Rows.topChockSentRow.veiledFits Tryz.prog Tryz.f4.params.toList (Tryz.f4.params.toList ++ Rows.topChockSentSpec.plain.varTypes Tryz.prog ++ Tryz.f4.resultTypes.toList) = true := by kernel_rfl
theorem topChockSent_p22 : (Rows.topChockSentRow.plainKeys == Tryz.prog.plainKeys) = true := by kernel_rfl
theorem topChockSent_p24b : (Rows.topChockSentRow.lifted == Tryz.prog.liftsFinal) = true := by kernel_rfl
theorem topChockSent_p24c : (Tryz.prog.make == some Rows.topChockSentRow.make) = true := by kernel_rfl
theorem inst4 : Tryz.f4.isInstance Tryz.prog Rows.topChockSentRow.origin Rows.topChockSentRow.targs := of_decide_eq_true (by kernel_rfl)
theorem wrap4 : Tryz.f4.isWrapper Tryz.prog Rows.topChockSentRow.wrapper Rows.topChockSentRow.mainSum := by unfold Func.isWrapper; first | (rw [if_pos (by decide +kernel)]; kernel_rfl) | (rw [if_neg (by decide +kernel)]; exact ⟨rfl, rfl⟩)
theorem named4 : Tryz.prog.funcNamed Rows.topChockSentRow.func = some 4 := by kernel_rfl
theorem closed4 : joinedFacts Tryz.prog 4 Tryz.f4 Rows.topChockSentSpec Rows.topChockSentRow = true :=
 joinedFacts_mk topChockSent_q1 p2 p3 topChockSent_q4 topChockSent_q5 rfl p7 rfl p9 topChockSent_q10 topChockSent_q11 topChockSent_q12 topChockSent_q13 topChockSent_q14 topChockSent_q15 topChockSent_q16 topChockSent_q17 topChockSent_q17b topChockSent_q18 topChockSent_q19 topChockSent_q20 topChockSent_q21 topChockSent_p22 topChockSent_q23 p23b p24 topChockSent_p24b topChockSent_p24c (by kernel_rfl) topChockSent_q26 topChockSent_q27 topChockSent_q28
end Go.Proofs.YtlgimmdbgbofgaaGreatDoor
