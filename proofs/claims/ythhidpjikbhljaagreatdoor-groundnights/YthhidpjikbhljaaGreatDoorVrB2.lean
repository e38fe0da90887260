/-
  What is proved: closed facts of the row.
-/
import Derived.Test.YthhidpjikbhljaaGreatDoorVrB1
set_option linter.unusedSectionVars false
set_option linter.unusedSimpArgs false
set_option linter.unusedVariables false
set_option linter.unnecessarySimpa false
set_option linter.deprecated false
namespace Go.Proofs.YthhidpjikbhljaaGreatDoor
theorem groundNights_q10 : (Rows.groundNightsRow.inPlace == Tryz.prog.inPlace 7) = true := by kernel_rfl
theorem groundNights_q11 : (Rows.groundNightsRow.unfollowed == Tryz.prog.unfollowed 7) = true := by kernel_rfl
theorem groundNights_q12 : (Rows.groundNightsRow.recurses == Tryz.prog.recurses 7) = true := by kernel_rfl
theorem groundNights_q13 : (Rows.groundNightsRow.named == Tryz.prog.varsNamed 7) = true := by kernel_rfl
theorem groundNights_q1 : Rows.groundNightsRow.wf (OpenSpec.ofChange Rows.groundNightsSpec) = true := by kernel_rfl
theorem groundNights_q4 : Tryz.f7.params.all (Tryz.prog.readableRec ·) = true := by kernel_rfl
theorem groundNights_q5 : namedTie Tryz.prog Rows.groundNightsRow.named Rows.groundNightsSpec.vars = true := by kernel_rfl
theorem groundNights_q14 : (Rows.groundNightsRow.maps == (Tryz.f7.params.toList ++ Rows.groundNightsSpec.plain.varTypes Tryz.prog).any (Tryz.prog.mapsRec ·)) = true := by kernel_rfl
theorem groundNights_q15 : (Rows.groundNightsRow.ifaces == (Tryz.f7.params.toList ++ Rows.groundNightsSpec.plain.varTypes Tryz.prog).any (Tryz.prog.ifacesRec ·)) = true := by kernel_rfl
theorem groundNights_q16 : (Rows.groundNightsRow.mapsOut == Tryz.prog.mapsAmong Tryz.f7.resultTypes.toList) = true := by kernel_rfl
theorem groundNights_q17 : (Rows.groundNightsRow.loops == (Tryz.f7.params.toList ++ Rows.groundNightsSpec.plain.varTypes Tryz.prog).any (Tryz.prog.loopsFrom ·)) = true := by kernel_rfl
theorem groundNights_q17b : (Rows.groundNightsRow.wideKeys == (Tryz.f7.params.toList ++ Rows.groundNightsSpec.plain.varTypes Tryz.prog ++ Tryz.f7.resultTypes.toList).any (Tryz.prog.wideKeysFrom ·)) = true := by kernel_rfl
theorem groundNights_q18 : Rows.groundNightsSpec.vars.all (Tryz.prog.varReadable ·) = true := by kernel_rfl
theorem groundNights_q19 : Tryz.f7.resultTypes.all (fun t => Tryz.prog.readableRec t && decide (t < Tryz.prog.types.size)) = true := by kernel_rfl
theorem groundNights_q20 : (Rows.groundNightsRow.ifacesOut == Tryz.f7.resultTypes.toList.any (Tryz.prog.ifacesRec ·)) = true := by kernel_rfl
theorem groundNights_q21 : (Rows.groundNightsRow.loopsOut == Tryz.f7.resultTypes.toList.any (Tryz.prog.loopsFrom ·)) = true := by kernel_rfl
theorem groundNights_q23 : Rows.groundNightsRow.shortTexts.isNone = true := by kernel_rfl
theorem groundNights_q26 : (Rows.groundNightsRow.pinned == Rows.groundNightsRow.pinnedBy) = true := by kernel_rfl
theorem groundNights_q27 : (Rows.groundNightsRow.veiled == (Tryz.f7.params.toList ++ Rows.groundNightsSpec.plain.varTypes Tryz.prog ++ Tryz.f7.resultTypes.toList).any (Tryz.prog.veiledRec ·)) = true := by kernel_rfl
theorem groundNights_q28 : Rows.groundNightsRow.veiledFits Tryz.prog Tryz.f7.params.toList (Tryz.f7.params.toList ++ Rows.groundNightsSpec.plain.varTypes Tryz.prog ++ Tryz.f7.resultTypes.toList) = true := by kernel_rfl
theorem groundNights_p22 : (Rows.groundNightsRow.plainKeys == Tryz.prog.plainKeys) = true := by kernel_rfl
theorem groundNights_p24b : (Rows.groundNightsRow.lifted == Tryz.prog.liftsFinal) = true := by kernel_rfl
theorem groundNights_p24c : (Tryz.prog.make == some Rows.groundNightsRow.make) = true := by kernel_rfl
theorem inst7 : Tryz.f7.isInstance Tryz.prog Rows.groundNightsRow.origin Rows.groundNightsRow.targs := of_decide_eq_true (by kernel_rfl)
theorem wrap7 : Tryz.f7.isWrapper Tryz.prog Rows.groundNightsRow.wrapper Rows.groundNightsRow.mainSum := by unfold Func.isWrapper; first | (rw [if_pos (by decide +kernel)]; kernel_rfl) | (rw [if_neg (by decide +kernel)]; exact ⟨rfl, rfl⟩)
theorem named7 : Tryz.prog.funcNamed Rows.groundNightsRow.func = some 7 := by kernel_rfl
theorem closed7 : joinedFacts Tryz.prog 7 Tryz.f7 Rows.groundNightsSpec Rows.groundNightsRow = true :=
 joinedFacts_mk groundNights_q1 p2 p3 groundNights_q4 groundNights_q5 rfl p7 rfl p9 groundNights_q10 groundNights_q11 groundNights_q12 groundNights_q13 groundNights_q14 groundNights_q15 groundNights_q16 groundNights_q17 groundNights_q17b groundNights_q18 groundNights_q19 groundNights_q20 groundNights_q21 groundNights_p22 groundNights_q23 p23b p24 groundNights_p24b groundNights_p24c (by kernel_rfl) groundNights_q26 groundNights_q27 groundNights_q28
end Go.Proofs.YthhidpjikbhljaaGreatDoor
