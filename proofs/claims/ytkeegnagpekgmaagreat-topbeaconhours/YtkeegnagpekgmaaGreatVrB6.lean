/-
  What is proved: closed facts of the row.
-/
import Derived.Test.YtkeegnagpekgmaaGreatVrB5
set_option linter.unusedSectionVars false
set_option linter.unusedSimpArgs false
set_option linter.unusedVariables false
set_option linter.unnecessarySimpa false
set_option linter.deprecated false
namespace Go.Proofs.YtkeegnagpekgmaaGreat
theorem topBeaconHours_q10 : (Rows.topBeaconHoursRow.inPlace == Tryz.prog.inPlace 4) = true := by kernel_rfl
theorem topBeaconHours_q11 : (Rows.topBeaconHoursRow.unfollowed == Tryz.prog.unfollowed 4) = true := by kernel_rfl
theorem topBeaconHours_q12 : (Rows.topBeaconHoursRow.recurses == Tryz.prog.recurses 4) = true := by kernel_rfl
theorem topBeaconHours_q13 : (Rows.topBeaconHoursRow.named == Tryz.prog.varsNamed 4) = true := by kernel_rfl
theorem topBeaconHours_q1 : Rows.topBeaconHoursRow.wf (OpenSpec.ofChange Rows.topBeaconHoursSpec) = true := by kernel_rfl
theorem topBeaconHours_q4 : Tryz.f4.params.all (Tryz.prog.readableRec ·) = true := by kernel_rfl
theorem topBeaconHours_q5 : namedTie Tryz.prog Rows.topBeaconHoursRow.named Rows.topBeaconHoursSpec.vars = true := by kernel_rfl
theorem topBeaconHours_q14 : (Rows.topBeaconHoursRow.maps == (Tryz.f4.params.toList ++ Rows.topBeaconHoursSpec.plain.varTypes Tryz.prog).any (Tryz.prog.mapsRec ·)) = true := by kernel_rfl
theorem topBeaconHours_q15 : (Rows.topBeaconHoursRow.ifaces == (Tryz.f4.params.toList ++ Rows.topBeaconHoursSpec.plain.varTypes Tryz.prog).any (Tryz.prog.ifacesRec ·)) = true := by kernel_rfl
theorem topBeaconHours_q16 : (Rows.topBeaconHoursRow.mapsOut == Tryz.prog.mapsAmong Tryz.f4.resultTypes.toList) = true := by kernel_rfl
theorem topBeaconHours_q17 : (Rows.topBeaconHoursRow.loops == (Tryz.f4.params.toList ++ Rows.topBeaconHoursSpec.plain.varTypes Tryz.prog).any (Tryz.prog.loopsFrom ·)) = true := by kernel_rfl
theorem topBeaconHours_q17b : (Rows.topBeaconHoursRow.wideKeys == (Tryz.f4.params.toList ++ Rows.topBeaconHoursSpec.plain.varTypes Tryz.prog ++ Tryz.f4.resultTypes.toList).any (Tryz.prog.wideKeysFrom ·)) = true := by kernel_rfl
theorem topBeaconHours_q18 : Rows.topBeaconHoursSpec.vars.all (Tryz.prog.varReadable ·) = true := by kernel_rfl
theorem topBeaconHours_q19 : Tryz.f4.resultTypes.all (fun t => Tryz.prog.readableRec t && decide (t < Tryz.prog.types.size)) = true := by kernel_rfl
theorem topBeaconHours_q20 : (Rows.topBeaconHoursRow.ifacesOut == Tryz.f4.resultTypes.toList.any (Tryz.prog.ifacesRec ·)) = true := by kernel_rfl
theorem topBeaconHours_q21 : (Rows.topBeaconHoursRow.loopsOut == Tryz.f4.resultTypes.toList.any (Tryz.prog.loopsFrom ·)) = true := by kernel_rfl
theorem topBeaconHours_q23 : Rows.topBeaconHoursRow.shortTexts.isNone = true := by kernel_rfl
theorem topBeaconHours_q26 : (Rows.topBeaconHoursRow.pinned == Rows.topBeaconHoursRow.pinnedBy) = true := by kernel_rfl
theorem topBeaconHours_q27 : (Rows.topBeaconHoursRow.veiled == (Tryz.f4.params.toList ++ Rows.topBeaconHoursSpec.plain.varTypes Tryz.prog ++ Tryz.f4.resultTypes.toList).any (Tryz.prog.veiledRec ·)) = true := by kernel_rfl
theorem topBeaconHours_q28 : Rows.topBeaconHoursRow.veiledFits Tryz.prog Tryz.f4.params.toList (Tryz.f4.params.toList ++ Rows.topBeaconHoursSpec.plain.varTypes Tryz.prog ++ Tryz.f4.resultTypes.toList) = true := by kernel_rfl
theorem topBeaconHours_p22 : (Rows.topBeaconHoursRow.plainKeys == Tryz.prog.plainKeys) = true := by kernel_rfl
theorem topBeaconHours_p24b : (Rows.topBeaconHoursRow.lifted == Tryz.prog.liftsFinal) = true := by kernel_rfl
theorem topBeaconHours_p24c : (Tryz.prog.make == some Rows.topBeaconHoursRow.make) = true := by kernel_rfl
theorem inst4 : Tryz.f4.isInstance Tryz.prog Rows.topBeaconHoursRow.origin Rows.topBeaconHoursRow.targs := of_decide_eq_true (by kernel_rfl)
theorem wrap4 : Tryz.f4.isWrapper Tryz.prog Rows.topBeaconHoursRow.wrapper Rows.topBeaconHoursRow.mainSum := by unfold Func.isWrapper; first | (rw [if_pos (by decide +kernel)]; kernel_rfl) | (rw [if_neg (by decide +kernel)]; exact ⟨rfl, rfl⟩)
theorem named4 : Tryz.prog.funcNamed Rows.topBeaconHoursRow.func = some 4 := by kernel_rfl
theorem closed4 : joinedFacts Tryz.prog 4 Tryz.f4 Rows.topBeaconHoursSpec Rows.topBeaconHoursRow = true :=
 joinedFacts_mk topBeaconHours_q1 p2 p3 topBeaconHours_q4 topBeaconHours_q5 rfl p7 rfl p9 topBeaconHours_q10 topBeaconHours_q11 topBeaconHours_q12 topBeaconHours_q13 topBeaconHours_q14 topBeaconHours_q15 topBeaconHours_q16 topBeaconHours_q17 topBeaconHours_q17b topBeaconHours_q18 topBeaconHours_q19 topBeaconHours_q20 topBeaconHours_q21 topBeaconHours_p22 topBeaconHours_q23 p23b p24 topBeaconHours_p24b topBeaconHours_p24c (by kernel_rfl) topBeaconHours_q26 topBeaconHours_q27 topBeaconHours_q28
end Go.Proofs.YtkeegnagpekgmaaGreat
