/-
  What is proved: closed facts of the row.
-/
import Derived.Test.YtkeegnagpekgmaaDoorVrB2
set_option linter.unusedSectionVars false
set_option linter.unusedSimpArgs false
set_option linter.unusedVariables false
set_option linter.unnecessarySimpa false
set_option linter.deprecated false
namespace Go.Proofs.YtkeegnagpekgmaaDoor
theorem topBeaconSeasons_q10 : (Rows.topBeaconSeasonsRow.inPlace == Tryd.prog.inPlace 3) = true := by kernel_rfl
theorem topBeaconSeasons_q11 : (Rows.topBeaconSeasonsRow.unfollowed == Tryd.prog.unfollowed 3) = true := by kernel_rfl
theorem topBeaconSeasons_q12 : (Rows.topBeaconSeasonsRow.recurses == Tryd.prog.recurses 3) = true := by kernel_rfl
theorem topBeaconSeasons_q13 : (Rows.topBeaconSeasonsRow.named == Tryd.prog.varsNamed 3) = true := by kernel_rfl
theorem topBeaconSeasons_q1 : Rows.topBeaconSeasonsRow.wf (OpenSpec.ofChange Rows.topBeaconSeasonsSpec) = true := by kernel_rfl
theorem topBeaconSeasons_q4 : Tryd.f3.params.all (Tryd.prog.readableRec ·) = true := by kernel_rfl
theorem topBeaconSeasons_q5 : namedTie Tryd.prog Rows.topBeaconSeasonsRow.named Rows.topBeaconSeasonsSpec.vars = true := by kernel_rfl
theorem topBeaconSeasons_q14 : (Rows.topBeaconSeasonsRow.maps == (Tryd.f3.params.toList ++ Rows.topBeaconSeasonsSpec.plain.varTypes Tryd.prog).any (Tryd.prog.mapsRec ·)) = true := by kernel_rfl
theorem topBeaconSeasons_q15 : (Rows.topBeaconSeasonsRow.ifaces == (Tryd.f3.params.toList ++ Rows.topBeaconSeasonsSpec.plain.varTypes Tryd.prog).any (Tryd.prog.ifacesRec ·)) = true := by kernel_rfl
theorem topBeaconSeasons_q16 : (Rows.topBeaconSeasonsRow.mapsOut == Tryd.prog.mapsAmong Tryd.f3.resultTypes.toList) = true := by kernel_rfl
theorem topBeaconSeasons_q17 : (Rows.topBeaconSeasonsRow.loops == (Tryd.f3.params.toList ++ Rows.topBeaconSeasonsSpec.plain.varTypes Tryd.prog).any (Tryd.prog.loopsFrom ·)) = true := by kernel_rfl
theorem topBeaconSeasons_q17b : (Rows.topBeaconSeasonsRow.wideKeys == (Tryd.f3.params.toList ++ Rows.topBeaconSeasonsSpec.plain.varTypes Tryd.prog ++ Tryd.f3.resultTypes.toList).any (Tryd.prog.wideKeysFrom ·)) = true := by kernel_rfl
theorem topBeaconSeasons_q18 : Rows.topBeaconSeasonsSpec.vars.all (Tryd.prog.varReadable ·) = true := by kernel_rfl
theorem topBeaconSeasons_q19 : Tryd.f3.resultTypes.all (fun t => Tryd.prog.readableRec t && decide (t < Tryd.prog.types.size)) = true := by kernel_rfl
theorem topBeaconSeasons_q20 : (Rows.topBeaconSeasonsRow.ifacesOut == Tryd.f3.resultTypes.toList.any (Tryd.prog.ifacesRec ·)) = true := by kernel_rfl
theorem topBeaconSeasons_q21 : (Rows.topBeaconSeasonsRow.loopsOut == Tryd.f3.resultTypes.toList.any (Tryd.prog.loopsFrom ·)) = true := by kernel_rfl
theorem topBeaconSeasons_q23 : Rows.topBeaconSeasonsRow.shortTexts.isNone = true := by kernel_rfl
theorem topBeaconSeasons_q26 : (Rows.topBeaconSeasonsRow.pinned == Rows.topBeaconSeasonsRow.pinnedBy) = true := by kernel_rfl
theorem topBeaconSeasons_q27 : (Rows.topBeaconSeasonsRow.veiled == (Tryd.f3.params.toList ++ Rows.topBeaconSeasonsSpec.plain.varTypes Tryd.prog ++ Tryd.f3.resultTypes.toList).any (Tryd.prog.veiledRec ·)) = true := by kernel_rfl
theorem topBeaconSeasons_q28 : Rows.topBeaconSeasonsRow.veiledFits Tryd.prog Tryd.f3.params.toList (Tryd.f3.params.toList ++ Rows.topBeaconSeasonsSpec.plain.varTypes Tryd.prog ++ Tryd.f3.resultTypes.toList) = true := by kernel_rfl
theorem topBeaconSeasons_p22 : (Rows.topBeaconSeasonsRow.plainKeys == Tryd.prog.plainKeys) = true := by kernel_rfl
theorem topBeaconSeasons_p24b : (Rows.topBeaconSeasonsRow.lifted == Tryd.prog.liftsFinal) = true := by kernel_rfl
theorem topBeaconSeasons_p24c : (Tryd.prog.make == some Rows.topBeaconSeasonsRow.make) = true := by kernel_rfl
theorem inst3 : Tryd.f3.isInstance Tryd.prog Rows.topBeaconSeasonsRow.origin Rows.topBeaconSeasonsRow.targs := of_decide_eq_true (by kernel_rfl)
theorem wrap3 : Tryd.f3.isWrapper Tryd.prog Rows.topBeaconSeasonsRow.wrapper Rows.topBeaconSeasonsRow.mainSum := by unfold Func.isWrapper; first | (rw [if_pos (by decide +kernel)]; kernel_rfl) | (rw [if_neg (by decide +kernel)]; exact ⟨rfl, rfl⟩)
theorem named3 : Tryd.prog.funcNamed Rows.topBeaconSeasonsRow.func = some 3 := by kernel_rfl
theorem closed3 : joinedFacts Tryd.prog 3 Tryd.f3 Rows.topBeaconSeasonsSpec Rows.topBeaconSeasonsRow = true :=
 joinedFacts_mk topBeaconSeasons_q1 p2 p3 topBeaconSeasons_q4 topBeaconSeasons_q5 rfl p7 rfl p9 topBeaconSeasons_q10 topBeaconSeasons_q11 topBeaconSeasons_q12 topBeaconSeasons_q13 topBeaconSeasons_q14 topBeaconSeasons_q15 topBeaconSeasons_q16 topBeaconSeasons_q17 topBeaconSeasons_q17b topBeaconSeasons_q18 topBeaconSeasons_q19 topBeaconSeasons_q20 topBeaconSeasons_q21 topBeaconSeasons_p22 topBeaconSeasons_q23 p23b p24 topBeaconSeasons_p24b topBeaconSeasons_p24c (by kernel_rfl) topBeaconSeasons_q26 topBeaconSeasons_q27 topBeaconSeasons_q28
end Go.Proofs.YtkeegnagpekgmaaDoor
