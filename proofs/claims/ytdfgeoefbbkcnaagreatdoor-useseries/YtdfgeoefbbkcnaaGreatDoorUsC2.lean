/-
  What is proved: closed facts of the row of UseSeries.
-/
import Derived.Test.YtdfgeoefbbkcnaaGreatDoorUcB2
set_option linter.unusedSectionVars false
set_option linter.unusedSimpArgs false
set_option linter.unusedVariables false
set_option linter.unnecessarySimpa false
set_option linter.deprecated false
namespace Go.Proofs.YtdfgeoefbbkcnaaGreatDoor
theorem useSeries_q10 : (Rows.useSeriesRow.inPlace == Tryz.prog.inPlace 4) = true := by kernel_rfl
theorem useSeries_q11 : (Rows.useSeriesRow.unfollowed == Tryz.prog.unfollowed 4) = true := by kernel_rfl
theorem useSeries_q12 : (Rows.useSeriesRow.recurses == Tryz.prog.recurses 4) = true := by kernel_rfl
theorem useSeries_q13 : (Rows.useSeriesRow.named == Tryz.prog.varsNamed 4) = true := by kernel_rfl
theorem useSeries_q1 : Rows.useSeriesRow.wf (OpenSpec.ofChange Rows.useSeriesSpec) = true := by kernel_rfl
theorem useSeries_q4 : Tryz.f4.params.all (Tryz.prog.readableRec ·) = true := by kernel_rfl
theorem useSeries_q5 : namedTie Tryz.prog Rows.useSeriesRow.named Rows.useSeriesSpec.vars = true := by kernel_rfl
theorem useSeries_q14 : (Rows.useSeriesRow.maps == (Tryz.f4.params.toList ++ Rows.useSeriesSpec.plain.varTypes Tryz.prog).any (Tryz.prog.mapsRec ·)) = true := by kernel_rfl
theorem useSeries_q15 : (Rows.useSeriesRow.ifaces == (Tryz.f4.params.toList ++ Rows.useSeriesSpec.plain.varTypes Tryz.prog).any (Tryz.prog.ifacesRec ·)) = true := by kernel_rfl
theorem useSeries_q16 : (Rows.useSeriesRow.mapsOut == Tryz.prog.mapsAmong Tryz.f4.resultTypes.toList) = true := by kernel_rfl
theorem useSeries_q17 : (Rows.useSeriesRow.loops == (Tryz.f4.params.toList ++ Rows.useSeriesSpec.plain.varTypes Tryz.prog).any (Tryz.prog.loopsFrom ·)) = true := by kernel_rfl
theorem useSeries_q17b : (Rows.useSeriesRow.wideKeys == (Tryz.f4.params.toList ++ Rows.useSeriesSpec.plain.varTypes Tryz.prog ++ Tryz.f4.resultTypes.toList).any (Tryz.prog.wideKeysFrom ·)) = true := by kernel_rfl
theorem useSeries_q18 : Rows.useSeriesSpec.vars.all (Tryz.prog.varReadable ·) = true := by kernel_rfl
theorem useSeries_q19 : Tryz.f4.resultTypes.all (fun t => Tryz.prog.readableRec t && decide (t < Tryz.prog.types.size)) = true := by kernel_rfl
theorem useSeries_q20 : (Rows.useSeriesRow.ifacesOut == Tryz.f4.resultTypes.toList.any (Tryz.prog.ifacesRec ·)) = true := by kernel_rfl
theorem useSeries_q21 : (Rows.useSeriesRow.loopsOut == Tryz.f4.resultTypes.toList.any (Tryz.prog.loopsFrom ·)) = true := by kernel_rfl
theorem useSeries_q23 : Rows.useSeriesRow.shortTexts.isNone = true := by kernel_rfl
theorem useSeries_q26 : (Rows.useSeriesRow.pinned == Rows.useSeriesRow.pinnedBy) = true := by kernel_rfl
theorem useSeries_q27 : (Rows.useSeriesRow.veiled == (Tryz.f4.params.toList ++ Rows.useSeriesSpec.plain.varTypes Tryz.prog ++ Tryz.f4.resultTypes.toList).any (Tryz.prog.veiledRec ·)) = true := by kernel_rfl
theorem useSeries_q28 : Rows.useSeriesRow.veiledFits Tryz.prog Tryz.f4.params.toList (Tryz.f4.params.toList ++ Rows.useSeriesSpec.plain.varTypes Tryz.prog ++ Tryz.f4.resultTypes.toList) = true := by kernel_rfl
theorem useSeries_p22 : (Rows.useSeriesRow.plainKeys == Tryz.prog.plainKeys) = true := by kernel_rfl
theorem useSeries_p24b : (Rows.useSeriesRow.lifted == Tryz.prog.liftsFinal) = true := by kernel_rfl
theorem useSeries_p24c : (Tryz.prog.make == some Rows.useSeriesRow.make) = true := by kernel_rfl
theorem inst4 : Tryz.f4.isInstance Tryz.prog Rows.useSeriesRow.origin Rows.useSeriesRow.targs := of_decide_eq_true (by kernel_rfl)
theorem wrap4 : Tryz.f4.isWrapper Tryz.prog Rows.useSeriesRow.wrapper Rows.useSeriesRow.mainSum := by unfold Func.isWrapper; first | (rw [if_pos (by decide +kernel)]; kernel_rfl) | (rw [if_neg (by decide +kernel)]; exact ⟨rfl, rfl⟩)
theorem named4 : Tryz.prog.funcNamed Rows.useSeriesRow.func = some 4 := by kernel_rfl
theorem closed4 : joinedFacts Tryz.prog 4 Tryz.f4 Rows.useSeriesSpec Rows.useSeriesRow = true :=
  joinedFacts_mk useSeries_q1 p2 p3 useSeries_q4 useSeries_q5 rfl p7 rfl p9 useSeries_q10 useSeries_q11 useSeries_q12 useSeries_q13 useSeries_q14 useSeries_q15 useSeries_q16 useSeries_q17 useSeries_q17b useSeries_q18 useSeries_q19 useSeries_q20 useSeries_q21 useSeries_p22 useSeries_q23 p23b p24 useSeries_p24b useSeries_p24c (by kernel_rfl) useSeries_q26 useSeries_q27 useSeries_q28
end Go.Proofs.YtdfgeoefbbkcnaaGreatDoor

