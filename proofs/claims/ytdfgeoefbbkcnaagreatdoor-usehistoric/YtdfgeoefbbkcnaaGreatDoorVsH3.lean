/-
  What is proved: closed facts of the row of UseHistoric.
-/
import Derived.Test.YtdfgeoefbbkcnaaGreatDoorVaB2
set_option linter.unusedSectionVars false
set_option linter.unusedSimpArgs false
set_option linter.unusedVariables false
set_option linter.unnecessarySimpa false
set_option linter.deprecated false
namespace Go.Proofs.YtdfgeoefbbkcnaaGreatDoor
theorem useHistoric_q10 : (Rows.useHistoricRow.inPlace == Tryz.prog.inPlace 6) = true := by kernel_rfl
theorem useHistoric_q11 : (Rows.useHistoricRow.unfollowed == Tryz.prog.unfollowed 6) = true := by kernel_rfl
theorem useHistoric_q12 : (Rows.useHistoricRow.recurses == Tryz.prog.recurses 6) = true := by kernel_rfl
theorem useHistoric_q13 : (Rows.useHistoricRow.named == Tryz.prog.varsNamed 6) = true := by kernel_rfl
theorem useHistoric_q1 : Rows.useHistoricRow.wf (OpenSpec.ofChange Rows.useHistoricSpec) = true := by kernel_rfl
theorem useHistoric_q4 : Tryz.f6.params.all (Tryz.prog.readableRec ·) = true := by kernel_rfl
theorem useHistoric_q5 : namedTie Tryz.prog Rows.useHistoricRow.named Rows.useHistoricSpec.vars = true := by kernel_rfl
theorem useHistoric_q14 : (Rows.useHistoricRow.maps == (Tryz.f6.params.toList ++ Rows.useHistoricSpec.plain.varTypes Tryz.prog).any (Tryz.prog.mapsRec ·)) = true := by kernel_rfl
theorem useHistoric_q15 : (Rows.useHistoricRow.ifaces == (Tryz.f6.params.toList ++ Rows.useHistoricSpec.plain.varTypes Tryz.prog).any (Tryz.prog.ifacesRec ·)) = true := by kernel_rfl
theorem useHistoric_q16 : (Rows.useHistoricRow.mapsOut == Tryz.prog.mapsAmong Tryz.f6.resultTypes.toList) = true := by kernel_rfl
theorem useHistoric_q17 : (Rows.useHistoricRow.loops == (Tryz.f6.params.toList ++ Rows.useHistoricSpec.plain.varTypes Tryz.prog).any (Tryz.prog.loopsFrom ·)) = true := by kernel_rfl
theorem useHistoric_q17b : (Rows.useHistoricRow.wideKeys == (Tryz.f6.params.toList ++ Rows.useHistoricSpec.plain.varTypes Tryz.prog ++ Tryz.f6.resultTypes.toList).any (Tryz.prog.wideKeysFrom ·)) = true := by kernel_rfl
theorem useHistoric_q18 : Rows.useHistoricSpec.vars.all (Tryz.prog.varReadable ·) = true := by kernel_rfl
theorem useHistoric_q19 : Tryz.f6.resultTypes.all (fun t => Tryz.prog.readableRec t && decide (t < Tryz.prog.types.size)) = true := by kernel_rfl
theorem useHistoric_q20 : (Rows.useHistoricRow.ifacesOut == Tryz.f6.resultTypes.toList.any (Tryz.prog.ifacesRec ·)) = true := by kernel_rfl
theorem useHistoric_q21 : (Rows.useHistoricRow.loopsOut == Tryz.f6.resultTypes.toList.any (Tryz.prog.loopsFrom ·)) = true := by kernel_rfl
theorem useHistoric_q23 : Rows.useHistoricRow.shortTexts.isNone = true := by kernel_rfl
theorem useHistoric_q26 : (Rows.useHistoricRow.pinned == Rows.useHistoricRow.pinnedBy) = true := by kernel_rfl
theorem useHistoric_q27 : (Rows.useHistoricRow.veiled == (Tryz.f6.params.toList ++ Rows.useHistoricSpec.plain.varTypes Tryz.prog ++ Tryz.f6.resultTypes.toList).any (Tryz.prog.veiledRec ·)) = true := by kernel_rfl
theorem useHistoric_q28 : Rows.useHistoricRow.veiledFits Tryz.prog Tryz.f6.params.toList (Tryz.f6.params.toList ++ Rows.useHistoricSpec.plain.varTypes Tryz.prog ++ Tryz.f6.resultTypes.toList) = true := by kernel_rfl
theorem useHistoric_p22 : (Rows.useHistoricRow.plainKeys == Tryz.prog.plainKeys) = true := by kernel_rfl
theorem useHistoric_p24b : (Rows.useHistoricRow.lifted == Tryz.prog.liftsFinal) = true := by kernel_rfl
theorem useHistoric_p24c : (Tryz.prog.make == some Rows.useHistoricRow.make) = true := by kernel_rfl
theorem inst6 : Tryz.f6.isInstance Tryz.prog Rows.useHistoricRow.origin Rows.useHistoricRow.targs := of_decide_eq_true (by kernel_rfl)
theorem wrap6 : Tryz.f6.isWrapper Tryz.prog Rows.useHistoricRow.wrapper Rows.useHistoricRow.mainSum := by unfold Func.isWrapper; first | (rw [if_pos (by decide +kernel)]; kernel_rfl) | (rw [if_neg (by decide +kernel)]; exact ⟨rfl, rfl⟩)
theorem named6 : Tryz.prog.funcNamed Rows.useHistoricRow.func = some 6 := by kernel_rfl
theorem closed6 : joinedFacts Tryz.prog 6 Tryz.f6 Rows.useHistoricSpec Rows.useHistoricRow = true :=
  joinedFacts_mk useHistoric_q1 p2 p3 useHistoric_q4 useHistoric_q5 rfl p7 rfl p9 useHistoric_q10 useHistoric_q11 useHistoric_q12 useHistoric_q13 useHistoric_q14 useHistoric_q15 useHistoric_q16 useHistoric_q17 useHistoric_q17b useHistoric_q18 useHistoric_q19 useHistoric_q20 useHistoric_q21 useHistoric_p22 useHistoric_q23 p23b p24 useHistoric_p24b useHistoric_p24c (by kernel_rfl) useHistoric_q26 useHistoric_q27 useHistoric_q28
end Go.Proofs.YtdfgeoefbbkcnaaGreatDoor

