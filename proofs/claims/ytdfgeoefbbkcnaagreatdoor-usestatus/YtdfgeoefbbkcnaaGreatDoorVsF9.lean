/-
  What is proved: closed facts of the row of UseStatus.
-/
import Derived.Test.YtdfgeoefbbkcnaaGreatDoorVaB2
set_option linter.unusedSectionVars false
set_option linter.unusedSimpArgs false
set_option linter.unusedVariables false
set_option linter.unnecessarySimpa false
set_option linter.deprecated false
namespace Go.Proofs.YtdfgeoefbbkcnaaGreatDoor
theorem useStatus_q10 : (Rows.useStatusRow.inPlace == Tryz.prog.inPlace 9) = true := by kernel_rfl
theorem useStatus_q11 : (Rows.useStatusRow.unfollowed == Tryz.prog.unfollowed 9) = true := by kernel_rfl
theorem useStatus_q12 : (Rows.useStatusRow.recurses == Tryz.prog.recurses 9) = true := by kernel_rfl
theorem useStatus_q13 : (Rows.useStatusRow.named == Tryz.prog.varsNamed 9) = true := by kernel_rfl
theorem useStatus_q1 : Rows.useStatusRow.wf (OpenSpec.ofChange Rows.useStatusSpec) = true := by kernel_rfl
theorem useStatus_q4 : Tryz.f9.params.all (Tryz.prog.readableRec ·) = true := by kernel_rfl
theorem useStatus_q5 : namedTie Tryz.prog Rows.useStatusRow.named Rows.useStatusSpec.vars = true := by kernel_rfl
theorem useStatus_q14 : (Rows.useStatusRow.maps == (Tryz.f9.params.toList ++ Rows.useStatusSpec.plain.varTypes Tryz.prog).any (Tryz.prog.mapsRec ·)) = true := by kernel_rfl
theorem useStatus_q15 : (Rows.useStatusRow.ifaces == (Tryz.f9.params.toList ++ Rows.useStatusSpec.plain.varTypes Tryz.prog).any (Tryz.prog.ifacesRec ·)) = true := by kernel_rfl
theorem useStatus_q16 : (Rows.useStatusRow.mapsOut == Tryz.prog.mapsAmong Tryz.f9.resultTypes.toList) = true := by kernel_rfl
theorem useStatus_q17 : (Rows.useStatusRow.loops == (Tryz.f9.params.toList ++ Rows.useStatusSpec.plain.varTypes Tryz.prog).any (Tryz.prog.loopsFrom ·)) = true := by kernel_rfl
theorem useStatus_q17b : (Rows.useStatusRow.wideKeys == (Tryz.f9.params.toList ++ Rows.useStatusSpec.plain.varTypes Tryz.prog ++ Tryz.f9.resultTypes.toList).any (Tryz.prog.wideKeysFrom ·)) = true := by kernel_rfl
theorem useStatus_q18 : Rows.useStatusSpec.vars.all (Tryz.prog.varReadable ·) = true := by kernel_rfl
theorem useStatus_q19 : Tryz.f9.resultTypes.all (fun t => Tryz.prog.readableRec t && decide (t < Tryz.prog.types.size)) = true := by kernel_rfl
theorem useStatus_q20 : (Rows.useStatusRow.ifacesOut == Tryz.f9.resultTypes.toList.any (Tryz.prog.ifacesRec ·)) = true := by kernel_rfl
theorem useStatus_q21 : (Rows.useStatusRow.loopsOut == Tryz.f9.resultTypes.toList.any (Tryz.prog.loopsFrom ·)) = true := by kernel_rfl
theorem useStatus_q23 : Rows.useStatusRow.shortTexts.isNone = true := by kernel_rfl
theorem useStatus_q26 : (Rows.useStatusRow.pinned == Rows.useStatusRow.pinnedBy) = true := by kernel_rfl
theorem useStatus_q27 : (Rows.useStatusRow.veiled == (Tryz.f9.params.toList ++ Rows.useStatusSpec.plain.varTypes Tryz.prog ++ Tryz.f9.resultTypes.toList).any (Tryz.prog.veiledRec ·)) = true := by kernel_rfl
theorem useStatus_q28 : Rows.useStatusRow.veiledFits Tryz.prog Tryz.f9.params.toList (Tryz.f9.params.toList ++ Rows.useStatusSpec.plain.varTypes Tryz.prog ++ Tryz.f9.resultTypes.toList) = true := by kernel_rfl
theorem useStatus_p22 : (Rows.useStatusRow.plainKeys == Tryz.prog.plainKeys) = true := by kernel_rfl
theorem useStatus_p24b : (Rows.useStatusRow.lifted == Tryz.prog.liftsFinal) = true := by kernel_rfl
theorem useStatus_p24c : (Tryz.prog.make == some Rows.useStatusRow.make) = true := by kernel_rfl
theorem inst9 : Tryz.f9.isInstance Tryz.prog Rows.useStatusRow.origin Rows.useStatusRow.targs := of_decide_eq_true (by kernel_rfl)
theorem wrap9 : Tryz.f9.isWrapper Tryz.prog Rows.useStatusRow.wrapper Rows.useStatusRow.mainSum := by unfold Func.isWrapper; first | (rw [if_pos (by decide +kernel)]; kernel_rfl) | (rw [if_neg (by decide +kernel)]; exact ⟨rfl, rfl⟩)
theorem named9 : Tryz.prog.funcNamed Rows.useStatusRow.func = some 9 := by kernel_rfl
theorem closed9 : joinedFacts Tryz.prog 9 Tryz.f9 Rows.useStatusSpec Rows.useStatusRow = true :=
  joinedFacts_mk useStatus_q1 p2 p3 useStatus_q4 useStatus_q5 rfl p7 rfl p9 useStatus_q10 useStatus_q11 useStatus_q12 useStatus_q13 useStatus_q14 useStatus_q15 useStatus_q16 useStatus_q17 useStatus_q17b useStatus_q18 useStatus_q19 useStatus_q20 useStatus_q21 useStatus_p22 useStatus_q23 p23b p24 useStatus_p24b useStatus_p24c (by kernel_rfl) useStatus_q26 useStatus_q27 useStatus_q28
end Go.Proofs.YtdfgeoefbbkcnaaGreatDoor

