/-
  What is proved: closed facts of the row.
-/
import Derived.Test.YthhidpjikbhljaaGreatDoorVrB4
set_option linter.unusedSectionVars false
set_option linter.unusedSimpArgs false
set_option linter.unusedVariables false
set_option linter.unnecessarySimpa false
set_option linter.deprecated false
namespace Go.Proofs.YthhidpjikbhljaaGreatDoor
theorem groundSums_q10 : (Rows.groundSumsRow.inPlace == Tryz.prog.inPlace 9) = true := by kernel_rfl
theorem groundSums_q11 : (Rows.groundSumsRow.unfollowed == Tryz.prog.unfollowed 9) = true := by kernel_rfl
theorem groundSums_q12 : (Rows.groundSumsRow.recurses == Tryz.prog.recurses 9) = true := by kernel_rfl
theorem groundSums_q13 : (Rows.groundSumsRow.named == Tryz.prog.varsNamed 9) = true := by kernel_rfl
theorem groundSums_q1 : Rows.groundSumsRow.wf (OpenSpec.ofChange Rows.groundSumsSpec) = true := by kernel_rfl
theorem groundSums_q4 : Tryz.f9.params.all (Tryz.prog.readableRec ·) = true := by kernel_rfl
theorem groundSums_q5 : namedTie Tryz.prog Rows.groundSumsRow.named Rows.groundSumsSpec.vars = true := by kernel_rfl
theorem groundSums_q14 : (Rows.groundSumsRow.maps == (Tryz.f9.params.toList ++ Rows.groundSumsSpec.plain.varTypes Tryz.prog).any (Tryz.prog.mapsRec ·)) = true := by kernel_rfl
theorem groundSums_q15 : (Rows.groundSumsRow.ifaces == (Tryz.f9.params.toList ++ Rows.groundSumsSpec.plain.varTypes Tryz.prog).any (Tryz.prog.ifacesRec ·)) = true := by kernel_rfl
theorem groundSums_q16 : (Rows.groundSumsRow.mapsOut == Tryz.prog.mapsAmong Tryz.f9.resultTypes.toList) = true := by kernel_rfl
theorem groundSums_q17 : (Rows.groundSumsRow.loops == (Tryz.f9.params.toList ++ Rows.groundSumsSpec.plain.varTypes Tryz.prog).any (Tryz.prog.loopsFrom ·)) = true := by kernel_rfl
theorem groundSums_q17b : (Rows.groundSumsRow.wideKeys == (Tryz.f9.params.toList ++ Rows.groundSumsSpec.plain.varTypes Tryz.prog ++ Tryz.f9.resultTypes.toList).any (Tryz.prog.wideKeysFrom ·)) = true := by kernel_rfl
theorem groundSums_q18 : Rows.groundSumsSpec.vars.all (Tryz.prog.varReadable ·) = true := by kernel_rfl
theorem groundSums_q19 : Tryz.f9.resultTypes.all (fun t => Tryz.prog.readableRec t && decide (t < Tryz.prog.types.size)) = true := by kernel_rfl
theorem groundSums_q20 : (Rows.groundSumsRow.ifacesOut == Tryz.f9.resultTypes.toList.any (Tryz.prog.ifacesRec ·)) = true := by kernel_rfl
theorem groundSums_q21 : (Rows.groundSumsRow.loopsOut == Tryz.f9.resultTypes.toList.any (Tryz.prog.loopsFrom ·)) = true := by kernel_rfl
theorem groundSums_q23 : Rows.groundSumsRow.shortTexts.isNone = true := by kernel_rfl
theorem groundSums_q26 : (Rows.groundSumsRow.pinned == Rows.groundSumsRow.pinnedBy) = true := by kernel_rfl
theorem groundSums_q27 : (Rows.groundSumsRow.veiled == (Tryz.f9.params.toList ++ Rows.groundSumsSpec.plain.varTypes Tryz.prog ++ Tryz.f9.resultTypes.toList).any (Tryz.prog.veiledRec ·)) = true := by kernel_rfl
theorem groundSums_q28 : Rows.groundSumsRow.veiledFits Tryz.prog Tryz.f9.params.toList (Tryz.f9.params.toList ++ Rows.groundSumsSpec.plain.varTypes Tryz.prog ++ Tryz.f9.resultTypes.toList) = true := by kernel_rfl
theorem groundSums_p22 : (Rows.groundSumsRow.plainKeys == Tryz.prog.plainKeys) = true := by kernel_rfl
theorem groundSums_p24b : (Rows.groundSumsRow.lifted == Tryz.prog.liftsFinal) = true := by kernel_rfl
theorem groundSums_p24c : (Tryz.prog.make == some Rows.groundSumsRow.make) = true := by kernel_rfl
theorem inst9 : Tryz.f9.isInstance Tryz.prog Rows.groundSumsRow.origin Rows.groundSumsRow.targs := of_decide_eq_true (by kernel_rfl)
theorem wrap9 : Tryz.f9.isWrapper Tryz.prog Rows.groundSumsRow.wrapper Rows.groundSumsRow.mainSum := by unfold Func.isWrapper; first | (rw [if_pos (by decide +kernel)]; kernel_rfl) | (rw [if_neg (by decide +kernel)]; exact ⟨rfl, rfl⟩)
theorem named9 : Tryz.prog.funcNamed Rows.groundSumsRow.func = some 9 := by kernel_rfl
theorem closed9 : joinedFacts Tryz.prog 9 Tryz.f9 Rows.groundSumsSpec Rows.groundSumsRow = true :=
 joinedFacts_mk groundSums_q1 p2 p3 groundSums_q4 groundSums_q5 rfl p7 rfl p9 groundSums_q10 groundSums_q11 groundSums_q12 groundSums_q13 groundSums_q14 groundSums_q15 groundSums_q16 groundSums_q17 groundSums_q17b groundSums_q18 groundSums_q19 groundSums_q20 groundSums_q21 groundSums_p22 groundSums_q23 p23b p24 groundSums_p24b groundSums_p24c (by kernel_rfl) groundSums_q26 groundSums_q27 groundSums_q28
end Go.Proofs.YthhidpjikbhljaaGreatDoor
