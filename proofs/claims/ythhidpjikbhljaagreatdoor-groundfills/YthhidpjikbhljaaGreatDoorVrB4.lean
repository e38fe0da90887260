/-
  What is proved: closed facts of the row.
-/
import Derived.Test.YthhidpjikbhljaaGreatDoorVrB3
set_option linter.unusedSectionVars false
set_option linter.unusedSimpArgs false
set_option linter.unusedVariables false
set_option linter.unnecessarySimpa false
set_option linter.deprecated false
namespace Go.Proofs.YthhidpjikbhljaaGreatDoor
theorem groundFills_q10 : (Rows.groundFillsRow.inPlace == Tryz.prog.inPlace 8) = true := by kernel_rfl
theorem groundFills_q11 : (Rows.groundFillsRow.unfollowed == Tryz.prog.unfollowed 8) = true := by kernel_rfl
theorem groundFills_q12 : (Rows.groundFillsRow.recurses == Tryz.prog.recurses 8) = true := by kernel_rfl
theorem groundFills_q13 : (Rows.groundFillsRow.named == Tryz.prog.varsNamed 8) = true := by kernel_rfl
theorem groundFills_q1 : Rows.groundFillsRow.wf (OpenSpec.ofChange Rows.groundFillsSpec) = true := by kernel_rfl
theorem groundFills_q4 : Tryz.f8.params.all (Tryz.prog.readableRec ·) = true := by kernel_rfl
theorem groundFills_q5 : namedTie Tryz.prog Rows.groundFillsRow.named Rows.groundFillsSpec.vars = true := by kernel_rfl
theorem groundFills_q14 : (Rows.groundFillsRow.maps == (Tryz.f8.params.toList ++ Rows.groundFillsSpec.plain.varTypes Tryz.prog).any (Tryz.prog.mapsRec ·)) = true := by kernel_rfl
theorem groundFills_q15 : (Rows.groundFillsRow.ifaces == (Tryz.f8.params.toList ++ Rows.groundFillsSpec.plain.varTypes Tryz.prog).any (Tryz.prog.ifacesRec ·)) = true := by kernel_rfl
theorem groundFills_q16 : (Rows.groundFillsRow.mapsOut == Tryz.prog.mapsAmong Tryz.f8.resultTypes.toList) = true := by kernel_rfl
theorem groundFills_q17 : (Rows.groundFillsRow.loops == (Tryz.f8.params.toList ++ Rows.groundFillsSpec.plain.varTypes Tryz.prog).any (Tryz.prog.loopsFrom ·)) = true := by kernel_rfl
theorem groundFills_q17b : (Rows.groundFillsRow.wideKeys == (Tryz.f8.params.toList ++ Rows.groundFillsSpec.plain.varTypes Tryz.prog ++ Tryz.f8.resultTypes.toList).any (Tryz.prog.wideKeysFrom ·)) = true := by kernel_rfl
theorem groundFills_q18 : Rows.groundFillsSpec.vars.all (Tryz.prog.varReadable ·) = true := by kernel_rfl
theorem groundFills_q19 : Tryz.f8.resultTypes.all (fun t => Tryz.prog.readableRec t && decide (t < Tryz.prog.types.size)) = true := by kernel_rfl
theorem groundFills_q20 : (Rows.groundFillsRow.ifacesOut == Tryz.f8.resultTypes.toList.any (Tryz.prog.ifacesRec ·)) = true := by kernel_rfl
theorem groundFills_q21 : (Rows.groundFillsRow.loopsOut == Tryz.f8.resultTypes.toList.any (Tryz.prog.loopsFrom ·)) = true := by kernel_rfl
theorem groundFills_q23 : Rows.groundFillsRow.shortTexts.isNone = true := by kernel_rfl
theorem groundFills_q26 : (Rows.groundFillsRow.pinned == Rows.groundFillsRow.pinnedBy) = true := by kernel_rfl
theorem groundFills_q27 : (Rows.groundFillsRow.veiled == (Tryz.f8.params.toList ++ Rows.groundFillsSpec.plain.varTypes Tryz.prog ++ Tryz.f8.resultTypes.toList).any (Tryz.prog.veiledRec ·)) = true := by kernel_rfl
theorem groundFills_q28 : Rows.groundFillsRow.veiledFits Tryz.prog Tryz.f8.params.toList (Tryz.f8.params.toList ++ Rows.groundFillsSpec.plain.varTypes Tryz.prog ++ Tryz.f8.resultTypes.toList) = true := by kernel_rfl
theorem groundFills_p22 : (Rows.groundFillsRow.plainKeys == Tryz.prog.plainKeys) = true := by kernel_rfl
theorem groundFills_p24b : (Rows.groundFillsRow.lifted == Tryz.prog.liftsFinal) = true := by kernel_rfl
theorem groundFills_p24c : (Tryz.prog.make == some Rows.groundFillsRow.make) = true := by kernel_rfl
theorem inst8 : Tryz.f8.isInstance Tryz.prog Rows.groundFillsRow.origin Rows.groundFillsRow.targs := of_decide_eq_true (by kernel_rfl)
theorem wrap8 : Tryz.f8.isWrapper Tryz.prog Rows.groundFillsRow.wrapper Rows.groundFillsRow.mainSum := by unfold Func.isWrapper; first | (rw [if_pos (by decide +kernel)]; kernel_rfl) | (rw [if_neg (by decide +kernel)]; exact ⟨rfl, rfl⟩)
theorem named8 : Tryz.prog.funcNamed Rows.groundFillsRow.func = some 8 := by kernel_rfl
theorem closed8 : joinedFacts Tryz.prog 8 Tryz.f8 Rows.groundFillsSpec Rows.groundFillsRow = true :=
 joinedFacts_mk groundFills_q1 p2 p3 groundFills_q4 groundFills_q5 rfl p7 rfl p9 groundFills_q10 groundFills_q11 groundFills_q12 groundFills_q13 groundFills_q14 groundFills_q15 groundFills_q16 groundFills_q17 groundFills_q17b groundFills_q18 groundFills_q19 groundFills_q20 groundFills_q21 groundFills_p22 groundFills_q23 p23b p24 groundFills_p24b groundFills_p24c (by kernel_rfl) groundFills_q26 groundFills_q27 groundFills_q28
end Go.Proofs.YthhidpjikbhljaaGreatDoor
