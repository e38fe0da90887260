/-
  What is proved: closed facts of the row.
-/
import Derived.Test.YthhidpjikbhljaaGreatDoorVrB4
set_option linter.unusedSectionVars false
set_option linter.unusedSimpArgs false
set_option linter.unusedVariables false
set_option linter.unnecessarySimpa false
set_option linter.deprecated false
namespace Go.Proofs.YthhidpjikbhljaaGreatDoor
theorem groundClashes_q10 : (Rows.groundClashesRow.inPlace == Tryz.prog.inPlace 10) = true := by kernel_rfl
theorem groundClashes_q11 : (Rows.groundClashesRow.unfollowed == Tryz.prog.unfollowed 10) = true := by kernel_rfl
theorem groundClashes_q12 : (Rows.groundClashesRow.recurses == Tryz.prog.recurses 10) = true := by kernel_rfl
theorem groundClashes_q13 : (Rows.groundClashesRow.named == Tryz.prog.varsNamed 10) = true := by kernel_rfl
theorem groundClashes_q1 : Rows.groundClashesRow.wf (OpenSpec.ofChange Rows.groundClashesSpec) = true := by kernel_rfl
theorem groundClashes_q4 : Tryz.f10.params.all (Tryz.prog.readableRec ·) = true := by kernel_rfl
theorem groundClashes_q5 : namedTie Tryz.prog Rows.groundClashesRow.named Rows.groundClashesSpec.vars = true := by kernel_rfl
theorem groundClashes_q14 : (Rows.groundClashesRow.maps == (Tryz.f10.params.toList ++ Rows.groundClashesSpec.plain.varTypes Tryz.prog).any (Tryz.prog.mapsRec ·)) = true := by kernel_rfl
theorem groundClashes_q15 : (Rows.groundClashesRow.ifaces == (Tryz.f10.params.toList ++ Rows.groundClashesSpec.plain.varTypes Tryz.prog).any (Tryz.prog.ifacesRec ·)) = true := by kernel_rfl
theorem groundClashes_q16 : (Rows.groundClashesRow.mapsOut == Tryz.prog.mapsAmong Tryz.f10.resultTypes.toList) = true := by kernel_rfl
theorem groundClashes_q17 : (Rows.groundClashesRow.loops == (Tryz.f10.params.toList ++ Rows.groundClashesSpec.plain.varTypes Tryz.prog).any (Tryz.prog.loopsFrom ·)) = true := by kernel_rfl
theorem groundClashes_q17b : (Rows.groundClashesRow.wideKeys == (Tryz.f10.params.toList ++ Rows.groundClashesSpec.plain.varTypes Tryz.prog ++ Tryz.f10.resultTypes.toList).any (Tryz.prog.wideKeysFrom ·)) = true := by kernel_rfl
theorem groundClashes_q18 : Rows.groundClashesSpec.vars.all (Tryz.prog.varReadable ·) = true := by kernel_rfl
theorem groundClashes_q19 : Tryz.f10.resultTypes.all (fun t => Tryz.prog.readableRec t && decide (t < Tryz.prog.types.size)) = true := by kernel_rfl
theorem groundClashes_q20 : (Rows.groundClashesRow.ifacesOut == Tryz.f10.resultTypes.toList.any (Tryz.prog.ifacesRec ·)) = true := by kernel_rfl
theorem groundClashes_q21 : (Rows.groundClashesRow.loopsOut == Tryz.f10.resultTypes.toList.any (Tryz.prog.loopsFrom ·)) = true := by kernel_rfl
theorem groundClashes_q23 : Rows.groundClashesRow.shortTexts.isNone = true := by kernel_rfl
theorem groundClashes_q26 : (Rows.groundClashesRow.pinned == Rows.groundClashesRow.pinnedBy) = true := by kernel_rfl
theorem groundClashes_q27 : (Rows.groundClashesRow.veiled == (Tryz.f10.params.toList ++ Rows.groundClashesSpec.plain.varTypes Tryz.prog ++ Tryz.f10.resultTypes.toList).any (Tryz.prog.veiledRec ·)) = true := by kernel_rfl
theorem groundClashes_q28 : Rows.groundClashesRow.veiledFits Tryz.prog Tryz.f10.params.toList (Tryz.f10.params.toList ++ Rows.groundClashesSpec.plain.varTypes Tryz.prog ++ Tryz.f10.resultTypes.toList) = true := by kernel_rfl
theorem groundClashes_p22 : (Rows.groundClashesRow.plainKeys == Tryz.prog.plainKeys) = true := by kernel_rfl
theorem groundClashes_p24b : (Rows.groundClashesRow.lifted == Tryz.prog.liftsFinal) = true := by kernel_rfl
theorem groundClashes_p24c : (Tryz.prog.make == some Rows.groundClashesRow.make) = true := by kernel_rfl
theorem inst10 : Tryz.f10.isInstance Tryz.prog Rows.groundClashesRow.origin Rows.groundClashesRow.targs := of_decide_eq_true (by kernel_rfl)
theorem wrap10 : Tryz.f10.isWrapper Tryz.prog Rows.groundClashesRow.wrapper Rows.groundClashesRow.mainSum := by unfold Func.isWrapper; first | (rw [if_pos (by decide +kernel)]; kernel_rfl) | (rw [if_neg (by decide +kernel)]; exact ⟨rfl, rfl⟩)
theorem named10 : Tryz.prog.funcNamed Rows.groundClashesRow.func = some 10 := by kernel_rfl
theorem closed10 : joinedFacts Tryz.prog 10 Tryz.f10 Rows.groundClashesSpec Rows.groundClashesRow = true :=
 joinedFacts_mk groundClashes_q1 p2 p3 groundClashes_q4 groundClashes_q5 rfl p7 rfl p9 groundClashes_q10 groundClashes_q11 groundClashes_q12 groundClashes_q13 groundClashes_q14 groundClashes_q15 groundClashes_q16 groundClashes_q17 groundClashes_q17b groundClashes_q18 groundClashes_q19 groundClashes_q20 groundClashes_q21 groundClashes_p22 groundClashes_q23 p23b p24 groundClashes_p24b groundClashes_p24c (by kernel_rfl) groundClashes_q26 groundClashes_q27 groundClashes_q28
end Go.Proofs.YthhidpjikbhljaaGreatDoor
