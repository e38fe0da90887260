/-
  What is proved: closed facts of the row.
-/
import Derived.Test.YthhidpjikbhljaaGreatDoorVrB4
set_option linter.unusedSectionVars false
set_option linter.unusedSimpArgs false
set_option linter.unusedVariables false
set_option linter.unnecessarySimpa false
set_option linter.deprecated false
namespace Go.Proofs.YthhidpjikbhljaaGreatDoor
theorem groundAssigns_q10 : (Rows.groundAssignsRow.inPlace == Tryz.prog.inPlace 4) = true := by kernel_rfl
theorem groundAssigns_q11 : (Rows.groundAssignsRow.unfollowed == Tryz.prog.unfollowed 4) = true := by kernel_rfl
theorem groundAssigns_q12 : (Rows.groundAssignsRow.recurses == Tryz.prog.recurses 4) = true := by kernel_rfl
theorem groundAssigns_q13 : (Rows.groundAssignsRow.named == Tryz.prog.varsNamed 4) = true := by kernel_rfl
theorem groundAssigns_q1 : Rows.groundAssignsRow.wf (OpenSpec.ofChange Rows.groundAssignsSpec) = true := by kernel_rfl
theorem groundAssigns_q4 : Tryz.f4.params.all (Tryz.prog.readableRec ·) = true := by kernel_rfl
theorem groundAssigns_q5 : namedTie Tryz.prog Rows.groundAssignsRow.named Rows.groundAssignsSpec.vars = true := by kernel_rfl
theorem groundAssigns_q14 : (Rows.groundAssignsRow.maps == (Tryz.f4.params.toList ++ Rows.groundAssignsSpec.plain.varTypes Tryz.prog).any (Tryz.prog.mapsRec ·)) = true := by kernel_rfl
theorem groundAssigns_q15 : (Rows.groundAssignsRow.ifaces == (Tryz.f4.params.toList ++ Rows.groundAssignsSpec.plain.varTypes Tryz.prog).any (Tryz.prog.ifacesRec ·)) = true := by kernel_rfl
theorem groundAssigns_q16 : (Rows.groundAssignsRow.mapsOut == Tryz.prog.mapsAmong Tryz.f4.resultTypes.toList) = true := by kernel_rfl
theorem groundAssigns_q17 : (Rows.groundAssignsRow.loops == (Tryz.f4.params.toList ++ Rows.groundAssignsSpec.plain.varTypes Tryz.prog).any (Tryz.prog.loopsFrom ·)) = true := by kernel_rfl
theorem groundAssigns_q17b : (Rows.groundAssignsRow.wideKeys == (Tryz.f4.params.toList ++ Rows.groundAssignsSpec.plain.varTypes Tryz.prog ++ Tryz.f4.resultTypes.toList).any (Tryz.prog.wideKeysFrom ·)) = true := by kernel_rfl
theorem groundAssigns_q18 : Rows.groundAssignsSpec.vars.all (Tryz.prog.varReadable ·) = true := by kernel_rfl
theorem groundAssigns_q19 : Tryz.f4.resultTypes.all (fun t => Tryz.prog.readableRec t && decide (t < Tryz.prog.types.size)) = true := by kernel_rfl
theorem groundAssigns_q20 : (Rows.groundAssignsRow.ifacesOut == Tryz.f4.resultTypes.toList.any (Tryz.prog.ifacesRec ·)) = true := by kernel_rfl
theorem groundAssigns_q21 : (Rows.groundAssignsRow.loopsOut == Tryz.f4.resultTypes.toList.any (Tryz.prog.loopsFrom ·)) = true := by kernel_rfl
theorem groundAssigns_q23 : Rows.groundAssignsRow.shortTexts.isNone = true := by kernel_rfl
theorem groundAssigns_q26 : (Rows.groundAssignsRow.pinned == Rows.groundAssignsRow.pinnedBy) = true := by kernel_rfl
theorem groundAssigns_q27 : (Rows.groundAssignsRow.veiled == (Tryz.f4.params.toList ++ Rows.groundAssignsSpec.plain.varTypes Tryz.prog ++ Tryz.f4.resultTypes.toList).any (Tryz.prog.veiledRec ·)) = true := by kernel_rfl
theorem groundAssigns_q28 : Rows.groundAssignsRow.veiledFits Tryz.prog Tryz.f4.params.toList (Tryz.f4.params.toList ++ Rows.groundAssignsSpec.plain.varTypes Tryz.prog ++ Tryz.f4.resultTypes.toList) = true := by kernel_rfl
theorem groundAssigns_p22 : (Rows.groundAssignsRow.plainKeys == Tryz.prog.plainKeys) = true := by kernel_rfl
theorem groundAssigns_p24b : (Rows.groundAssignsRow.lifted == Tryz.prog.liftsFinal) = true := by kernel_rfl
theorem groundAssigns_p24c : (Tryz.prog.make == some Rows.groundAssignsRow.make) = true := by kernel_rfl
theorem inst4 : Tryz.f4.isInstance Tryz.prog Rows.groundAssignsRow.origin Rows.groundAssignsRow.targs := of_decide_eq_true (by kernel_rfl)
theorem wrap4 : Tryz.f4.isWrapper Tryz.prog Rows.groundAssignsRow.wrapper Rows.groundAssignsRow.mainSum := by unfold Func.isWrapper; first | (rw [if_pos (by decide +kernel)]; kernel_rfl) | (rw [if_neg (by decide +kernel)]; exact ⟨rfl, rfl⟩)
theorem named4 : Tryz.prog.funcNamed Rows.groundAssignsRow.func = some 4 := by kernel_rfl
theorem closed4 : joinedFacts Tryz.prog 4 Tryz.f4 Rows.groundAssignsSpec Rows.groundAssignsRow = true :=
 joinedFacts_mk groundAssigns_q1 p2 p3 groundAssigns_q4 groundAssigns_q5 rfl p7 rfl p9 groundAssigns_q10 groundAssigns_q11 groundAssigns_q12 groundAssigns_q13 groundAssigns_q14 groundAssigns_q15 groundAssigns_q16 groundAssigns_q17 groundAssigns_q17b groundAssigns_q18 groundAssigns_q19 groundAssigns_q20 groundAssigns_q21 groundAssigns_p22 groundAssigns_q23 p23b p24 groundAssigns_p24b groundAssigns_p24c (by kernel_rfl) groundAssigns_q26 groundAssigns_q27 groundAssigns_q28
end Go.Proofs.YthhidpjikbhljaaGreatDoor
