/-
  What is proved: closed facts of the row.
-/
import Derived.Test.YthhidpjikbhljaaGreatDoorVrB5
set_option linter.unusedSectionVars false
set_option linter.unusedSimpArgs false
set_option linter.unusedVariables false
set_option linter.unnecessarySimpa false
set_option linter.deprecated false
namespace Go.Proofs.YthhidpjikbhljaaGreatDoor
theorem groundFits_q10 : (Rows.groundFitsRow.inPlace == Tryz.prog.inPlace 11) = true := by kernel_rfl
theorem groundFits_q11 : (Rows.groundFitsRow.unfollowed == Tryz.prog.unfollowed 11) = true := by kernel_rfl
theorem groundFits_q12 : (Rows.groundFitsRow.recurses == Tryz.prog.recurses 11) = true := by kernel_rfl
theorem groundFits_q13 : (Rows.groundFitsRow.named == Tryz.prog.varsNamed 11) = true := by kernel_rfl
theorem groundFits_q1 : Rows.groundFitsRow.wf (OpenSpec.ofChange Rows.groundFitsSpec) = true := by kernel_rfl
theorem groundFits_q4 : Tryz.f11.params.all (Tryz.prog.readableRec ·) = true := by kernel_rfl
theorem groundFits_q5 : namedTie Tryz.prog Rows.groundFitsRow.named Rows.groundFitsSpec.vars = true := by kernel_rfl
theorem groundFits_q14 : (Rows.groundFitsRow.maps == (Tryz.f11.params.toList ++ Rows.groundFitsSpec.plain.varTypes Tryz.prog).any (Tryz.prog.mapsRec ·)) = true := by kernel_rfl
theorem groundFits_q15 : (Rows.groundFitsRow.ifaces == (Tryz.f11.params.toList ++ Rows.groundFitsSpec.plain.varTypes Tryz.prog).any (Tryz.prog.ifacesRec ·)) = true := by kernel_rfl
theorem groundFits_q16 : (Rows.groundFitsRow.mapsOut == Tryz.prog.mapsAmong Tryz.f11.resultTypes.toList) = true := by kernel_rfl
theorem groundFits_q17 : (Rows.groundFitsRow.loops == (Tryz.f11.params.toList ++ Rows.groundFitsSpec.plain.varTypes Tryz.prog).any (Tryz.prog.loopsFrom ·)) = true := by kernel_rfl
theorem groundFits_q17b : (Rows.groundFitsRow.wideKeys == (Tryz.f11.params.toList ++ Rows.groundFitsSpec.plain.varTypes Tryz.prog ++ Tryz.f11.resultTypes.toList).any (Tryz.prog.wideKeysFrom ·)) = true := by kernel_rfl
theorem groundFits_q18 : Rows.groundFitsSpec.vars.all (Tryz.prog.varReadable ·) = true := by kernel_rfl
theorem groundFits_q19 : Tryz.f11.resultTypes.all (fun t => Tryz.prog.readableRec t && decide (t < Tryz.prog.types.size)) = true := by kernel_rfl
theorem groundFits_q20 : (Rows.groundFitsRow.ifacesOut == Tryz.f11.resultTypes.toList.any (Tryz.prog.ifacesRec ·)) = true := by kernel_rfl
theorem groundFits_q21 : (Rows.groundFitsRow.loopsOut == Tryz.f11.resultTypes.toList.any (Tryz.prog.loopsFrom ·)) = true := by kernel_rfl
theorem groundFits_q23 : Rows.groundFitsRow.shortTexts.isNone = true := by kernel_rfl
theorem groundFits_q26 : (Rows.groundFitsRow.pinned == Rows.groundFitsRow.pinnedBy) = true := by kernel_rfl
theorem groundFits_q27 : (Rows.groundFitsRow.veiled == (Tryz.f11.params.toList ++ Rows.groundFitsSpec.plain.varTypes Tryz.prog ++ Tryz.f11.resultTypes.toList).any (Tryz.prog.veiledRec ·)) = true := by kernel_rfl
theorem groundFits_q28 : Rows.groundFitsRow.veiledFits Tryz.prog Tryz.f11.params.toList (Tryz.f11.params.toList ++ Rows.groundFitsSpec.plain.varTypes Tryz.prog ++ Tryz.f11.resultTypes.toList) = true := by kernel_rfl
theorem groundFits_p22 : (Rows.groundFitsRow.plainKeys == Tryz.prog.plainKeys) = true := by kernel_rfl
theorem groundFits_p24b : (Rows.groundFitsRow.lifted == Tryz.prog.liftsFinal) = true := by kernel_rfl
theorem groundFits_p24c : (Tryz.prog.make == some Rows.groundFitsRow.make) = true := by kernel_rfl
theorem inst11 : Tryz.f11.isInstance Tryz.prog Rows.groundFitsRow.origin Rows.groundFitsRow.targs := of_decide_eq_true (by kernel_rfl)
theorem wrap11 : Tryz.f11.isWrapper Tryz.prog Rows.groundFitsRow.wrapper Rows.groundFitsRow.mainSum := by unfold Func.isWrapper; first | (rw [if_pos (by decide +kernel)]; kernel_rfl) | (rw [if_neg (by decide +kernel)]; exact ⟨rfl, rfl⟩)
theorem named11 : Tryz.prog.funcNamed Rows.groundFitsRow.func = some 11 := by kernel_rfl
theorem closed11 : joinedFacts Tryz.prog 11 Tryz.f11 Rows.groundFitsSpec Rows.groundFitsRow = true :=
 joinedFacts_mk groundFits_q1 p2 p3 groundFits_q4 groundFits_q5 rfl p7 rfl p9 groundFits_q10 groundFits_q11 groundFits_q12 groundFits_q13 groundFits_q14 groundFits_q15 groundFits_q16 groundFits_q17 groundFits_q17b groundFits_q18 groundFits_q19 groundFits_q20 groundFits_q21 groundFits_p22 groundFits_q23 p23b p24 groundFits_p24b groundFits_p24c (by kernel_rfl) groundFits_q26 groundFits_q27 groundFits_q28
end Go.Proofs.YthhidpjikbhljaaGreatDoor
