/-
  What is proved: closed facts of the row.
-/
import Derived.Test.YthhidpjikbhljaaGreatDoorVrB3
set_option linter.unusedSectionVars false
set_option linter.unusedSimpArgs false
set_option linter.unusedVariables false
set_option linter.unnecessarySimpa false
set_option linter.deprecated false
namespace Go.Proofs.YthhidpjikbhljaaGreatDoor
theorem groundSeats_q10 : (Rows.groundSeatsRow.inPlace == Tryz.prog.inPlace 5) = true := by kernel_rfl
theorem groundSeats_q11 : (Rows.groundSeatsRow.unfollowed == Tryz.prog.unfollowed 5) = true := by kernel_rfl
theorem groundSeats_q12 : (Rows.groundSeatsRow.recurses == Tryz.prog.recurses 5) = true := by kernel_rfl
theorem groundSeats_q13 : (Rows.groundSeatsRow.named == Tryz.prog.varsNamed 5) = true := by kernel_rfl
theorem groundSeats_q1 : Rows.groundSeatsRow.wf (OpenSpec.ofChange Rows.groundSeatsSpec) = true := by kernel_rfl
theorem groundSeats_q4 : Tryz.f5.params.all (Tryz.prog.readableRec ·) = true := by kernel_rfl
theorem groundSeats_q5 : namedTie Tryz.prog Rows.groundSeatsRow.named Rows.groundSeatsSpec.vars = true := by kernel_rfl
theorem groundSeats_q14 : (Rows.groundSeatsRow.maps == (Tryz.f5.params.toList ++ Rows.groundSeatsSpec.plain.varTypes Tryz.prog).any (Tryz.prog.mapsRec ·)) = true := by kernel_rfl
theorem groundSeats_q15 : (Rows.groundSeatsRow.ifaces == (Tryz.f5.params.toList ++ Rows.groundSeatsSpec.plain.varTypes Tryz.prog).any (Tryz.prog.ifacesRec ·)) = true := by kernel_rfl
theorem groundSeats_q16 : (Rows.groundSeatsRow.mapsOut == Tryz.prog.mapsAmong Tryz.f5.resultTypes.toList) = true := by kernel_rfl
theorem groundSeats_q17 : (Rows.groundSeatsRow.loops == (Tryz.f5.params.toList ++ Rows.groundSeatsSpec.plain.varTypes Tryz.prog).any (Tryz.prog.loopsFrom ·)) = true := by kernel_rfl
theorem groundSeats_q17b : (Rows.groundSeatsRow.wideKeys == (Tryz.f5.params.toList ++ Rows.groundSeatsSpec.plain.varTypes Tryz.prog ++ Tryz.f5.resultTypes.toList).any (Tryz.prog.wideKeysFrom ·)) = true := by kernel_rfl
theorem groundSeats_q18 : Rows.groundSeatsSpec.vars.all (Tryz.prog.varReadable ·) = true := by kernel_rfl
theorem groundSeats_q19 : Tryz.f5.resultTypes.all (fun t => Tryz.prog.readableRec t && decide (t < Tryz.prog.types.size)) = true := by kernel_rfl
theorem groundSeats_q20 : (Rows.groundSeatsRow.ifacesOut == Tryz.f5.resultTypes.toList.any (Tryz.prog.ifacesRec ·)) = true := by kernel_rfl
theorem groundSeats_q21 : (Rows.groundSeatsRow.loopsOut == Tryz.f5.resultTypes.toList.any (Tryz.prog.loopsFrom ·)) = true := by kernel_rfl
theorem groundSeats_q23 : Rows.groundSeatsRow.shortTexts.isNone = true := by kernel_rfl
theorem groundSeats_q26 : (Rows.groundSeatsRow.pinned == Rows.groundSeatsRow.pinnedBy) = true := by kernel_rfl
theorem groundSeats_q27 : (Rows.groundSeatsRow.veiled == (Tryz.f5.params.toList ++ Rows.groundSeatsSpec.plain.varTypes Tryz.prog ++ Tryz.f5.resultTypes.toList).any (Tryz.prog.veiledRec ·)) = true := by kernel_rfl
theorem groundSeats_q28 : Rows.groundSeatsRow.veiledFits Tryz.prog Tryz.f5.params.toList (Tryz.f5.params.toList ++ Rows.groundSeatsSpec.plain.varTypes Tryz.prog ++ Tryz.f5.resultTypes.toList) = true := by kernel_rfl
theorem groundSeats_p22 : (Rows.groundSeatsRow.plainKeys == Tryz.prog.plainKeys) = true := by kernel_rfl
theorem groundSeats_p24b : (Rows.groundSeatsRow.lifted == Tryz.prog.liftsFinal) = true := by kernel_rfl
theorem groundSeats_p24c : (Tryz.prog.make == some Rows.groundSeatsRow.make) = true := by kernel_rfl
theorem inst5 : Tryz.f5.isInstance Tryz.prog Rows.groundSeatsRow.origin Rows.groundSeatsRow.targs := of_decide_eq_true (by kernel_rfl)
theorem wrap5 : Tryz.f5.isWrapper Tryz.prog Rows.groundSeatsRow.wrapper Rows.groundSeatsRow.mainSum := by unfold Func.isWrapper; first | (rw [if_pos (by decide +kernel)]; kernel_rfl) | (rw [if_neg (by decide +kernel)]; exact ⟨rfl, rfl⟩)
theorem named5 : Tryz.prog.funcNamed Rows.groundSeatsRow.func = some 5 := by kernel_rfl
theorem closed5 : joinedFacts Tryz.prog 5 Tryz.f5 Rows.groundSeatsSpec Rows.groundSeatsRow = true :=
 joinedFacts_mk groundSeats_q1 p2 p3 groundSeats_q4 groundSeats_q5 rfl p7 rfl p9 groundSeats_q10 groundSeats_q11 groundSeats_q12 groundSeats_q13 groundSeats_q14 groundSeats_q15 groundSeats_q16 groundSeats_q17 groundSeats_q17b groundSeats_q18 groundSeats_q19 groundSeats_q20 groundSeats_q21 groundSeats_p22 groundSeats_q23 p23b p24 groundSeats_p24b groundSeats_p24c (by kernel_rfl) groundSeats_q26 groundSeats_q27 groundSeats_q28
end Go.Proofs.YthhidpjikbhljaaGreatDoor
