/-
  What is proved: closed facts of the row.
-/
import Derived.Test.YthhidpjikbhljaaGreatDoorVrB3
set_option linter.unusedSectionVars false
set_option linter.unusedSimpArgs false
set_option linter.unusedVariables false
set_option linter.unnecessarySimpa false
set_option linter.deprecated false
namespace Go.Proofs.YthhidpjikbhljaaGreatDoor
theorem groundRooms_q10 : (Rows.groundRoomsRow.inPlace == Tryz.prog.inPlace 6) = true := by kernel_rfl
theorem groundRooms_q11 : (Rows.groundRoomsRow.unfollowed == Tryz.prog.unfollowed 6) = true := by kernel_rfl
theorem groundRooms_q12 : (Rows.groundRoomsRow.recurses == Tryz.prog.recurses 6) = true := by kernel_rfl
theorem groundRooms_q13 : (Rows.groundRoomsRow.named == Tryz.prog.varsNamed 6) = true := by kernel_rfl
theorem groundRooms_q1 : Rows.groundRoomsRow.wf (OpenSpec.ofChange Rows.groundRoomsSpec) = true := by kernel_rfl
theorem groundRooms_q4 : Tryz.f6.params.all (Tryz.prog.readableRec ·) = true := by kernel_rfl
theorem groundRooms_q5 : namedTie Tryz.prog Rows.groundRoomsRow.named Rows.groundRoomsSpec.vars = true := by kernel_rfl
theorem groundRooms_q14 : (Rows.groundRoomsRow.maps == (Tryz.f6.params.toList ++ Rows.groundRoomsSpec.plain.varTypes Tryz.prog).any (Tryz.prog.mapsRec ·)) = true := by kernel_rfl
theorem groundRooms_q15 : (Rows.groundRoomsRow.ifaces == (Tryz.f6.params.toList ++ Rows.groundRoomsSpec.plain.varTypes Tryz.prog).any (Tryz.prog.ifacesRec ·)) = true := by kernel_rfl
theorem groundRooms_q16 : (Rows.groundRoomsRow.mapsOut == Tryz.prog.mapsAmong Tryz.f6.resultTypes.toList) = true := by kernel_rfl
theorem groundRooms_q17 : (Rows.groundRoomsRow.loops == (Tryz.f6.params.toList ++ Rows.groundRoomsSpec.plain.varTypes Tryz.prog).any (Tryz.prog.loopsFrom ·)) = true := by kernel_rfl
theorem groundRooms_q17b : (Rows.groundRoomsRow.wideKeys == (Tryz.f6.params.toList ++ Rows.groundRoomsSpec.plain.varTypes Tryz.prog ++ Tryz.f6.resultTypes.toList).any (Tryz.prog.wideKeysFrom ·)) = true := by kernel_rfl
theorem groundRooms_q18 : Rows.groundRoomsSpec.vars.all (Tryz.prog.varReadable ·) = true := by kernel_rfl
theorem groundRooms_q19 : Tryz.f6.resultTypes.all (fun t => Tryz.prog.readableRec t && decide (t < Tryz.prog.types.size)) = true := by kernel_rfl
theorem groundRooms_q20 : (Rows.groundRoomsRow.ifacesOut == Tryz.f6.resultTypes.toList.any (Tryz.prog.ifacesRec ·)) = true := by kernel_rfl
theorem groundRooms_q21 : (Rows.groundRoomsRow.loopsOut == Tryz.f6.resultTypes.toList.any (Tryz.prog.loopsFrom ·)) = true := by kernel_rfl
theorem groundRooms_q23 : Rows.groundRoomsRow.shortTexts.isNone = true := by kernel_rfl
theorem groundRooms_q26 : (Rows.groundRoomsRow.pinned == Rows.groundRoomsRow.pinnedBy) = true := by kernel_rfl
theorem groundRooms_q27 : (Rows.groundRoomsRow.veiled == (Tryz.f6.params.toList ++ Rows.groundRoomsSpec.plain.varTypes Tryz.prog ++ Tryz.f6.resultTypes.toList).any (Tryz.prog.veiledRec ·)) = true := by kernel_rfl
theorem groundRooms_q28 : Rows.groundRoomsRow.veiledFits Tryz.prog Tryz.f6.params.toList (Tryz.f6.params.toList ++ Rows.groundRoomsSpec.plain.varTypes Tryz.prog ++ Tryz.f6.resultTypes.toList) = true := by kernel_rfl
theorem groundRooms_p22 : (Rows.groundRoomsRow.plainKeys == Tryz.prog.plainKeys) = true := by kernel_rfl
theorem groundRooms_p24b : (Rows.groundRoomsRow.lifted == Tryz.prog.liftsFinal) = true := by kernel_rfl
theorem groundRooms_p24c : (Tryz.prog.make == some Rows.groundRoomsRow.make) = true := by kernel_rfl
theorem inst6 : Tryz.f6.isInstance Tryz.prog Rows.groundRoomsRow.origin Rows.groundRoomsRow.targs := of_decide_eq_true (by kernel_rfl)
theorem wrap6 : Tryz.f6.isWrapper Tryz.prog Rows.groundRoomsRow.wrapper Rows.groundRoomsRow.mainSum := by unfold Func.isWrapper; first | (rw [if_pos (by decide +kernel)]; kernel_rfl) | (rw [if_neg (by decide +kernel)]; exact ⟨rfl, rfl⟩)
theorem named6 : Tryz.prog.funcNamed Rows.groundRoomsRow.func = some 6 := by kernel_rfl
theorem closed6 : joinedFacts Tryz.prog 6 Tryz.f6 Rows.groundRoomsSpec Rows.groundRoomsRow = true :=
 joinedFacts_mk groundRooms_q1 p2 p3 groundRooms_q4 groundRooms_q5 rfl p7 rfl p9 groundRooms_q10 groundRooms_q11 groundRooms_q12 groundRooms_q13 groundRooms_q14 groundRooms_q15 groundRooms_q16 groundRooms_q17 groundRooms_q17b groundRooms_q18 groundRooms_q19 groundRooms_q20 groundRooms_q21 groundRooms_p22 groundRooms_q23 p23b p24 groundRooms_p24b groundRooms_p24c (by kernel_rfl) groundRooms_q26 groundRooms_q27 groundRooms_q28
end Go.Proofs.YthhidpjikbhljaaGreatDoor
