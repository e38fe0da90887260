/-
  What is proved: closed facts of the row.
-/
import Derived.Test.YthhidpjikbhljaaGreatDoorVrB3
set_option linter.unusedSectionVars false
set_option linter.unusedSimpArgs false
set_option linter.unusedVariables false
set_option linter.unnecessarySimpa false
set_option linter.deprecated false
namespace Go.Proofs.YthhidpjikbhljaaGreatDoor
theorem groundPairs_q10 : (Rows.groundPairsRow.inPlace == Tryz.prog.inPlace 12) = true := by kernel_rfl
theorem groundPairs_q11 : (Rows.groundPairsRow.unfollowed == Tryz.prog.unfollowed 12) = true := by kernel_rfl
theorem groundPairs_q12 : (Rows.groundPairsRow.recurses == Tryz.prog.recurses 12) = true := by kernel_rfl
theorem groundPairs_q13 : (Rows.groundPairsRow.named == Tryz.prog.varsNamed 12) = true := by kernel_rfl
theorem groundPairs_q1 : Rows.groundPairsRow.wf (OpenSpec.ofChange Rows.groundPairsSpec) = true := by kernel_rfl
theorem groundPairs_q4 : Tryz.f12.params.all (Tryz.prog.readableRec ·) = true := by kernel_rfl
theorem groundPairs_q5 : namedTie Tryz.prog Rows.groundPairsRow.named Rows.groundPairsSpec.vars = true := by kernel_rfl
theorem groundPairs_q14 : (Rows.groundPairsRow.maps == (Tryz.f12.params.toList ++ Rows.groundPairsSpec.plain.varTypes Tryz.prog).any (Tryz.prog.mapsRec ·)) = true := by kernel_rfl
theorem groundPairs_q15 : (Rows.groundPairsRow.ifaces == (Tryz.f12.params.toList ++ Rows.groundPairsSpec.plain.varTypes Tryz.prog).any (Tryz.prog.ifacesRec ·)) = true := by kernel_rfl
theorem groundPairs_q16 : (Rows.groundPairsRow.mapsOut == Tryz.prog.mapsAmong Tryz.f12.resultTypes.toList) = true := by kernel_rfl
theorem groundPairs_q17 : (Rows.groundPairsRow.loops == (Tryz.f12.params.toList ++ Rows.groundPairsSpec.plain.varTypes Tryz.prog).any (Tryz.prog.loopsFrom ·)) = true := by kernel_rfl
theorem groundPairs_q17b : (Rows.groundPairsRow.wideKeys == (Tryz.f12.params.toList ++ Rows.groundPairsSpec.plain.varTypes Tryz.prog ++ Tryz.f12.resultTypes.toList).any (Tryz.prog.wideKeysFrom ·)) = true := by kernel_rfl
theorem groundPairs_q18 : Rows.groundPairsSpec.vars.all (Tryz.prog.varReadable ·) = true := by kernel_rfl
theorem groundPairs_q19 : Tryz.f12.resultTypes.all (fun t => Tryz.prog.readableRec t && decide (t < Tryz.prog.types.size)) = true := by kernel_rfl
theorem groundPairs_q20 : (Rows.groundPairsRow.ifacesOut == Tryz.f12.resultTypes.toList.any (Tryz.prog.ifacesRec ·)) = true := by kernel_rfl
theorem groundPairs_q21 : (Rows.groundPairsRow.loopsOut == Tryz.f12.resultTypes.toList.any (Tryz.prog.loopsFrom ·)) = true := by kernel_rfl
theorem groundPairs_q23 : Rows.groundPairsRow.shortTexts.isNone = true := by kernel_rfl
theorem groundPairs_q26 : (Rows.groundPairsRow.pinned == Rows.groundPairsRow.pinnedBy) = true := by kernel_rfl
theorem groundPairs_q27 : (Rows.groundPairsRow.veiled == (Tryz.f12.params.toList ++ Rows.groundPairsSpec.plain.varTypes Tryz.prog ++ Tryz.f12.resultTypes.toList).any (Tryz.prog.veiledRec ·)) = true := by kernel_rfl
theorem groundPairs_q28 : Rows.groundPairsRow.veiledFits Tryz.prog Tryz.f12.params.toList (Tryz.f12.params.toList ++ Rows.groundPairsSpec.plain.varTypes Tryz.prog ++ Tryz.f12.resultTypes.toList) = true := by kernel_rfl
theorem groundPairs_p22 : (Rows.groundPairsRow.plainKeys == Tryz.prog.plainKeys) = true := by kernel_rfl
theorem groundPairs_p24b : (Rows.groundPairsRow.lifted == Tryz.prog.liftsFinal) = true := by kernel_rfl
theorem groundPairs_p24c : (Tryz.prog.make == some Rows.groundPairsRow.make) = true := by kernel_rfl
theorem inst12 : Tryz.f12.isInstance Tryz.prog Rows.groundPairsRow.origin Rows.groundPairsRow.targs := of_decide_eq_true (by kernel_rfl)
theorem wrap12 : Tryz.f12.isWrapper Tryz.prog Rows.groundPairsRow.wrapper Rows.groundPairsRow.mainSum := by unfold Func.isWrapper; first | (rw [if_pos (by decide +kernel)]; kernel_rfl) | (rw [if_neg (by decide +kernel)]; exact ⟨rfl, rfl⟩)
theorem named12 : Tryz.prog.funcNamed Rows.groundPairsRow.func = some 12 := by kernel_rfl
theorem closed12 : joinedFacts Tryz.prog 12 Tryz.f12 Rows.groundPairsSpec Rows.groundPairsRow = true :=
 joinedFacts_mk groundPairs_q1 p2 p3 groundPairs_q4 groundPairs_q5 rfl p7 rfl p9 groundPairs_q10 groundPairs_q11 groundPairs_q12 groundPairs_q13 groundPairs_q14 groundPairs_q15 groundPairs_q16 groundPairs_q17 groundPairs_q17b groundPairs_q18 groundPairs_q19 groundPairs_q20 groundPairs_q21 groundPairs_p22 groundPairs_q23 p23b p24 groundPairs_p24b groundPairs_p24c (by kernel_rfl) groundPairs_q26 groundPairs_q27 groundPairs_q28
end Go.Proofs.YthhidpjikbhljaaGreatDoor
