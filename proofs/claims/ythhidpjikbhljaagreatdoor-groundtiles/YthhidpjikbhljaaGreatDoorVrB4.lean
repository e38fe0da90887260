/-
  What is proved: closed facts of the row.
-/
import Derived.Test.YthhidpjikbhljaaGreatDoorVrB3
set_option linter.unusedSectionVars false
set_option linter.unusedSimpArgs false
set_option linter.unusedVariables false
set_option linter.unnecessarySimpa false
set_option linter.deprecated false
namespace Go.Proofs.YthhidpjikbhljaaGreatDoor
theorem groundTiles_q10 : (Rows.groundTilesRow.inPlace == Tryz.prog.inPlace 14) = true := by kernel_rfl
theorem groundTiles_q11 : (Rows.groundTilesRow.unfollowed == Tryz.prog.unfollowed 14) = true := by kernel_rfl
theorem groundTiles_q12 : (Rows.groundTilesRow.recurses == Tryz.prog.recurses 14) = true := by kernel_rfl
theorem groundTiles_q13 : (Rows.groundTilesRow.named == Tryz.prog.varsNamed 14) = true := by kernel_rfl
theorem groundTiles_q1 : Rows.groundTilesRow.wf (OpenSpec.ofChange Rows.groundTilesSpec) = true := by kernel_rfl
theorem groundTiles_q4 : Tryz.f14.params.all (Tryz.prog.readableRec ·) = true := by kernel_rfl
theorem groundTiles_q5 : namedTie Tryz.prog Rows.groundTilesRow.named Rows.groundTilesSpec.vars = true := by kernel_rfl
theorem groundTiles_q14 : (Rows.groundTilesRow.maps == (Tryz.f14.params.toList ++ Rows.groundTilesSpec.plain.varTypes Tryz.prog).any (Tryz.prog.mapsRec ·)) = true := by kernel_rfl
theorem groundTiles_q15 : (Rows.groundTilesRow.ifaces == (Tryz.f14.params.toList ++ Rows.groundTilesSpec.plain.varTypes Tryz.prog).any (Tryz.prog.ifacesRec ·)) = true := by kernel_rfl
theorem groundTiles_q16 : (Rows.groundTilesRow.mapsOut == Tryz.prog.mapsAmong Tryz.f14.resultTypes.toList) = true := by kernel_rfl
theorem groundTiles_q17 : (Rows.groundTilesRow.loops == (Tryz.f14.params.toList ++ Rows.groundTilesSpec.plain.varTypes Tryz.prog).any (Tryz.prog.loopsFrom ·)) = true := by kernel_rfl
theorem groundTiles_q17b : (Rows.groundTilesRow.wideKeys == (Tryz.f14.params.toList ++ Rows.groundTilesSpec.plain.varTypes Tryz.prog ++ Tryz.f14.resultTypes.toList).any (Tryz.prog.wideKeysFrom ·)) = true := by kernel_rfl
theorem groundTiles_q18 : Rows.groundTilesSpec.vars.all (Tryz.prog.varReadable ·) = true := by kernel_rfl
theorem groundTiles_q19 : Tryz.f14.resultTypes.all (fun t => Tryz.prog.readableRec t && decide (t < Tryz.prog.types.size)) = true := by kernel_rfl
theorem groundTiles_q20 : (Rows.groundTilesRow.ifacesOut == Tryz.f14.resultTypes.toList.any (Tryz.prog.ifacesRec ·)) = true := by kernel_rfl
theorem groundTiles_q21 : (Rows.groundTilesRow.loopsOut == Tryz.f14.resultTypes.toList.any (Tryz.prog.loopsFrom ·)) = true := by kernel_rfl
theorem groundTiles_q23 : Rows.groundTilesRow.shortTexts.isNone = true := by kernel_rfl
theorem groundTiles_q26 : (Rows.groundTilesRow.pinned == Rows.groundTilesRow.pinnedBy) = true := by kernel_rfl
theorem groundTiles_q27 : (Rows.groundTilesRow.veiled == (Tryz.f14.params.toList ++ Rows.groundTilesSpec.plain.varTypes Tryz.prog ++ Tryz.f14.resultTypes.toList).any (Tryz.prog.veiledRec ·)) = true := by kernel_rfl
theorem groundTiles_q28 : Rows.groundTilesRow.veiledFits Tryz.prog Tryz.f14.params.toList (Tryz.f14.params.toList ++ Rows.groundTilesSpec.plain.varTypes Tryz.prog ++ Tryz.f14.resultTypes.toList) = true := by kernel_rfl
theorem groundTiles_p22 : (Rows.groundTilesRow.plainKeys == Tryz.prog.plainKeys) = true := by kernel_rfl
theorem groundTiles_p24b : (Rows.groundTilesRow.lifted == Tryz.prog.liftsFinal) = true := by kernel_rfl
theorem groundTiles_p24c : (Tryz.prog.make == some Rows.groundTilesRow.make) = true := by kernel_rfl
theorem inst14 : Tryz.f14.isInstance Tryz.prog Rows.groundTilesRow.origin Rows.groundTilesRow.targs := of_decide_eq_true (by kernel_rfl)
theorem wrap14 : Tryz.f14.isWrapper Tryz.prog Rows.groundTilesRow.wrapper Rows.groundTilesRow.mainSum := by unfold Func.isWrapper; first | (rw [if_pos (by decide +kernel)]; kernel_rfl) | (rw [if_neg (by decide +kernel)]; exact ⟨rfl, rfl⟩)
theorem named14 : Tryz.prog.funcNamed Rows.groundTilesRow.func = some 14 := by kernel_rfl
theorem closed14 : joinedFacts Tryz.prog 14 Tryz.f14 Rows.groundTilesSpec Rows.groundTilesRow = true :=
 joinedFacts_mk groundTiles_q1 p2 p3 groundTiles_q4 groundTiles_q5 rfl p7 rfl p9 groundTiles_q10 groundTiles_q11 groundTiles_q12 groundTiles_q13 groundTiles_q14 groundTiles_q15 groundTiles_q16 groundTiles_q17 groundTiles_q17b groundTiles_q18 groundTiles_q19 groundTiles_q20 groundTiles_q21 groundTiles_p22 groundTiles_q23 p23b p24 groundTiles_p24b groundTiles_p24c (by kernel_rfl) groundTiles_q26 groundTiles_q27 groundTiles_q28
end Go.Proofs.YthhidpjikbhljaaGreatDoor
