/-
  What is proved: closed facts of the row of UsePairs.
-/
import Derived.Test.YtdfgeoefbbkcnaaGreatDoorVaB2
set_option linter.unusedSectionVars false
set_option linter.unusedSimpArgs false
set_option linter.unusedVariables false
set_option linter.unnecessarySimpa false
set_option linter.deprecated false
namespace Go.Proofs.YtdfgeoefbbkcnaaGreatDoor
theorem usePairs_q10 : (Rows.usePairsRow.inPlace == Tryz.prog.inPlace 14) = true := by kernel_rfl
theorem usePairs_q11 : (Rows.usePairsRow.unfollowed == Tryz.prog.unfollowed 14) = true := by kernel_rfl
theorem usePairs_q12 : (Rows.usePairsRow.recurses == Tryz.prog.recurses 14) = true := by kernel_rfl
theorem usePairs_q13 : (Rows.usePairsRow.named == Tryz.prog.varsNamed 14) = true := by kernel_rfl
theorem usePairs_q1 : Rows.usePairsRow.wf (OpenSpec.ofChange Rows.usePairsSpec) = true := by kernel_rfl
theorem usePairs_q4 : Tryz.f14.params.all (Tryz.prog.readableRec ·) = true := by kernel_rfl
theorem usePairs_q5 : namedTie Tryz.prog Rows.usePairsRow.named Rows.usePairsSpec.vars = true := by kernel_rfl
theorem usePairs_q14 : (Rows.usePairsRow.maps == (Tryz.f14.params.toList ++ Rows.usePairsSpec.plain.varTypes Tryz.prog).any (Tryz.prog.mapsRec ·)) = true := by kernel_rfl
theorem usePairs_q15 : (Rows.usePairsRow.ifaces == (Tryz.f14.params.toList ++ Rows.usePairsSpec.plain.varTypes Tryz.prog).any (Tryz.prog.ifacesRec ·)) = true := by kernel_rfl
theorem usePairs_q16 : (Rows.usePairsRow.mapsOut == Tryz.prog.mapsAmong Tryz.f14.resultTypes.toList) = true := by kernel_rfl
theorem usePairs_q17 : (Rows.usePairsRow.loops == (Tryz.f14.params.toList ++ Rows.usePairsSpec.plain.varTypes Tryz.prog).any (Tryz.prog.loopsFrom ·)) = true := by kernel_rfl
theorem usePairs_q17b : (Rows.usePairsRow.wideKeys == (Tryz.f14.params.toList ++ Rows.usePairsSpec.plain.varTypes Tryz.prog ++ Tryz.f14.resultTypes.toList).any (Tryz.prog.wideKeysFrom ·)) = true := by kernel_rfl
theorem usePairs_q18 : Rows.usePairsSpec.vars.all (Tryz.prog.varReadable ·) = true := by kernel_rfl
theorem usePairs_q19 : Tryz.f14.resultTypes.all (fun t => Tryz.prog.readableRec t && decide (t < Tryz.prog.types.size)) = true := by kernel_rfl
theorem usePairs_q20 : (Rows.usePairsRow.ifacesOut == Tryz.f14.resultTypes.toList.any (Tryz.prog.ifacesRec ·)) = true := by kernel_rfl
theorem usePairs_q21 : (Rows.usePairsRow.loopsOut == Tryz.f14.resultTypes.toList.any (Tryz.prog.loopsFrom ·)) = true := by kernel_rfl
theorem usePairs_q23 : Rows.usePairsRow.shortTexts.isNone = true := by kernel_rfl
theorem usePairs_q26 : (Rows.usePairsRow.pinned == Rows.usePairsRow.pinnedBy) = true := by kernel_rfl
theorem usePairs_q27 : (Rows.usePairsRow.veiled == (Tryz.f14.params.toList ++ Rows.usePairsSpec.plain.varTypes Tryz.prog ++ Tryz.f14.resultTypes.toList).any (Tryz.prog.veiledRec ·)) = true := by kernel_rfl
theorem usePairs_q28 : Rows.usePairsRow.veiledFits Tryz.prog Tryz.f14.params.toList (Tryz.f14.params.toList ++ Rows.usePairsSpec.plain.varTypes Tryz.prog ++ Tryz.f14.resultTypes.toList) = true := by kernel_rfl
theorem usePairs_p22 : (Rows.usePairsRow.plainKeys == Tryz.prog.plainKeys) = true := by kernel_rfl
theorem usePairs_p24b : (Rows.usePairsRow.lifted == Tryz.prog.liftsFinal) = true := by kernel_rfl
theorem usePairs_p24c : (Tryz.prog.make == some Rows.usePairsRow.make) = true := by kernel_rfl
theorem inst14 : Tryz.f14.isInstance Tryz.prog Rows.usePairsRow.origin Rows.usePairsRow.targs := of_decide_eq_true (by kernel_rfl)
theorem wrap14 : Tryz.f14.isWrapper Tryz.prog Rows.usePairsRow.wrapper Rows.usePairsRow.mainSum := by unfold Func.isWrapper; first | (rw [if_pos (by decide +kernel)]; kernel_rfl) | (rw [if_neg (by decide +kernel)]; exact ⟨rfl, rfl⟩)
theorem named14 : Tryz.prog.funcNamed Rows.usePairsRow.func = some 14 := by kernel_rfl
theorem closed14 : joinedFacts Tryz.prog 14 Tryz.f14 Rows.usePairsSpec Rows.usePairsRow = true :=
  joinedFacts_mk usePairs_q1 p2 p3 usePairs_q4 usePairs_q5 rfl p7 rfl p9 usePairs_q10 usePairs_q11 usePairs_q12 usePairs_q13 usePairs_q14 usePairs_q15 usePairs_q16 usePairs_q17 usePairs_q17b usePairs_q18 usePairs_q19 usePairs_q20 usePairs_q21 usePairs_p22 usePairs_q23 p23b p24 usePairs_p24b usePairs_p24c (by kernel_rfl) usePairs_q26 usePairs_q27 usePairs_q28
end Go.Proofs.YtdfgeoefbbkcnaaGreatDoor

