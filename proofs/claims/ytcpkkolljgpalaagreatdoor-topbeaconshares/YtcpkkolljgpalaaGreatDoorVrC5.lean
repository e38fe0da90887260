/-
  What is proved: closed facts of the row.
-/
import Derived.Test.YtcpkkolljgpalaaGreatDoorVrC4
set_option linter.unusedSectionVars false
set_option linter.unusedSimpArgs false
set_option linter.unusedVariables false
set_option linter.unnecessarySimpa false
set_option linter.deprecated false
namespace Go.Proofs.YtcpkkolljgpalaaGreatDoor
theorem topBeaconShares_q10 : (Rows.topBeaconSharesRow.inPlace == Tryz.prog.inPlace 4) = true := by kernel_rfl
theorem topBeaconShares_q11 : (Rows.topBeaconSharesRow.unfollowed == Tryz.prog.unfollowed 4) = true := by kernel_rfl
theorem topBeaconShares_q12 : (Rows.topBeaconSharesRow.recurses == Tryz.prog.recurses 4) = true := by kernel_rfl
theorem topBeaconShares_q13 : (Rows.topBeaconSharesRow.named == Tryz.prog.varsNamed 4) = true := by kernel_rfl
theorem topBeaconShares_q1 : Rows.topBeaconSharesRow.wf (OpenSpec.ofChange Rows.topBeaconSharesSpec) = true := by kernel_rfl
theorem topBeaconShares_q4 : Tryz.f4.params.all (Tryz.prog.readableRec ·) = true := by kernel_rfl
theorem topBeaconShares_q5 : namedTie Tryz.prog Rows.topBeaconSharesRow.named Rows.topBeaconSharesSpec.vars = true := by kernel_rfl
theorem topBeaconShares_q14 : (Rows.topBeaconSharesRow.maps == (Tryz.f4.params.toList ++ Rows.topBeaconSharesSpec.plain.varTypes Tryz.prog).any (Tryz.prog.mapsRec ·)) = true := by kernel_rfl
theorem topBeaconShares_q15 : (Rows.topBeaconSharesRow.ifaces == (Tryz.f4.params.toList ++ Rows.topBeaconSharesSpec.plain.varTypes Tryz.prog).any (Tryz.prog.ifacesRec ·)) = true := by kernel_rfl
theorem topBeaconShares_q16 : (Rows.topBeaconSharesRow.mapsOut == Tryz.prog.mapsAmong Tryz.f4.resultTypes.toList) = true := by kernel_rfl
theorem topBeaconShares_q17 : (Rows.topBeaconSharesRow.loops == (Tryz.f4.params.toList ++ Rows.topBeaconSharesSpec.plain.varTypes Tryz.prog).any (Tryz.prog.loopsFrom ·)) = true := by kernel_rfl
theorem topBeaconShares_q17b : (Rows.topBeaconSharesRow.wideKeys == (Tryz.f4.params.toList ++ Rows.topBeaconSharesSpec.plain.varTypes Tryz.prog ++ Tryz.f4.resultTypes.toList).any (Tryz.prog.wideKeysFrom ·)) = true := by kernel_rfl
theorem topBeaconShares_q18 : Rows.topBeaconSharesSpec.vars.all (Tryz.prog.varReadable ·) = true := by kernel_rfl
theorem topBeaconShares_q19 : Tryz.f4.resultTypes.all (fun t => Tryz.prog.readableRec t && decide (t < Tryz.prog.types.size)) = true := by kernel_rfl
theorem topBeaconShares_q20 : (Rows.topBeaconSharesRow.ifacesOut == Tryz.f4.resultTypes.toList.any (Tryz.prog.ifacesRec ·)) = true := by kernel_rfl
theorem topBeaconShares_q21 : (Rows.topBeaconSharesRow.loopsOut == Tryz.f4.resultTypes.toList.any (Tryz.prog.loopsFrom ·)) = true := by kernel_rfl
theorem topBeaconShares_q23 : Rows.topBeaconSharesRow.shortTexts.isNone = true := by kernel_rfl
theorem topBeaconShares_q26 : (Rows.topBeaconSharesRow.pinned == Rows.topBeaconSharesRow.pinnedBy) = true := by kernel_rfl
theorem topBeaconShares_q27 : (Rows.topBeaconSharesRow.veiled == (Tryz.f4.params.toList ++ Rows.topBeaconSharesSpec.plain.varTypes Tryz.prog ++ Tryz.f4.resultTypes.toList).any (Tryz.prog.veiledRec ·)) = true := by kernel_rfl
theorem topBeaconShares_q28 : Rows.topBeaconSharesRow.veiledFits Tryz.prog Tryz.f4.params.toList (Tryz.f4.params.toList ++ Rows.topBeaconSharesSpec.plain.varTypes Tryz.prog ++ Tryz.f4.resultTypes.toList) = true := by kernel_rfl
theorem topBeaconShares_p22 : (Rows.topBeaconSharesRow.plainKeys == Tryz.prog.plainKeys) = true := by kernel_rfl
theorem topBeaconShares_p24b : (Rows.topBeaconSharesRow.lifted == Tryz.prog.liftsFinal) = true := by kernel_rfl
theorem topBeaconShares_p24c : (Tryz.prog.make == some Rows.topBeaconSharesRow.make) = true := by kernel_rfl
theorem inst4 : Tryz.f4.isInstance Tryz.prog Rows.topBeaconSharesRow.origin Rows.topBeaconSharesRow.targs := of_decide_eq_true (by kernel_rfl)
theorem wrap4 : Tryz.f4.isWrapper Tryz.prog Rows.topBeaconSharesRow.wrapper Rows.topBeaconSharesRow.mainSum := by unfold Func.isWrapper; first | (rw [if_pos (by decide +kernel)]; kernel_rfl) | (rw [if_neg (by decide +kernel)]; exact ⟨rfl, rfl⟩)
theorem named4 : Tryz.prog.funcNamed Rows.topBeaconSharesRow.func = some 4 := by kernel_rfl
theorem closed4 : joinedFacts Tryz.prog 4 Tryz.f4 Rows.topBeaconSharesSpec Rows.topBeaconSharesRow = true :=
 joinedFacts_mk topBeaconShares_q1 p2 p3 topBeaconShares_q4 topBeaconShares_q5 rfl p7 rfl p9 topBeaconShares_q10 topBeaconShares_q11 topBeaconShares_q12 topBeaconShares_q13 topBeaconShares_q14 topBeaconShares_q15 topBeaconShares_q16 topBeaconShares_q17 topBeaconShares_q17b topBeaconShares_q18 topBeaconShares_q19 topBeaconShares_q20 topBeaconShares_q21 topBeaconShares_p22 topBeaconShares_q23 p23b p24 topBeaconShares_p24b topBeaconShares_p24c (by kernel_rfl) topBeaconShares_q26 topBeaconShares_q27 topBeaconShares_q28
end Go.Proofs.YtcpkkolljgpalaaGreatDoor
