/-
  What is proved: closed facts of the row.
-/
import Derived.Test.YtkeegnagpekgmaaGreatVrB5
set_option linter.unusedSectionVars false
set_option linter.unusedSimpArgs false
set_option linter.unusedVariables false
set_option linter.unnecessarySimpa false
set_option linter.deprecated false
namespace Go.Proofs.YtkeegnagpekgmaaGreat
theorem topBeaconTurns_q10 : (Rows.topBeaconTurnsRow.inPlace == Tryz.prog.inPlace 3) = true := by kernel_rfl
theorem topBeaconTurns_q11 : (Rows.topBeaconTurnsRow.unfollowed == Tryz.prog.unfollowed 3) = true := by kernel_rfl
theorem topBeaconTurns_q12 : (Rows.topBeaconTurnsRow.recurses == Tryz.prog.recurses 3) = true := by kernel_rfl
theorem topBeaconTurns_q13 : (Rows.topBeaconTurnsRow.named == Tryz.prog.varsNamed 3) = true := by kernel_rfl
theorem topBeaconTurns_q1 : Rows.topBeaconTurnsRow.wf (OpenSpec.ofChange Rows.topBeaconTurnsSpec) = true := by kernel_rfl
theorem topBeaconTurns_q4 : Tryz.f3.params.all (Tryz.prog.readableRec ·) = true := by kernel_rfl
theorem topBeaconTurns_q5 : namedTie Tryz.prog Rows.topBeaconTurnsRow.named Rows.topBeaconTurnsSpec.vars = true := by kernel_rfl
theorem topBeaconTurns_q14 : (Rows.topBeaconTurnsRow.maps == (Tryz.f3.params.toList ++ Rows.topBeaconTurnsSpec.plain.varTypes Tryz.prog).any (Tryz.prog.mapsRec ·)) = true := by kernel_rfl
theorem topBeaconTurns_q15 : (Rows.topBeaconTurnsRow.ifaces == (Tryz.f3.params.toList ++ Rows.topBeaconTurnsSpec.plain.varTypes Tryz.prog).any (Tryz.prog.ifacesRec ·)) = true := by kernel_rfl
theorem topBeaconTurns_q16 : (Rows.topBeaconTurnsRow.mapsOut == Tryz.prog.mapsAmong Tryz.f3.resultTypes.toList) = true := by kernel_rfl
theorem topBeaconTurns_q17 : (Rows.topBeaconTurnsRow.loops == (Tryz.f3.params.toList ++ Rows.topBeaconTurnsSpec.plain.varTypes Tryz.prog).any (Tryz.prog.loopsFrom ·)) = true := by kernel_rfl
theorem topBeaconTurns_q17b : (Rows.topBeaconTurnsRow.wideKeys == (Tryz.f3.params.toList ++ Rows.topBeaconTurnsSpec.plain.varTypes Tryz.prog ++ Tryz.f3.resultTypes.toList).any (Tryz.prog.wideKeysFrom ·)) = true := by kernel_rfl
theorem topBeaconTurns_q18 : Rows.topBeaconTurnsSpec.vars.all (Tryz.prog.varReadable ·) = true := by kernel_rfl
theorem topBeaconTurns_q19 : Tryz.f3.resultTypes.all (fun t => Tryz.prog.readableRec t && decide (t < Tryz.prog.types.size)) = true := by kernel_rfl
theorem topBeaconTurns_q20 : (Rows.topBeaconTurnsRow.ifacesOut == Tryz.f3.resultTypes.toList.any (Tryz.prog.ifacesRec ·)) = true := by kernel_rfl
theorem topBeaconTurns_q21 : (Rows.topBeaconTurnsRow.loopsOut == Tryz.f3.resultTypes.toList.any (Tryz.prog.loopsFrom ·)) = true := by kernel_rfl
theorem topBeaconTurns_q23 : Rows.topBeaconTurnsRow.shortTexts.isNone = true := by kernel_rfl
theorem topBeaconTurns_q26 : (Rows.topBeaconTurnsRow.pinned == Rows.topBeaconTurnsRow.pinnedBy) = true := by kernel_rfl
theorem topBeaconTurns_q27 : (Rows.topBeaconTurnsRow.veiled == (Tryz.f3.params.toList ++ Rows.topBeaconTurnsSpec.plain.varTypes Tryz.prog ++ Tryz.f3.resultTypes.toList).any (Tryz.prog.veiledRec ·)) = true := by kernel_rfl
theorem topBeaconTurns_q28 : Rows.topBeaconTurnsRow.veiledFits Tryz.prog Tryz.f3.params.toList (Tryz.f3.params.toList ++ Rows.topBeaconTurnsSpec.plain.varTypes Tryz.prog ++ Tryz.f3.resultTypes.toList) = true := by kernel_rfl
theorem topBeaconTurns_p22 : (Rows.topBeaconTurnsRow.plainKeys == Tryz.prog.plainKeys) = true := by kernel_rfl
theorem topBeaconTurns_p24b : (Rows.topBeaconTurnsRow.lifted == Tryz.prog.liftsFinal) = true := by kernel_rfl
theorem topBeaconTurns_p24c : (Tryz.prog.make == some Rows.topBeaconTurnsRow.make) = true := by kernel_rfl
theorem inst3 : Tryz.f3.isInstance Tryz.prog Rows.topBeaconTurnsRow.origin Rows.topBeaconTurnsRow.targs := of_decide_eq_true (by kernel_rfl)
theorem wrap3 : Tryz.f3.isWrapper Tryz.prog Rows.topBeaconTurnsRow.wrapper Rows.topBeaconTurnsRow.mainSum := by unfold Func.isWrapper; first | (rw [if_pos (by decide +kernel)]; kernel_rfl) | (rw [if_neg (by decide +kernel)]; exact ⟨rfl, rfl⟩)
theorem named3 : Tryz.prog.funcNamed Rows.topBeaconTurnsRow.func = some 3 := by kernel_rfl
theorem closed3 : joinedFacts Tryz.prog 3 Tryz.f3 Rows.topBeaconTurnsSpec Rows.topBeaconTurnsRow = true :=
 joinedFacts_mk topBeaconTurns_q1 p2 p3 topBeaconTurns_q4 topBeaconTurns_q5 rfl p7 rfl p9 topBeaconTurns_q10 topBeaconTurns_q11 topBeaconTurns_q12 topBeaconTurns_q13 topBeaconTurns_q14 topBeaconTurns_q15 topBeaconTurns_q16 topBeaconTurns_q17 topBeaconTurns_q17b topBeaconTurns_q18 topBeaconTurns_q19 topBeaconTurns_q20 topBeaconTurns_q21 topBeaconTurns_p22 topBeaconTurns_q23 p23b p24 topBeaconTurns_p24b topBeaconTurns_p24c (by kernel_rfl) topBeaconTurns_q26 topBeaconTurns_q27 topBeaconTurns_q28
end Go.Proofs.YtkeegnagpekgmaaGreat
