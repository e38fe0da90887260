/-
  What is proved: closed facts of the row.
-/
import Derived.Test.YthhidpjikbhljaaGreatDoorVrB3
set_option linter.unusedSectionVars false
set_option linter.unusedSimpArgs false
set_option linter.unusedVariables false
set_option linter.unnecessarySimpa false
set_option linter.deprecated false
namespace Go.Proofs.YthhidpjikbhljaaGreatDoor
theorem groundQuotas_q10 : (Rows.groundQuotasRow.inPlace == Tryz.prog.inPlace 13) = true := by kernel_rfl
theorem groundQuotas_q11 : (Rows.groundQuotasRow.unfollowed == Tryz.prog.unfollowed 13) = true := by kernel_rfl
theorem groundQuotas_q12 : (Rows.groundQuotasRow.recurses == Tryz.prog.recurses 13) = true := by kernel_rfl
theorem groundQuotas_q13 : (Rows.groundQuotasRow.named == Tryz.prog.varsNamed 13) = true := by kernel_rfl
theorem groundQuotas_q1 : Rows.groundQuotasRow.wf (OpenSpec.ofChange Rows.groundQuotasSpec) = true := by kernel_rfl
theorem groundQuotas_q4 : Tryz.f13.params.all (Tryz.prog.readableRec ·) = true := by kernel_rfl
theorem groundQuotas_q5 : namedTie Tryz.prog Rows.groundQuotasRow.named Rows.groundQuotasSpec.vars = true := by kernel_rfl
theorem groundQuotas_q14 : (Rows.groundQuotasRow.maps == (Tryz.f13.params.toList ++ Rows.groundQuotasSpec.plain.varTypes Tryz.prog).any (Tryz.prog.mapsRec ·)) = true := by kernel_rfl
theorem groundQuotas_q15 : (Rows.groundQuotasRow.ifaces == (Tryz.f13.params.toList ++ Rows.groundQuotasSpec.plain.varTypes Tryz.prog).any (Tryz.prog.ifacesRec ·)) = true := by kernel_rfl
theorem groundQuotas_q16 : (Rows.groundQuotasRow.mapsOut == Tryz.prog.mapsAmong Tryz.f13.resultTypes.toList) = true := by kernel_rfl
theorem groundQuotas_q17 : (Rows.groundQuotasRow.loops == (Tryz.f13.params.toList ++ Rows.groundQuotasSpec.plain.varTypes Tryz.prog).any (Tryz.prog.loopsFrom ·)) = true := by kernel_rfl
theorem groundQuotas_q17b : (Rows.groundQuotasRow.wideKeys == (Tryz.f13.params.toList ++ Rows.groundQuotasSpec.plain.varTypes Tryz.prog ++ Tryz.f13.resultTypes.toList).any (Tryz.prog.wideKeysFrom ·)) = true := by kernel_rfl
theorem groundQuotas_q18 : Rows.groundQuotasSpec.vars.all (Tryz.prog.varReadable ·) = true := by kernel_rfl
theorem groundQuotas_q19 : Tryz.f13.resultTypes.all (fun t => Tryz.prog.readableRec t && decide (t < Tryz.prog.types.size)) = true := by kernel_rfl
theorem groundQuotas_q20 : (Rows.groundQuotasRow.ifacesOut == Tryz.f13.resultTypes.toList.any (Tryz.prog.ifacesRec ·)) = true := by kernel_rfl
theorem groundQuotas_q21 : (Rows.groundQuotasRow.loopsOut == Tryz.f13.resultTypes.toList.any (Tryz.prog.loopsFrom ·)) = true := by kernel_rfl
theorem groundQuotas_q23 : Rows.groundQuotasRow.shortTexts.isNone = true := by kernel_rfl
theorem groundQuotas_q26 : (Rows.groundQuotasRow.pinned == Rows.groundQuotasRow.pinnedBy) = true := by kernel_rfl
theorem groundQuotas_q27 : (Rows.groundQuotasRow.veiled == (Tryz.f13.params.toList ++ Rows.groundQuotasSpec.plain.varTypes Tryz.prog ++ Tryz.f13.resultTypes.toList).any (Tryz.prog.veiledRec ·)) = true := by kernel_rfl
theorem groundQuotas_q28 : Rows.groundQuotasRow.veiledFits Tryz.prog Tryz.f13.params.toList (Tryz.f13.params.toList ++ Rows.groundQuotasSpec.plain.varTypes Tryz.prog ++ Tryz.f13.resultTypes.toList) = true := by kernel_rfl
theorem groundQuotas_p22 : (Rows.groundQuotasRow.plainKeys == Tryz.prog.plainKeys) = true := by kernel_rfl
theorem groundQuotas_p24b : (Rows.groundQuotasRow.lifted == Tryz.prog.liftsFinal) = true := by kernel_rfl
theorem groundQuotas_p24c : (Tryz.prog.make == some Rows.groundQuotasRow.make) = true := by kernel_rfl
theorem inst13 : Tryz.f13.isInstance Tryz.prog Rows.groundQuotasRow.origin Rows.groundQuotasRow.targs := of_decide_eq_true (by kernel_rfl)
theorem wrap13 : Tryz.f13.isWrapper Tryz.prog Rows.groundQuotasRow.wrapper Rows.groundQuotasRow.mainSum := by unfold Func.isWrapper; first | (rw [if_pos (by decide +kernel)]; kernel_rfl) | (rw [if_neg (by decide +kernel)]; exact ⟨rfl, rfl⟩)
theorem named13 : Tryz.prog.funcNamed Rows.groundQuotasRow.func = some 13 := by kernel_rfl
theorem closed13 : joinedFacts Tryz.prog 13 Tryz.f13 Rows.groundQuotasSpec Rows.groundQuotasRow = true :=
 joinedFacts_mk groundQuotas_q1 p2 p3 groundQuotas_q4 groundQuotas_q5 rfl p7 rfl p9 groundQuotas_q10 groundQuotas_q11 groundQuotas_q12 groundQuotas_q13 groundQuotas_q14 groundQuotas_q15 groundQuotas_q16 groundQuotas_q17 groundQuotas_q17b groundQuotas_q18 groundQuotas_q19 groundQuotas_q20 groundQuotas_q21 groundQuotas_p22 groundQuotas_q23 p23b p24 groundQuotas_p24b groundQuotas_p24c (by kernel_rfl) groundQuotas_q26 groundQuotas_q27 groundQuotas_q28
end Go.Proofs.YthhidpjikbhljaaGreatDoor
