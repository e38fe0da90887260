/-
  What is proved: closed facts of the row of UseRatios.
-/
import Derived.Test.YtdfgeoefbbkcnaaGreatDoorUcB2
set_option linter.unusedSectionVars false
set_option linter.unusedSimpArgs false
set_option linter.unusedVariables false
set_option linter.unnecessarySimpa false
set_option linter.deprecated false
namespace Go.Proofs.YtdfgeoefbbkcnaaGreatDoor
theorem useRatios_q10 : (Rows.useRatiosRow.inPlace == Tryz.prog.inPlace 5) = true := by kernel_rfl
theorem useRatios_q11 : (Rows.useRatiosRow.unfollowed == Tryz.prog.unfollowed 5) = true := by kernel_rfl
theorem useRatios_q12 : (Rows.useRatiosRow.recurses == Tryz.prog.recurses 5) = true := by kernel_rfl
theorem useRatios_q13 : (Rows.useRatiosRow.named == Tryz.prog.varsNamed 5) = true := by kernel_rfl
theorem useRatios_q1 : Rows.useRatiosRow.wf (OpenSpec.ofChange Rows.useRatiosSpec) = true := by kernel_rfl
theorem useRatios_q4 : Tryz.f5.params.all (Tryz.prog.readableRec ·) = true := by kernel_rfl
theorem useRatios_q5 : namedTie Tryz.prog Rows.useRatiosRow.named Rows.useRatiosSpec.vars = true := by kernel_rfl
theorem useRatios_q14 : (Rows.useRatiosRow.maps == (Tryz.f5.params.toList ++ Rows.useRatiosSpec.plain.varTypes Tryz.prog).any (Tryz.prog.mapsRec ·)) = true := by kernel_rfl
theorem useRatios_q15 : (Rows.useRatiosRow.ifaces == (Tryz.f5.params.toList ++ Rows.useRatiosSpec.plain.varTypes Tryz.prog).any (Tryz.prog.ifacesRec ·)) = true := by kernel_rfl
theorem useRatios_q16 : (Rows.useRatiosRow.mapsOut == Tryz.prog.mapsAmong Tryz.f5.resultTypes.toList) = true := by kernel_rfl
theorem useRatios_q17 : (Rows.useRatiosRow.loops == (Tryz.f5.params.toList ++ Rows.useRatiosSpec.plain.varTypes Tryz.prog).any (Tryz.prog.loopsFrom ·)) = true := by kernel_rfl
theorem useRatios_q17b : (Rows.useRatiosRow.wideKeys == (Tryz.f5.params.toList ++ Rows.useRatiosSpec.plain.varTypes Tryz.prog ++ Tryz.f5.resultTypes.toList).any (Tryz.prog.wideKeysFrom ·)) = true := by kernel_rfl
theorem useRatios_q18 : Rows.useRatiosSpec.vars.all (Tryz.prog.varReadable ·) = true := by kernel_rfl
theorem useRatios_q19 : Tryz.f5.resultTypes.all (fun t => Tryz.prog.readableRec t && decide (t < Tryz.prog.types.size)) = true := by kernel_rfl
theorem useRatios_q20 : (Rows.useRatiosRow.ifacesOut == Tryz.f5.resultTypes.toList.any (Tryz.prog.ifacesRec ·)) = true := by kernel_rfl
theorem useRatios_q21 : (Rows.useRatiosRow.loopsOut == Tryz.f5.resultTypes.toList.any (Tryz.prog.loopsFrom ·)) = true := by kernel_rfl
theorem useRatios_q23 : Rows.useRatiosRow.shortTexts.isNone = true := by kernel_rfl
theorem useRatios_q26 : (Rows.useRatiosRow.pinned == Rows.useRatiosRow.pinnedBy) = true := by kernel_rfl
theorem useRatios_q27 : (Rows.useRatiosRow.veiled == (Tryz.f5.params.toList ++ Rows.useRatiosSpec.plain.varTypes Tryz.prog ++ Tryz.f5.resultTypes.toList).any (Tryz.prog.veiledRec ·)) = true := by kernel_rfl
theorem useRatios_q28 : Rows.useRatiosRow.veiledFits Tryz.prog Tryz.f5.params.toList (Tryz.f5.params.toList ++ Rows.useRatiosSpec.plain.varTypes Tryz.prog ++ Tryz.f5.resultTypes.toList) = true := by kernel_rfl
theorem useRatios_p22 : (Rows.useRatiosRow.plainKeys == Tryz.prog.plainKeys) = true := by kernel_rfl
theorem useRatios_p24b : (Rows.useRatiosRow.lifted == Tryz.prog.liftsFinal) = true := by kernel_rfl
theorem useRatios_p24c : (Tryz.prog.make == some Rows.useRatiosRow.make) = true := by kernel_rfl
theorem inst5 : Tryz.f5.isInstance Tryz.prog Rows.useRatiosRow.origin Rows.useRatiosRow.targs := of_decide_eq_true (by kernel_rfl)
theorem wrap5 : Tryz.f5.isWrapper Tryz.prog Rows.useRatiosRow.wrapper Rows.useRatiosRow.mainSum := by unfold Func.isWrapper; first | (rw [if_pos (by decide +kernel)]; kernel_rfl) | (rw [if_neg (by decide +kernel)]; exact ⟨rfl, rfl⟩)
theorem named5 : Tryz.prog.funcNamed Rows.useRatiosRow.func = some 5 := by kernel_rfl
theorem closed5 : joinedFacts Tryz.prog 5 Tryz.f5 Rows.useRatiosSpec Rows.useRatiosRow = true :=
  joinedFacts_mk useRatios_q1 p2 p3 useRatios_q4 useRatios_q5 rfl p7 rfl p9 useRatios_q10 useRatios_q11 useRatios_q12 useRatios_q13 useRatios_q14 useRatios_q15 useRatios_q16 useRatios_q17 useRatios_q17b useRatios_q18 useRatios_q19 useRatios_q20 useRatios_q21 useRatios_p22 useRatios_q23 p23b p24 useRatios_p24b useRatios_p24c (by kernel_rfl) useRatios_q26 useRatios_q27 useRatios_q28
end Go.Proofs.YtdfgeoefbbkcnaaGreatDoor

