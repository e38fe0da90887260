/-
  What is proved: closed facts of the row of UseMatches.
-/
import Derived.Test.YtdfgeoefbbkcnaaGreatDoorVaB2
set_option linter.unusedSectionVars false
set_option linter.unusedSimpArgs false
set_option linter.unusedVariables false
set_option linter.unnecessarySimpa false
set_option linter.deprecated false
namespace Go.Proofs.YtdfgeoefbbkcnaaGreatDoor
theorem useMatches_q10 : (Rows.useMatchesRow.inPlace == Tryz.prog.inPlace 8) = true := by kernel_rfl
theorem useMatches_q11 : (Rows.useMatchesRow.unfollowed == Tryz.prog.unfollowed 8) = true := by kernel_rfl
theorem useMatches_q12 : (Rows.useMatchesRow.recurses == Tryz.prog.recurses 8) = true := by kernel_rfl
theorem useMatches_q13 : (Rows.useMatchesRow.named == Tryz.prog.varsNamed 8) = true := by kernel_rfl
theorem useMatches_q1 : Rows.useMatchesRow.wf (OpenSpec.ofChange Rows.useMatchesSpec) = true := by kernel_rfl
theorem useMatches_q4 : Tryz.f8.params.all (Tryz.prog.readableRec ·) = true := by kernel_rfl
theorem useMatches_q5 : namedTie Tryz.prog Rows.useMatchesRow.named Rows.useMatchesSpec.vars = true := by kernel_rfl
theorem useMatches_q14 : (Rows.useMatchesRow.maps == (Tryz.f8.params.toList ++ Rows.useMatchesSpec.plain.varTypes Tryz.prog).any (Tryz.prog.mapsRec ·)) = true := by kernel_rfl
theorem useMatches_q15 : (Rows.useMatchesRow.ifaces == (Tryz.f8.params.toList ++ Rows.useMatchesSpec.plain.varTypes Tryz.prog).any (Tryz.prog.ifacesRec ·)) = true := by kernel_rfl
theorem useMatches_q16 : (Rows.useMatchesRow.mapsOut == Tryz.prog.mapsAmong Tryz.f8.resultTypes.toList) = true := by kernel_rfl
theorem useMatches_q17 : (Rows.useMatchesRow.loops == (Tryz.f8.params.toList ++ Rows.useMatchesSpec.plain.varTypes Tryz.prog).any (Tryz.prog.loopsFrom ·)) = true := by kernel_rfl
theorem useMatches_q17b : (Rows.useMatchesRow.wideKeys == (Tryz.f8.params.toList ++ Rows.useMatchesSpec.plain.varTypes Tryz.prog ++ Tryz.f8.resultTypes.toList).any (Tryz.prog.wideKeysFrom ·)) = true := by kernel_rfl
theorem useMatches_q18 : Rows.useMatchesSpec.vars.all (Tryz.prog.varReadable ·) = true := by kernel_rfl
theorem useMatches_q19 : Tryz.f8.resultTypes.all (fun t => Tryz.prog.readableRec t && decide (t < Tryz.prog.types.size)) = true := by kernel_rfl
theorem useMatches_q20 : (Rows.useMatchesRow.ifacesOut == Tryz.f8.resultTypes.toList.any (Tryz.prog.ifacesRec ·)) = true := by kernel_rfl
theorem useMatches_q21 : (Rows.useMatchesRow.loopsOut == Tryz.f8.resultTypes.toList.any (Tryz.prog.loopsFrom ·)) = true := by kernel_rfl
theorem useMatches_q23 : Rows.useMatchesRow.shortTexts.isNone = true := by kernel_rfl
theorem useMatches_q26 : (Rows.useMatchesRow.pinned == Rows.useMatchesRow.pinnedBy) = true := by kernel_rfl
theorem useMatches_q27 : (Rows.useMatchesRow.veiled == (Tryz.f8.params.toList ++ Rows.useMatchesSpec.plain.varTypes Tryz.prog ++ Tryz.f8.resultTypes.toList).any (Tryz.prog.veiledRec ·)) = true := by kernel_rfl
theorem useMatches_q28 : Rows.useMatchesRow.veiledFits Tryz.prog Tryz.f8.params.toList (Tryz.f8.params.toList ++ Rows.useMatchesSpec.plain.varTypes Tryz.prog ++ Tryz.f8.resultTypes.toList) = true := by kernel_rfl
theorem useMatches_p22 : (Rows.useMatchesRow.plainKeys == Tryz.prog.plainKeys) = true := by kernel_rfl
theorem useMatches_p24b : (Rows.useMatchesRow.lifted == Tryz.prog.liftsFinal) = true := by kernel_rfl
theorem useMatches_p24c : (Tryz.prog.make == some Rows.useMatchesRow.make) = true := by kernel_rfl
theorem inst8 : Tryz.f8.isInstance Tryz.prog Rows.useMatchesRow.origin Rows.useMatchesRow.targs := of_decide_eq_true (by kernel_rfl)
theorem wrap8 : Tryz.f8.isWrapper Tryz.prog Rows.useMatchesRow.wrapper Rows.useMatchesRow.mainSum := by unfold Func.isWrapper; first | (rw [if_pos (by decide +kernel)]; kernel_rfl) | (rw [if_neg (by decide +kernel)]; exact ⟨rfl, rfl⟩)
theorem named8 : Tryz.prog.funcNamed Rows.useMatchesRow.func = some 8 := by kernel_rfl
theorem closed8 : joinedFacts Tryz.prog 8 Tryz.f8 Rows.useMatchesSpec Rows.useMatchesRow = true :=
  joinedFacts_mk useMatches_q1 p2 p3 useMatches_q4 useMatches_q5 rfl p7 rfl p9 useMatches_q10 useMatches_q11 useMatches_q12 useMatches_q13 useMatches_q14 useMatches_q15 useMatches_q16 useMatches_q17 useMatches_q17b useMatches_q18 useMatches_q19 useMatches_q20 useMatches_q21 useMatches_p22 useMatches_q23 p23b p24 useMatches_p24b useMatches_p24c (by kernel_rfl) useMatches_q26 useMatches_q27 useMatches_q28
end Go.Proofs.YtdfgeoefbbkcnaaGreatDoor

