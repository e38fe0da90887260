/-
  What is proved: closed facts of the row of UseGreatest.
-/
import Derived.Test.YtdfgeoefbbkcnaaGreatDoorVaB2
set_option linter.unusedSectionVars false
set_option linter.unusedSimpArgs false
set_option linter.unusedVariables false
set_option linter.unnecessarySimpa false
set_option linter.deprecated false
namespace Go.Proofs.YtdfgeoefbbkcnaaGreatDoor
theorem useGreatest_q10 : (Rows.useGreatestRow.inPlace == Tryz.prog.inPlace 15) = true := by kernel_rfl
theorem useGreatest_q11 : (Rows.useGreatestRow.unfollowed == Tryz.prog.unfollowed 15) = true := by kernel_rfl
theorem useGreatest_q12 : (Rows.useGreatestRow.recurses == Tryz.prog.recurses 15) = true := by kernel_rfl
theorem useGreatest_q13 : (Rows.useGreatestRow.named == Tryz.prog.varsNamed 15) = true := by kernel_rfl
theorem useGreatest_q1 : Rows.useGreatestRow.wf (OpenSpec.ofChange Rows.useGreatestSpec) = true := by kernel_rfl
theorem useGreatest_q4 : Tryz.f15.params.all (Tryz.prog.readableRec ·) = true := by kernel_rfl
theorem useGreatest_q5 : namedTie Tryz.prog Rows.useGreatestRow.named Rows.useGreatestSpec.vars = true := by kernel_rfl
theorem useGreatest_q14 : (Rows.useGreatestRow.maps == (Tryz.f15.params.toList ++ Rows.useGreatestSpec.plain.varTypes Tryz.prog).any (Tryz.prog.mapsRec ·)) = true := by kernel_rfl
theorem useGreatest_q15 : (Rows.useGreatestRow.ifaces == (Tryz.f15.params.toList ++ Rows.useGreatestSpec.plain.varTypes Tryz.prog).any (Tryz.prog.ifacesRec ·)) = true := by kernel_rfl
theorem useGreatest_q16 : (Rows.useGreatestRow.mapsOut == Tryz.prog.mapsAmong Tryz.f15.resultTypes.toList) = true := by kernel_rfl
theorem useGreatest_q17 : (Rows.useGreatestRow.loops == (Tryz.f15.params.toList ++ Rows.useGreatestSpec.plain.varTypes Tryz.prog).any (Tryz.prog.loopsFrom ·)) = true := by kernel_rfl
theorem useGreatest_q17b : (Rows.useGreatestRow.wideKeys == (Tryz.f15.params.toList ++ Rows.useGreatestSpec.plain.varTypes Tryz.prog ++ Tryz.f15.resultTypes.toList).any (Tryz.prog.wideKeysFrom ·)) = true := by kernel_rfl
theorem useGreatest_q18 : Rows.useGreatestSpec.vars.all (Tryz.prog.varReadable ·) = true := by kernel_rfl
theorem useGreatest_q19 : Tryz.f15.resultTypes.all (fun t => Tryz.prog.readableRec t && decide (t < Tryz.prog.types.size)) = true := by kernel_rfl
theorem useGreatest_q20 : (Rows.useGreatestRow.ifacesOut == Tryz.f15.resultTypes.toList.any (Tryz.prog.ifacesRec ·)) = true := by kernel_rfl
theorem useGreatest_q21 : (Rows.useGreatestRow.loopsOut == Tryz.f15.resultTypes.toList.any (Tryz.prog.loopsFrom ·)) = true := by kernel_rfl
theorem useGreatest_q23 : Rows.useGreatestRow.shortTexts.isNone = true := by kernel_rfl
theorem useGreatest_q26 : (Rows.useGreatestRow.pinned == Rows.useGreatestRow.pinnedBy) = true := by kernel_rfl
theorem useGreatest_q27 : (Rows.useGreatestRow.veiled == (Tryz.f15.params.toList ++ Rows.useGreatestSpec.plain.varTypes Tryz.prog ++ Tryz.f15.resultTypes.toList).any (Tryz.prog.veiledRec ·)) = true := by kernel_rfl
theorem useGreatest_q28 : Rows.useGreatestRow.veiledFits Tryz.prog Tryz.f15.params.toList (Tryz.f15.params.toList ++ Rows.useGreatestSpec.plain.varTypes Tryz.prog ++ Tryz.f15.resultTypes.toList) = true := by kernel_rfl
theorem useGreatest_p22 : (Rows.useGreatestRow.plainKeys == Tryz.prog.plainKeys) = true := by kernel_rfl
theorem useGreatest_p24b : (Rows.useGreatestRow.lifted == Tryz.prog.liftsFinal) = true := by kernel_rfl
theorem useGreatest_p24c : (Tryz.prog.make == some Rows.useGreatestRow.make) = true := by kernel_rfl
theorem inst15 : Tryz.f15.isInstance Tryz.prog Rows.useGreatestRow.origin Rows.useGreatestRow.targs := of_decide_eq_true (by kernel_rfl)
theorem wrap15 : Tryz.f15.isWrapper Tryz.prog Rows.useGreatestRow.wrapper Rows.useGreatestRow.mainSum := by unfold Func.isWrapper; first | (rw [if_pos (by decide +kernel)]; kernel_rfl) | (rw [if_neg (by decide +kernel)]; exact ⟨rfl, rfl⟩)
theorem named15 : Tryz.prog.funcNamed Rows.useGreatestRow.func = some 15 := by kernel_rfl
theorem closed15 : joinedFacts Tryz.prog 15 Tryz.f15 Rows.useGreatestSpec Rows.useGreatestRow = true :=
  joinedFacts_mk useGreatest_q1 p2 p3 useGreatest_q4 useGreatest_q5 rfl p7 rfl p9 useGreatest_q10 useGreatest_q11 useGreatest_q12 useGreatest_q13 useGreatest_q14 useGreatest_q15 useGreatest_q16 useGreatest_q17 useGreatest_q17b useGreatest_q18 useGreatest_q19 useGreatest_q20 useGreatest_q21 useGreatest_p22 useGreatest_q23 p23b p24 useGreatest_p24b useGreatest_p24c (by kernel_rfl) useGreatest_q26 useGreatest_q27 useGreatest_q28
end Go.Proofs.YtdfgeoefbbkcnaaGreatDoor

