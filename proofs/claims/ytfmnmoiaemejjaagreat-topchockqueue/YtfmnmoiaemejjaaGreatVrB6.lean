/-
  What is proved: closed facts of the row.
-/
import Derived.Test.YtfmnmoiaemejjaaGreatVrB5
set_option linter.unusedSectionVars false
set_option linter.unusedSimpArgs false
set_option linter.unusedVariables false
set_option linter.unnecessarySimpa false
set_option linter.deprecated false
namespace Go.Proofs.YtfmnmoiaemejjaaGreat
theorem qhj : (Rows.topChockQueueRow.inPlace == Tryz.prog.inPlace 4) = true := by kernel_rfl
theorem qhk : (Rows.topChockQueueRow.unfollowed == Tryz.prog.unfollowed 4) = true := by kernel_rfl
theorem qhl : (Rows.topChockQueueRow.recurses == Tryz.prog.recurses 4) = true := by kernel_rfl
theorem qhm : (Rows.topChockQueueRow.named == Tryz.prog.varsNamed 4) = true := by kernel_rfl
theorem qi2 : Rows.topChockQueueRow.wf (OpenSpec.ofChange Rows.topChockQueueSpec) = true := by kernel_rfl
theorem qi3 : Tryz.f4.params.all (Tryz.prog.readableRec ·) = true := by kernel_rfl
theorem qi4 : namedTie Tryz.prog Rows.topChockQueueRow.named Rows.topChockQueueSpec.vars = true := by kernel_rfl
theorem qhn : (Rows.topChockQueueRow.maps == (Tryz.f4.params.toList ++ Rows.topChockQueueSpec.plain.varTypes Tryz.prog).any (Tryz.prog.mapsRec ·)) = true := by kernel_rfl
theorem qho : (Rows.topChockQueueRow.ifaces == (Tryz.f4.params.toList ++ Rows.topChockQueueSpec.plain.varTypes Tryz.prog).any (Tryz.prog.ifacesRec ·)) = true := by kernel_rfl
theorem qhp : (Rows.topChockQueueRow.mapsOut == Tryz.prog.mapsAmong Tryz.f4.resultTypes.toList) = true := by kernel_rfl
theorem qhq : (Rows.topChockQueueRow.loops == (Tryz.f4.params.toList ++ Rows.topChockQueueSpec.plain.varTypes Tryz.prog).any (Tryz.prog.loopsFrom ·)) = true := by kernel_rfl
theorem qgm : (Rows.topChockQueueRow.wideKeys == (Tryz.f4.params.toList ++ Rows.topChockQueueSpec.plain.varTypes Tryz.prog ++ Tryz.f4.resultTypes.toList).any (Tryz.prog.wideKeysFrom ·)) = true := by kernel_rfl
theorem qhr : Rows.topChockQueueSpec.vars.all (Tryz.prog.varReadable ·) = true := by kernel_rfl
theorem qhs : Tryz.f4.resultTypes.all (fun t => Tryz.prog.readableRec t && decide (t < Tryz.prog.types.size)) = true := by kernel_rfl
theorem qht : (Rows.topChockQueueRow.ifacesOut == Tryz.f4.resultTypes.toList.any (Tryz.prog.ifacesRec ·)) = true := by kernel_rfl
theorem qhu : (Rows.topChockQueueRow.loopsOut == Tryz.f4.resultTypes.toList.any (Tryz.prog.loopsFrom ·)) = true := by kernel_rfl
theorem qhv : Rows.topChockQueueRow.shortTexts.isNone = true := by kernel_rfl
theorem qhw : (Rows.topChockQueueRow.pinned == Rows.topChockQueueRow.pinnedBy) = true := by kernel_rfl
theorem qhx : (Rows.topChockQueueRow.veiled == (Tryz.f4.params.toList ++ Rows.topChockQueueSpec.plain.varTypes Tryz.prog ++ Tryz.f4.resultTypes.toList).any (Tryz.prog.veiledRec ·)) = true := by kernel_rfl
theorem qhy : Rows.topChockQueueRow.veiledFits Tryz.prog Tryz.f4.params.toList (Tryz.f4.params.toList ++ Rows.topChockQueueSpec.plain.varTypes Tryz.prog ++ Tryz.f4.resultTypes.toList) = true := by kernel_rfl
theorem qhz : (Rows.topChockQueueRow.plainKeys == Tryz.prog.plainKeys) = true := by kernel_rfl
theorem qgn : (Rows.topChockQueueRow.lifted == Tryz.prog.liftsFinal) = true := by kernel_rfl
theorem qgo : (Tryz.prog.make == some Rows.topChockQueueRow.make) = true := by kernel_rfl
theorem q78 : Tryz.f4.isInstance Tryz.prog Rows.topChockQueueRow.origin Rows.topChockQueueRow.targs := of_decide_eq_true (by kernel_rfl)
theorem q79 : Tryz.f4.isWrapper Tryz.prog Rows.topChockQueueRow.wrapper Rows.topChockQueueRow.mainSum := by unfold Func.isWrapper; first | (rw [if_pos (by decide +kernel)]; kernel_rfl) | (rw [if_neg (by decide +kernel)]; exact ⟨rfl, rfl⟩)
theorem q4n : Tryz.prog.funcNamed Rows.topChockQueueRow.func = some 4 := by kernel_rfl
theorem q1s : joinedFacts Tryz.prog 4 Tryz.f4 Rows.topChockQueueSpec Rows.topChockQueueRow = true :=
 qk8 qi2 p2 p3 qi3 qi4 rfl p7 rfl p9 qhj qhk qhl qhm qhn qho qhp qhq qgm qhr qhs qht qhu qhz qhv p23b p24 qgn qgo (by kernel_rfl) qhw qhx qhy
end Go.Proofs.YtfmnmoiaemejjaaGreat
