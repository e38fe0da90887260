/-
  What is proved: closed facts of the row.
-/
import Derived.Test.YtfmnmoiaemejjaaGreatVrB6
set_option linter.unusedSectionVars false
set_option linter.unusedSimpArgs false
set_option linter.unusedVariables false
set_option linter.unnecessarySimpa false
set_option linter.deprecated false
namespace Go.Proofs.YtfmnmoiaemejjaaGreat
theorem qgq : (Rows.topChockTotalsRow.inPlace == Tryz.prog.inPlace 5) = true := by kernel_rfl
theorem qgr : (Rows.topChockTotalsRow.unfollowed == Tryz.prog.unfollowed 5) = true := by kernel_rfl
theorem qgs : (Rows.topChockTotalsRow.recurses == Tryz.prog.recurses 5) = true := by kernel_rfl
theorem qgt : (Rows.topChockTotalsRow.named == Tryz.prog.varsNamed 5) = true := by kernel_rfl
theorem qig : Rows.topChockTotalsRow.wf (OpenSpec.ofChange Rows.topChockTotalsSpec) = true := by kernel_rfl
theorem qih : Tryz.f5.params.all (Tryz.prog.readableRec ·) = true := by kernel_rfl
theorem qii : namedTie Tryz.prog Rows.topChockTotalsRow.named Rows.topChockTotalsSpec.vars = true := by kernel_rfl
theorem qgu : (Rows.topChockTotalsRow.maps == (Tryz.f5.params.toList ++ Rows.topChockTotalsSpec.plain.varTypes Tryz.prog).any (Tryz.prog.mapsRec ·)) = true := by kernel_rfl
theorem qgv : (Rows.topChockTotalsRow.ifaces == (Tryz.f5.params.toList ++ Rows.topChockTotalsSpec.plain.varTypes Tryz.prog).any (Tryz.prog.ifacesRec ·)) = true := by kernel_rfl
theorem qgw : (Rows.topChockTotalsRow.mapsOut == Tryz.prog.mapsAmong Tryz.f5.resultTypes.toList) = true := by kernel_rfl
theorem qgx : (Rows.topChockTotalsRow.loops == (Tryz.f5.params.toList ++ Rows.topChockTotalsSpec.plain.varTypes Tryz.prog).any (Tryz.prog.loopsFrom ·)) = true := by kernel_rfl
theorem qf9 : (Rows.topChockTotalsRow.wideKeys == (Tryz.f5.params.toList ++ Rows.topChockTotalsSpec.plain.varTypes Tryz.prog ++ Tryz.f5.resultTypes.toList).any (Tryz.prog.wideKeysFrom ·)) = true := by kernel_rfl
theorem qgy : Rows.topChockTotalsSpec.vars.all (Tryz.prog.varReadable ·) = true := by kernel_rfl
theorem qgz : Tryz.f5.resultTypes.all (fun t => Tryz.prog.readableRec t && decide (t < Tryz.prog.types.size)) = true := by kernel_rfl
theorem qg0 : (Rows.topChockTotalsRow.ifacesOut == Tryz.f5.resultTypes.toList.any (Tryz.prog.ifacesRec ·)) = true := by kernel_rfl
theorem qg1 : (Rows.topChockTotalsRow.loopsOut == Tryz.f5.resultTypes.toList.any (Tryz.prog.loopsFrom ·)) = true := by kernel_rfl
theorem qg2 : Rows.topChockTotalsRow.shortTexts.isNone = true := by kernel_rfl
theorem qg3 : (Rows.topChockTotalsRow.pinned == Rows.topChockTotalsRow.pinnedBy) = true := by kernel_rfl
theorem qg4 : (Rows.topChockTotalsRow.veiled == (Tryz.f5.params.toList ++ Rows.topChockTotalsSpec.plain.varTypes Tryz.prog ++ Tryz.f5.resultTypes.toList).any (Tryz.prog.veiledRec ·)) = true := by kernel_rfl
theorem qg5 : Rows.topChockTotalsRow.veiledFits Tryz.prog Tryz.f5.params.toList (Tryz.f5.params.toList ++ Rows.topChockTotalsSpec.plain.varTypes Tryz.prog ++ Tryz.f5.resultTypes.toList) = true := by kernel_rfl
theorem qg6 : (Rows.topChockTotalsRow.plainKeys == Tryz.prog.plainKeys) = true := by kernel_rfl
theorem qga : (Rows.topChockTotalsRow.lifted == Tryz.prog.liftsFinal) = true := by kernel_rfl
theorem qgb : (Tryz.prog.make == some Rows.topChockTotalsRow.make) = true := by kernel_rfl
theorem q9z : Tryz.f5.isInstance Tryz.prog Rows.topChockTotalsRow.origin Rows.topChockTotalsRow.targs := of_decide_eq_true (by kernel_rfl)
theorem q90 : Tryz.f5.isWrapper Tryz.prog Rows.topChockTotalsRow.wrapper Rows.topChockTotalsRow.mainSum := by unfold Func.isWrapper; first | (rw [if_pos (by decide +kernel)]; kernel_rfl) | (rw [if_neg (by decide +kernel)]; exact ⟨rfl, rfl⟩)
theorem q6c : Tryz.prog.funcNamed Rows.topChockTotalsRow.func = some 5 := by kernel_rfl
theorem q3o : joinedFacts Tryz.prog 5 Tryz.f5 Rows.topChockTotalsSpec Rows.topChockTotalsRow = true :=
 ql6 qig p2 p3 qih qii rfl p7 rfl p9 qgq qgr qgs qgt qgu qgv qgw qgx qf9 qgy qgz qg0 qg1 qg6 qg2 p23b p24 qga qgb (by kernel_rfl) qg3 qg4 qg5
end Go.Proofs.YtfmnmoiaemejjaaGreat
