/-
  What is proved: closed facts of the row.
-/
import Derived.Test.YtfmnmoiaemejjaaGreatVrB5
set_option linter.unusedSectionVars false
set_option linter.unusedSimpArgs false
set_option linter.unusedVariables false
set_option linter.unnecessarySimpa false
set_option linter.deprecated false
namespace Go.Proofs.YtfmnmoiaemejjaaGreat
theorem qiu : (Rows.topChockBackRow.inPlace == Tryz.prog.inPlace 3) = true := by kernel_rfl
theorem qiv : (Rows.topChockBackRow.unfollowed == Tryz.prog.unfollowed 3) = true := by kernel_rfl
theorem qiw : (Rows.topChockBackRow.recurses == Tryz.prog.recurses 3) = true := by kernel_rfl
theorem qix : (Rows.topChockBackRow.named == Tryz.prog.varsNamed 3) = true := by kernel_rfl
theorem qkn : Rows.topChockBackRow.wf (OpenSpec.ofChange Rows.topChockBackSpec) = true := by kernel_rfl
theorem qko : Tryz.f3.params.all (Tryz.prog.readableRec ·) = true := by kernel_rfl
theorem qkp : namedTie Tryz.prog Rows.topChockBackRow.named Rows.topChockBackSpec.vars = true := by kernel_rfl
theorem qiy : (Rows.topChockBackRow.maps == (Tryz.f3.params.toList ++ Rows.topChockBackSpec.plain.varTypes Tryz.prog).any (Tryz.prog.mapsRec ·)) = true := by kernel_rfl
theorem qiz : (Rows.topChockBackRow.ifaces == (Tryz.f3.params.toList ++ Rows.topChockBackSpec.plain.varTypes Tryz.prog).any (Tryz.prog.ifacesRec ·)) = true := by kernel_rfl
theorem qi0 : (Rows.topChockBackRow.mapsOut == Tryz.prog.mapsAmong Tryz.f3.resultTypes.toList) = true := by kernel_rfl
theorem qi1 : (Rows.topChockBackRow.loops == (Tryz.f3.params.toList ++ Rows.topChockBackSpec.plain.varTypes Tryz.prog).any (Tryz.prog.loopsFrom ·)) = true := by kernel_rfl
theorem qhj : (Rows.topChockBackRow.wideKeys == (Tryz.f3.params.toList ++ Rows.topChockBackSpec.plain.varTypes Tryz.prog ++ Tryz.f3.resultTypes.toList).any (Tryz.prog.wideKeysFrom ·)) = true := by kernel_rfl
theorem qi2 : Rows.topChockBackSpec.vars.all (Tryz.prog.varReadable ·) = true := by kernel_rfl
theorem qi3 : Tryz.f3.resultTypes.all (fun t => Tryz.prog.readableRec t && decide (t < Tryz.prog.types.size)) = true := by kernel_rfl
theorem qi4 : (Rows.topChockBackRow.ifacesOut == Tryz.f3.resultTypes.toList.any (Tryz.prog.ifacesRec ·)) = true := by kernel_rfl
theorem qi5 : (Rows.topChockBackRow.loopsOut == Tryz.f3.resultTypes.toList.any (Tryz.prog.loopsFrom ·)) = true := by kernel_rfl
theorem qi6 : Rows.topChockBackRow.shortTexts.isNone = true := by kernel_rfl
theorem qi7 : (Rows.topChockBackRow.pinned == Rows.topChockBackRow.pinnedBy) = true := by kernel_rfl
theorem qi8 : (Rows.topChockBackRow.veiled == (Tryz.f3.params.toList ++ Rows.topChockBackSpec.plain.varTypes Tryz.prog ++ Tryz.f3.resultTypes.toList).any (Tryz.prog.veiledRec ·)) = true := by kernel_rfl
theorem qi9 : Rows.topChockBackRow.veiledFits Tryz.prog Tryz.f3.params.toList (Tryz.f3.params.toList ++ Rows.topChockBackSpec.plain.varTypes Tryz.prog ++ Tryz.f3.resultTypes.toList) = true := by kernel_rfl
theorem qja : (Rows.topChockBackRow.plainKeys == Tryz.prog.plainKeys) = true := by kernel_rfl
theorem qhk : (Rows.topChockBackRow.lifted == Tryz.prog.liftsFinal) = true := by kernel_rfl
theorem qhl : (Tryz.prog.make == some Rows.topChockBackRow.make) = true := by kernel_rfl
theorem q8v : Tryz.f3.isInstance Tryz.prog Rows.topChockBackRow.origin Rows.topChockBackRow.targs := of_decide_eq_true (by kernel_rfl)
theorem q8w : Tryz.f3.isWrapper Tryz.prog Rows.topChockBackRow.wrapper Rows.topChockBackRow.mainSum := by unfold Func.isWrapper; first | (rw [if_pos (by decide +kernel)]; kernel_rfl) | (rw [if_neg (by decide +kernel)]; exact ⟨rfl, rfl⟩)
theorem q5m : Tryz.prog.funcNamed Rows.topChockBackRow.func = some 3 := by kernel_rfl
theorem q2s : joinedFacts Tryz.prog 3 Tryz.f3 Rows.topChockBackSpec Rows.topChockBackRow = true :=
 qlk qkn p2 p3 qko qkp rfl p7 rfl p9 qiu qiv qiw qix qiy qiz qi0 qi1 qhj qi2 qi3 qi4 qi5 qja qi6 p23b p24 qhk qhl (by kernel_rfl) qi7 qi8 qi9
end Go.Proofs.YtfmnmoiaemejjaaGreat
