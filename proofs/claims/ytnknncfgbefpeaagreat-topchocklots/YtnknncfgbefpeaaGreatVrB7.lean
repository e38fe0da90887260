/-
  What is proved: closed facts of the row.
-/
import Derived.Test.YtnknncfgbefpeaaGreatVrB6
set_option linter.unusedSectionVars false
set_option linter.unusedSimpArgs false
set_option linter.unusedVariables false
set_option linter.unnecessarySimpa false
set_option linter.deprecated false
namespace Go.Proofs.YtnknncfgbefpeaaGreat
theorem qc1 : (Rows.topChockLotsRow.inPlace == Tryz.prog.inPlace 3) = true := by kernel_rfl
theorem qc2 : (Rows.topChockLotsRow.unfollowed == Tryz.prog.unfollowed 3) = true := by kernel_rfl
theorem qc3 : (Rows.topChockLotsRow.recurses == Tryz.prog.recurses 3) = true := by kernel_rfl
theorem qc4 : (Rows.topChockLotsRow.named == Tryz.prog.varsNamed 3) = true := by kernel_rfl
theorem qea : Rows.topChockLotsRow.wf (OpenSpec.ofChange Rows.topChockLotsSpec) = true := by kernel_rfl
theorem qeb : Tryz.f3.params.all (Tryz.prog.readableRec ·) = true := by kernel_rfl
theorem qec : namedTie Tryz.prog Rows.topChockLotsRow.named Rows.topChockLotsSpec.vars = true := by kernel_rfl
theorem qc5 : (Rows.topChockLotsRow.maps == (Tryz.f3.params.toList ++ Rows.topChockLotsSpec.plain.varTypes Tryz.prog).any (Tryz.prog.mapsRec ·)) = true := by kernel_rfl
theorem qc6 : (Rows.topChockLotsRow.ifaces == (Tryz.f3.params.toList ++ Rows.topChockLotsSpec.plain.varTypes Tryz.prog).any (Tryz.prog.ifacesRec ·)) = true := by kernel_rfl
theorem qc7 : (Rows.topChockLotsRow.mapsOut == Tryz.prog.mapsAmong Tryz.f3.resultTypes.toList) = true := by kernel_rfl
theorem qc8 : (Rows.topChockLotsRow.loops == (Tryz.f3.params.toList ++ Rows.topChockLotsSpec.plain.varTypes Tryz.prog).any (Tryz.prog.loopsFrom ·)) = true := by kernel_rfl
theorem qch : (Rows.topChockLotsRow.wideKeys == (Tryz.f3.params.toList ++ Rows.topChockLotsSpec.plain.varTypes Tryz.prog ++ Tryz.f3.resultTypes.toList).any (Tryz.prog.wideKeysFrom ·)) = true := by kernel_rfl
theorem qc9 : Rows.topChockLotsSpec.vars.all (Tryz.prog.varReadable ·) = true := by kernel_rfl
theorem qda : Tryz.f3.resultTypes.all (fun t => Tryz.prog.readableRec t && decide (t < Tryz.prog.types.size)) = true := by kernel_rfl
theorem qdb : (Rows.topChockLotsRow.ifacesOut == Tryz.f3.resultTypes.toList.any (Tryz.prog.ifacesRec ·)) = true := by kernel_rfl
theorem qdc : (Rows.topChockLotsRow.loopsOut == Tryz.f3.resultTypes.toList.any (Tryz.prog.loopsFrom ·)) = true := by kernel_rfl
theorem qdd : Rows.topChockLotsRow.shortTexts.isNone = true := by kernel_rfl
theorem qde : (Rows.topChockLotsRow.pinned == Rows.topChockLotsRow.pinnedBy) = true := by kernel_rfl
theorem qdf : (Rows.topChockLotsRow.veiled == (Tryz.f3.params.toList ++ Rows.topChockLotsSpec.plain.varTypes Tryz.prog ++ Tryz.f3.resultTypes.toList).any (Tryz.prog.veiledRec ·)) = true := by kernel_rfl
theorem qdg : Rows.topChockLotsRow.veiledFits Tryz.prog Tryz.f3.params.toList (Tryz.f3.params.toList ++ Rows.topChockLotsSpec.plain.varTypes Tryz.prog ++ Tryz.f3.resultTypes.toList) = true := by kernel_rfl
theorem qdh : (Rows.topChockLotsRow.plainKeys == Tryz.prog.plainKeys) = true := by kernel_rfl
theorem qci : (Rows.topChockLotsRow.lifted == Tryz.prog.liftsFinal) = true := by kernel_rfl
theorem qcj : (Tryz.prog.make == some Rows.topChockLotsRow.make) = true := by kernel_rfl
theorem qwv : Tryz.f3.isInstance Tryz.prog Rows.topChockLotsRow.origin Rows.topChockLotsRow.targs := of_decide_eq_true (by kernel_rfl)
theorem qww : Tryz.f3.isWrapper Tryz.prog Rows.topChockLotsRow.wrapper Rows.topChockLotsRow.mainSum := by unfold Func.isWrapper; first | (rw [if_pos (by decide +kernel)]; kernel_rfl) | (rw [if_neg (by decide +kernel)]; exact ⟨rfl, rfl⟩)
theorem qt5 : Tryz.prog.funcNamed Rows.topChockLotsRow.func = some 3 := by kernel_rfl
theorem qrk : joinedFacts Tryz.prog 3 Tryz.f3 Rows.topChockLotsSpec Rows.topChockLotsRow = true :=
 qe2 qea p2 p3 qeb qec rfl p7 rfl p9 qc1 qc2 qc3 qc4 qc5 qc6 qc7 qc8 qch qc9 qda qdb qdc qdh qdd p23b p24 qci qcj (by kernel_rfl) qde qdf qdg
end Go.Proofs.YtnknncfgbefpeaaGreat
