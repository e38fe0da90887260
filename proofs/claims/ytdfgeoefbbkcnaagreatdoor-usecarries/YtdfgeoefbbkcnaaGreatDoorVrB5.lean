/-
  What is proved: closed facts of the row.
-/
import Derived.Test.YtdfgeoefbbkcnaaGreatDoorVrB4
set_option linter.unusedSectionVars false
set_option linter.unusedSimpArgs false
set_option linter.unusedVariables false
set_option linter.unnecessarySimpa false
set_option linter.deprecated false
namespace Go.Proofs.YtdfgeoefbbkcnaaGreatDoor
theorem qc5 : (Rows.useCarriesRow.inPlace == Tryz.prog.inPlace 12) = true := by kernel_rfl
theorem qc6 : (Rows.useCarriesRow.unfollowed == Tryz.prog.unfollowed 12) = true := by kernel_rfl
theorem qc7 : (Rows.useCarriesRow.recurses == Tryz.prog.recurses 12) = true := by kernel_rfl
theorem qc8 : (Rows.useCarriesRow.named == Tryz.prog.varsNamed 12) = true := by kernel_rfl
theorem qfc : Rows.useCarriesRow.wf (OpenSpec.ofChange Rows.useCarriesSpec) = true := by kernel_rfl
theorem qfd : Tryz.f12.params.all (Tryz.prog.readableRec ·) = true := by kernel_rfl
theorem qfe : namedTie Tryz.prog Rows.useCarriesRow.named Rows.useCarriesSpec.vars = true := by kernel_rfl
theorem qc9 : (Rows.useCarriesRow.maps == (Tryz.f12.params.toList ++ Rows.useCarriesSpec.plain.varTypes Tryz.prog).any (Tryz.prog.mapsRec ·)) = true := by kernel_rfl
theorem qda : (Rows.useCarriesRow.ifaces == (Tryz.f12.params.toList ++ Rows.useCarriesSpec.plain.varTypes Tryz.prog).any (Tryz.prog.ifacesRec ·)) = true := by kernel_rfl
theorem qdb : (Rows.useCarriesRow.mapsOut == Tryz.prog.mapsAmong Tryz.f12.resultTypes.toList) = true := by kernel_rfl
theorem qdc : (Rows.useCarriesRow.loops == (Tryz.f12.params.toList ++ Rows.useCarriesSpec.plain.varTypes Tryz.prog).any (Tryz.prog.loopsFrom ·)) = true := by kernel_rfl
theorem qcz : (Rows.useCarriesRow.wideKeys == (Tryz.f12.params.toList ++ Rows.useCarriesSpec.plain.varTypes Tryz.prog ++ Tryz.f12.resultTypes.toList).any (Tryz.prog.wideKeysFrom ·)) = true := by kernel_rfl
theorem qdd : Rows.useCarriesSpec.vars.all (Tryz.prog.varReadable ·) = true := by kernel_rfl
theorem qde : Tryz.f12.resultTypes.all (fun t => Tryz.prog.readableRec t && decide (t < Tryz.prog.types.size)) = true := by kernel_rfl
theorem qdf : (Rows.useCarriesRow.ifacesOut == Tryz.f12.resultTypes.toList.any (Tryz.prog.ifacesRec ·)) = true := by kernel_rfl
theorem qdg : (Rows.useCarriesRow.loopsOut == Tryz.f12.resultTypes.toList.any (Tryz.prog.loopsFrom ·)) = true := by kernel_rfl
theorem qdh : Rows.useCarriesRow.shortTexts.isNone = true := by kernel_rfl
theorem qdi : (Rows.useCarriesRow.pinned == Rows.useCarriesRow.pinnedBy) = true := by kernel_rfl
theorem qdj : (Rows.useCarriesRow.veiled == (Tryz.f12.params.toList ++ Rows.useCarriesSpec.plain.varTypes Tryz.prog ++ Tryz.f12.resultTypes.toList).any (Tryz.prog.veiledRec ·)) = true := by kernel_rfl
theorem qdk : Rows.useCarriesRow.veiledFits Tryz.prog Tryz.f12.params.toList (Tryz.f12.params.toList ++ Rows.useCarriesSpec.plain.varTypes Tryz.prog ++ Tryz.f12.resultTypes.toList) = true := by kernel_rfl
theorem qdl : (Rows.useCarriesRow.plainKeys == Tryz.prog.plainKeys) = true := by kernel_rfl
theorem qc0 : (Rows.useCarriesRow.lifted == Tryz.prog.liftsFinal) = true := by kernel_rfl
theorem qc1 : (Tryz.prog.make == some Rows.useCarriesRow.make) = true := by kernel_rfl
theorem qu9 : Tryz.f12.isInstance Tryz.prog Rows.useCarriesRow.origin Rows.useCarriesRow.targs := of_decide_eq_true (by kernel_rfl)
theorem qva : Tryz.f12.isWrapper Tryz.prog Rows.useCarriesRow.wrapper Rows.useCarriesRow.mainSum := by unfold Func.isWrapper; first | (rw [if_pos (by decide +kernel)]; kernel_rfl) | (rw [if_neg (by decide +kernel)]; exact ⟨rfl, rfl⟩)
theorem named12 : Tryz.prog.funcNamed Rows.useCarriesRow.func = some 12 := by kernel_rfl
theorem qpk : joinedFacts Tryz.prog 12 Tryz.f12 Rows.useCarriesSpec Rows.useCarriesRow = true :=
 qc3 qfc p2 p3 qfd qfe rfl p7 rfl p9 qc5 qc6 qc7 qc8 qc9 qda qdb qdc qcz qdd qde qdf qdg qdl qdh p23b p24 qc0 qc1 (by kernel_rfl) qdi qdj qdk
end Go.Proofs.YtdfgeoefbbkcnaaGreatDoor
