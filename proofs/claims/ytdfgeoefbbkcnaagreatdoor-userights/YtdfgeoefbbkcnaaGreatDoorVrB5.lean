/-
  What is proved: closed facts of the row.
-/
import Derived.Test.YtdfgeoefbbkcnaaGreatDoorVrB4
set_option linter.unusedSectionVars false
set_option linter.unusedSimpArgs false
set_option linter.unusedVariables false
set_option linter.unnecessarySimpa false
set_option linter.deprecated false
namespace Go.Proofs.YtdfgeoefbbkcnaaGreatDoor
theorem qgd : (Rows.useRightsRow.inPlace == Tryz.prog.inPlace 11) = true := by kernel_rfl
theorem qge : (Rows.useRightsRow.unfollowed == Tryz.prog.unfollowed 11) = true := by kernel_rfl
theorem qgf : (Rows.useRightsRow.recurses == Tryz.prog.recurses 11) = true := by kernel_rfl
theorem qgg : (Rows.useRightsRow.named == Tryz.prog.varsNamed 11) = true := by kernel_rfl
theorem qii : Rows.useRightsRow.wf (OpenSpec.ofChange Rows.useRightsSpec) = true := by kernel_rfl
theorem qij : Tryz.f11.params.all (Tryz.prog.readableRec ·) = true := by kernel_rfl
theorem qik : namedTie Tryz.prog Rows.useRightsRow.named Rows.useRightsSpec.vars = true := by kernel_rfl
theorem qgh : (Rows.useRightsRow.maps == (Tryz.f11.params.toList ++ Rows.useRightsSpec.plain.varTypes Tryz.prog).any (Tryz.prog.mapsRec ·)) = true := by kernel_rfl
theorem qgi : (Rows.useRightsRow.ifaces == (Tryz.f11.params.toList ++ Rows.useRightsSpec.plain.varTypes Tryz.prog).any (Tryz.prog.ifacesRec ·)) = true := by kernel_rfl
theorem qgj : (Rows.useRightsRow.mapsOut == Tryz.prog.mapsAmong Tryz.f11.resultTypes.toList) = true := by kernel_rfl
theorem qgk : (Rows.useRightsRow.loops == (Tryz.f11.params.toList ++ Rows.useRightsSpec.plain.varTypes Tryz.prog).any (Tryz.prog.loopsFrom ·)) = true := by kernel_rfl
theorem qeb : (Rows.useRightsRow.wideKeys == (Tryz.f11.params.toList ++ Rows.useRightsSpec.plain.varTypes Tryz.prog ++ Tryz.f11.resultTypes.toList).any (Tryz.prog.wideKeysFrom ·)) = true := by kernel_rfl
theorem qgl : Rows.useRightsSpec.vars.all (Tryz.prog.varReadable ·) = true := by kernel_rfl
theorem qgm : Tryz.f11.resultTypes.all (fun t => Tryz.prog.readableRec t && decide (t < Tryz.prog.types.size)) = true := by kernel_rfl
theorem qgn : (Rows.useRightsRow.ifacesOut == Tryz.f11.resultTypes.toList.any (Tryz.prog.ifacesRec ·)) = true := by kernel_rfl
theorem qgo : (Rows.useRightsRow.loopsOut == Tryz.f11.resultTypes.toList.any (Tryz.prog.loopsFrom ·)) = true := by kernel_rfl
theorem qgp : Rows.useRightsRow.shortTexts.isNone = true := by kernel_rfl
theorem qgq : (Rows.useRightsRow.pinned == Rows.useRightsRow.pinnedBy) = true := by kernel_rfl
theorem qgr : (Rows.useRightsRow.veiled == (Tryz.f11.params.toList ++ Rows.useRightsSpec.plain.varTypes Tryz.prog ++ Tryz.f11.resultTypes.toList).any (Tryz.prog.veiledRec ·)) = true := by kernel_rfl
theorem qgs : Rows.useRightsRow.veiledFits Tryz.prog Tryz.f11.params.toList (Tryz.f11.params.toList ++ Rows.useRightsSpec.plain.varTypes Tryz.prog ++ Tryz.f11.resultTypes.toList) = true := by kernel_rfl
theorem qgt : (Rows.useRightsRow.plainKeys == Tryz.prog.plainKeys) = true := by kernel_rfl
theorem qec : (Rows.useRightsRow.lifted == Tryz.prog.liftsFinal) = true := by kernel_rfl
theorem qed : (Tryz.prog.make == some Rows.useRightsRow.make) = true := by kernel_rfl
theorem qxn : Tryz.f11.isInstance Tryz.prog Rows.useRightsRow.origin Rows.useRightsRow.targs := of_decide_eq_true (by kernel_rfl)
theorem qxo : Tryz.f11.isWrapper Tryz.prog Rows.useRightsRow.wrapper Rows.useRightsRow.mainSum := by unfold Func.isWrapper; first | (rw [if_pos (by decide +kernel)]; kernel_rfl) | (rw [if_neg (by decide +kernel)]; exact ⟨rfl, rfl⟩)
theorem named11 : Tryz.prog.funcNamed Rows.useRightsRow.func = some 11 := by kernel_rfl
theorem qq3 : joinedFacts Tryz.prog 11 Tryz.f11 Rows.useRightsSpec Rows.useRightsRow = true :=
 qea qii p2 p3 qij qik rfl p7 rfl p9 qgd qge qgf qgg qgh qgi qgj qgk qeb qgl qgm qgn qgo qgt qgp p23b p24 qec qed (by kernel_rfl) qgq qgr qgs
end Go.Proofs.YtdfgeoefbbkcnaaGreatDoor
