/-
  What is proved: closed facts of the row of UseTables.
-/
import Derived.Test.YtdfgeoefbbkcnaaGreatDoorVaB2
set_option linter.unusedSectionVars false
set_option linter.unusedSimpArgs false
set_option linter.unusedVariables false
set_option linter.unnecessarySimpa false
set_option linter.deprecated false
namespace Go.Proofs.YtdfgeoefbbkcnaaGreatDoor
theorem qfj : (Rows.useTablesRow.inPlace == Tryz.prog.inPlace 13) = true := by kernel_rfl
theorem qfk : (Rows.useTablesRow.unfollowed == Tryz.prog.unfollowed 13) = true := by kernel_rfl
theorem qfl : (Rows.useTablesRow.recurses == Tryz.prog.recurses 13) = true := by kernel_rfl
theorem qfm : (Rows.useTablesRow.named == Tryz.prog.varsNamed 13) = true := by kernel_rfl
theorem qho : Rows.useTablesRow.wf (OpenSpec.ofChange Rows.useTablesSpec) = true := by kernel_rfl
theorem qhp : Tryz.f13.params.all (Tryz.prog.readableRec ·) = true := by kernel_rfl
theorem qhq : namedTie Tryz.prog Rows.useTablesRow.named Rows.useTablesSpec.vars = true := by kernel_rfl
theorem qfn : (Rows.useTablesRow.maps == (Tryz.f13.params.toList ++ Rows.useTablesSpec.plain.varTypes Tryz.prog).any (Tryz.prog.mapsRec ·)) = true := by kernel_rfl
theorem qfo : (Rows.useTablesRow.ifaces == (Tryz.f13.params.toList ++ Rows.useTablesSpec.plain.varTypes Tryz.prog).any (Tryz.prog.ifacesRec ·)) = true := by kernel_rfl
theorem qfp : (Rows.useTablesRow.mapsOut == Tryz.prog.mapsAmong Tryz.f13.resultTypes.toList) = true := by kernel_rfl
theorem qfq : (Rows.useTablesRow.loops == (Tryz.f13.params.toList ++ Rows.useTablesSpec.plain.varTypes Tryz.prog).any (Tryz.prog.loopsFrom ·)) = true := by kernel_rfl
theorem qdi : (Rows.useTablesRow.wideKeys == (Tryz.f13.params.toList ++ Rows.useTablesSpec.plain.varTypes Tryz.prog ++ Tryz.f13.resultTypes.toList).any (Tryz.prog.wideKeysFrom ·)) = true := by kernel_rfl
theorem qfr : Rows.useTablesSpec.vars.all (Tryz.prog.varReadable ·) = true := by kernel_rfl
theorem qfs : Tryz.f13.resultTypes.all (fun t => Tryz.prog.readableRec t && decide (t < Tryz.prog.types.size)) = true := by kernel_rfl
theorem qft : (Rows.useTablesRow.ifacesOut == Tryz.f13.resultTypes.toList.any (Tryz.prog.ifacesRec ·)) = true := by kernel_rfl
theorem qfu : (Rows.useTablesRow.loopsOut == Tryz.f13.resultTypes.toList.any (Tryz.prog.loopsFrom ·)) = true := by kernel_rfl
theorem qfv : Rows.useTablesRow.shortTexts.isNone = true := by kernel_rfl
theorem qfw : (Rows.useTablesRow.pinned == Rows.useTablesRow.pinnedBy) = true := by kernel_rfl
theorem qfx : (Rows.useTablesRow.veiled == (Tryz.f13.params.toList ++ Rows.useTablesSpec.plain.varTypes Tryz.prog ++ Tryz.f13.resultTypes.toList).any (Tryz.prog.veiledRec ·)) = true := by kernel_rfl
theorem qfy : Rows.useTablesRow.veiledFits Tryz.prog Tryz.f13.params.toList (Tryz.f13.params.toList ++ Rows.useTablesSpec.plain.varTypes Tryz.prog ++ Tryz.f13.resultTypes.toList) = true := by kernel_rfl
theorem qfz : (Rows.useTablesRow.plainKeys == Tryz.prog.plainKeys) = true := by kernel_rfl
theorem qdj : (Rows.useTablesRow.lifted == Tryz.prog.liftsFinal) = true := by kernel_rfl
theorem qdk : (Tryz.prog.make == some Rows.useTablesRow.make) = true := by kernel_rfl
theorem qvo : Tryz.f13.isInstance Tryz.prog Rows.useTablesRow.origin Rows.useTablesRow.targs := of_decide_eq_true (by kernel_rfl)
theorem qvp : Tryz.f13.isWrapper Tryz.prog Rows.useTablesRow.wrapper Rows.useTablesRow.mainSum := by unfold Func.isWrapper; first | (rw [if_pos (by decide +kernel)]; kernel_rfl) | (rw [if_neg (by decide +kernel)]; exact ⟨rfl, rfl⟩)
theorem named13 : Tryz.prog.funcNamed Rows.useTablesRow.func = some 13 := by kernel_rfl
theorem qpo : joinedFacts Tryz.prog 13 Tryz.f13 Rows.useTablesSpec Rows.useTablesRow = true :=
 qdh qho p2 p3 qhp qhq rfl p7 rfl p9 qfj qfk qfl qfm qfn qfo qfp qfq qdi qfr qfs qft qfu qfz qfv p23b p24 qdj qdk (by kernel_rfl) qfw qfx qfy
end Go.Proofs.YtdfgeoefbbkcnaaGreatDoor
