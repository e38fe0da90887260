/-
  What is proved: closed facts of the row.
-/
import Derived.Test.YtcpkkolljgpalaaGreatDoorVrC5
set_option linter.unusedSectionVars false
set_option linter.unusedSimpArgs false
set_option linter.unusedVariables false
set_option linter.unnecessarySimpa false
set_option linter.deprecated false
namespace Go.Proofs.YtcpkkolljgpalaaGreatDoor
theorem qa5 : (Rows.topBeaconReducedRow.inPlace == Tryz.prog.inPlace 3) = true := by kernel_rfl
theorem qa6 : (Rows.topBeaconReducedRow.unfollowed == Tryz.prog.unfollowed 3) = true := by kernel_rfl
theorem qa7 : (Rows.topBeaconReducedRow.recurses == Tryz.prog.recurses 3) = true := by kernel_rfl
theorem qa8 : (Rows.topBeaconReducedRow.named == Tryz.prog.varsNamed 3) = true := by kernel_rfl
theorem qbr : Rows.topBeaconReducedRow.wf (OpenSpec.ofChange Rows.topBeaconReducedSpec) = true := by kernel_rfl
theorem qbs : Tryz.f3.params.all (Tryz.prog.readableRec ·) = true := by kernel_rfl
theorem qbt : namedTie Tryz.prog Rows.topBeaconReducedRow.named Rows.topBeaconReducedSpec.vars = true := by kernel_rfl
theorem qa9 : (Rows.topBeaconReducedRow.maps == (Tryz.f3.params.toList ++ Rows.topBeaconReducedSpec.plain.varTypes Tryz.prog).any (Tryz.prog.mapsRec ·)) = true := by kernel_rfl
theorem qba : (Rows.topBeaconReducedRow.ifaces == (Tryz.f3.params.toList ++ Rows.topBeaconReducedSpec.plain.varTypes Tryz.prog).any (Tryz.prog.ifacesRec ·)) = true := by kernel_rfl
theorem qbb : (Rows.topBeaconReducedRow.mapsOut == Tryz.prog.mapsAmong Tryz.f3.resultTypes.toList) = true := by kernel_rfl
theorem qbc : (Rows.topBeaconReducedRow.loops == (Tryz.f3.params.toList ++ Rows.topBeaconReducedSpec.plain.varTypes Tryz.prog).any (Tryz.prog.loopsFrom ·)) = true := by kernel_rfl
theorem qah : (Rows.topBeaconReducedRow.wideKeys == (Tryz.f3.params.toList ++ Rows.topBeaconReducedSpec.plain.varTypes Tryz.prog ++ Tryz.f3.resultTypes.toList).any (Tryz.prog.wideKeysFrom ·)) = true := by kernel_rfl
theorem qbd : Rows.topBeaconReducedSpec.vars.all (Tryz.prog.varReadable ·) = true := by kernel_rfl
theorem qbe : Tryz.f3.resultTypes.all (fun t => Tryz.prog.readableRec t && decide (t < Tryz.prog.types.size)) = true := by kernel_rfl
theorem qbf : (Rows.topBeaconReducedRow.ifacesOut == Tryz.f3.resultTypes.toList.any (Tryz.prog.ifacesRec ·)) = true := by kernel_rfl
theorem qbg : (Rows.topBeaconReducedRow.loopsOut == Tryz.f3.resultTypes.toList.any (Tryz.prog.loopsFrom ·)) = true := by kernel_rfl
theorem qbh : Rows.topBeaconReducedRow.shortTexts.isNone = true := by kernel_rfl
theorem qbi : (Rows.topBeaconReducedRow.pinned == Rows.topBeaconReducedRow.pinnedBy) = true := by kernel_rfl
theorem qbj : (Rows.topBeaconReducedRow.veiled == (Tryz.f3.params.toList ++ Rows.topBeaconReducedSpec.plain.varTypes Tryz.prog ++ Tryz.f3.resultTypes.toList).any (Tryz.prog.veiledRec ·)) = true := by kernel_rfl
theorem qbk : Rows.topBeaconReducedRow.veiledFits Tryz.prog Tryz.f3.params.toList (Tryz.f3.params.toList ++ Rows.topBeaconReducedSpec.plain.varTypes Tryz.prog ++ Tryz.f3.resultTypes.toList) = true := by kernel_rfl
theorem qbl : (Rows.topBeaconReducedRow.plainKeys == Tryz.prog.plainKeys) = true := by kernel_rfl
theorem qai : (Rows.topBeaconReducedRow.lifted == Tryz.prog.liftsFinal) = true := by kernel_rfl
theorem qaj : (Tryz.prog.make == some Rows.topBeaconReducedRow.make) = true := by kernel_rfl
theorem q3a : Tryz.f3.isInstance Tryz.prog Rows.topBeaconReducedRow.origin Rows.topBeaconReducedRow.targs := of_decide_eq_true (by kernel_rfl)
theorem q3b : Tryz.f3.isWrapper Tryz.prog Rows.topBeaconReducedRow.wrapper Rows.topBeaconReducedRow.mainSum := by unfold Func.isWrapper; first | (rw [if_pos (by decide +kernel)]; kernel_rfl) | (rw [if_neg (by decide +kernel)]; exact ⟨rfl, rfl⟩)
theorem named3 : Tryz.prog.funcNamed Rows.topBeaconReducedRow.func = some 3 := by kernel_rfl
theorem qxw : joinedFacts Tryz.prog 3 Tryz.f3 Rows.topBeaconReducedSpec Rows.topBeaconReducedRow = true :=
 qe3 qbr p2 p3 qbs qbt rfl p7 rfl p9 qa5 qa6 qa7 qa8 qa9 qba qbb qbc qah qbd qbe qbf qbg qbl qbh p23b p24 qai qaj (by kernel_rfl) qbi qbj qbk
end Go.Proofs.YtcpkkolljgpalaaGreatDoor
