/-
  What is proved: closed facts of the row of UseOrders.
-/
import Derived.Test.YtdfgeoefbbkcnaaGreatDoorVaB2
set_option linter.unusedSectionVars false
set_option linter.unusedSimpArgs false
set_option linter.unusedVariables false
set_option linter.unnecessarySimpa false
set_option linter.deprecated false
namespace Go.Proofs.YtdfgeoefbbkcnaaGreatDoor
theorem useOrders_q10 : (Rows.useOrdersRow.inPlace == Tryz.prog.inPlace 10) = true := by kernel_rfl
theorem useOrders_q11 : (Rows.useOrdersRow.unfollowed == Tryz.prog.unfollowed 10) = true := by kernel_rfl
theorem useOrders_q12 : (Rows.useOrdersRow.recurses == Tryz.prog.recurses 10) = true := by kernel_rfl
theorem useOrders_q13 : (Rows.useOrdersRow.named == Tryz.prog.varsNamed 10) = true := by kernel_rfl
theorem useOrders_q1 : Rows.useOrdersRow.wf (OpenSpec.ofChange Rows.useOrdersSpec) = true := by kernel_rfl
theorem useOrders_q4 : Tryz.f10.params.all (Tryz.prog.readableRec ·) = true := by kernel_rfl
theorem useOrders_q5 : namedTie Tryz.prog Rows.useOrdersRow.named Rows.useOrdersSpec.vars = true := by kernel_rfl
theorem useOrders_q14 : (Rows.useOrdersRow.maps == (Tryz.f10.params.toList ++ Rows.useOrdersSpec.plain.varTypes Tryz.prog).any (Tryz.prog.mapsRec ·)) = true := by kernel_rfl
theorem useOrders_q15 : (Rows.useOrdersRow.ifaces == (Tryz.f10.params.toList ++ Rows.useOrdersSpec.plain.varTypes Tryz.prog).any (Tryz.prog.ifacesRec ·)) = true := by kernel_rfl
theorem useOrders_q16 : (Rows.useOrdersRow.mapsOut == Tryz.prog.mapsAmong Tryz.f10.resultTypes.toList) = true := by kernel_rfl
theorem useOrders_q17 : (Rows.useOrdersRow.loops == (Tryz.f10.params.toList ++ Rows.useOrdersSpec.plain.varTypes Tryz.prog).any (Tryz.prog.loopsFrom ·)) = true := by kernel_rfl
theorem useOrders_q17b : (Rows.useOrdersRow.wideKeys == (Tryz.f10.params.toList ++ Rows.useOrdersSpec.plain.varTypes Tryz.prog ++ Tryz.f10.resultTypes.toList).any (Tryz.prog.wideKeysFrom ·)) = true := by kernel_rfl
theorem useOrders_q18 : Rows.useOrdersSpec.vars.all (Tryz.prog.varReadable ·) = true := by kernel_rfl
theorem useOrders_q19 : Tryz.f10.resultTypes.all (fun t => Tryz.prog.readableRec t && decide (t < Tryz.prog.types.size)) = true := by kernel_rfl
theorem useOrders_q20 : (Rows.useOrdersRow.ifacesOut == Tryz.f10.resultTypes.toList.any (Tryz.prog.ifacesRec ·)) = true := by kernel_rfl
theorem useOrders_q21 : (Rows.useOrdersRow.loopsOut == Tryz.f10.resultTypes.toList.any (Tryz.prog.loopsFrom ·)) = true := by kernel_rfl
theorem useOrders_q23 : Rows.useOrdersRow.shortTexts.isNone = true := by kernel_rfl
theorem useOrders_q26 : (Rows.useOrdersRow.pinned == Rows.useOrdersRow.pinnedBy) = true := by kernel_rfl
theorem useOrders_q27 : (Rows.useOrdersRow.veiled == (Tryz.f10.params.toList ++ Rows.useOrdersSpec.plain.varTypes Tryz.prog ++ Tryz.f10.resultTypes.toList).any (Tryz.prog.veiledRec ·)) = true := by kernel_rfl
theorem useOrders_q28 : Rows.useOrdersRow.veiledFits Tryz.prog Tryz.f10.params.toList (Tryz.f10.params.toList ++ Rows.useOrdersSpec.plain.varTypes Tryz.prog ++ Tryz.f10.resultTypes.toList) = true := by kernel_rfl
theorem useOrders_p22 : (Rows.useOrdersRow.plainKeys == Tryz.prog.plainKeys) = true := by kernel_rfl
theorem useOrders_p24b : (Rows.useOrdersRow.lifted == Tryz.prog.liftsFinal) = true := by kernel_rfl
theorem useOrders_p24c : (Tryz.prog.make == some Rows.useOrdersRow.make) = true := by kernel_rfl
theorem inst10 : Tryz.f10.isInstance Tryz.prog Rows.useOrdersRow.origin Rows.useOrdersRow.targs := of_decide_eq_true (by kernel_rfl)
theorem wrap10 : Tryz.f10.isWrapper Tryz.prog Rows.useOrdersRow.wrapper Rows.useOrdersRow.mainSum := by unfold Func.isWrapper; first | (rw [if_pos (by decide +kernel)]; kernel_rfl) | (rw [if_neg (by decide +kernel)]; exact ⟨rfl, rfl⟩)
theorem named10 : Tryz.prog.funcNamed Rows.useOrdersRow.func = some 10 := by kernel_rfl
theorem closed10 : joinedFacts Tryz.prog 10 Tryz.f10 Rows.useOrdersSpec Rows.useOrdersRow = true :=
  joinedFacts_mk useOrders_q1 p2 p3 useOrders_q4 useOrders_q5 rfl p7 rfl p9 useOrders_q10 useOrders_q11 useOrders_q12 useOrders_q13 useOrders_q14 useOrders_q15 useOrders_q16 useOrders_q17 useOrders_q17b useOrders_q18 useOrders_q19 useOrders_q20 useOrders_q21 useOrders_p22 useOrders_q23 p23b p24 useOrders_p24b useOrders_p24c (by kernel_rfl) useOrders_q26 useOrders_q27 useOrders_q28
end Go.Proofs.YtdfgeoefbbkcnaaGreatDoor

