/-
  What is proved: closed facts of the row of UseShares.
-/
import Derived.Test.YtdfgeoefbbkcnaaGreatDoorVaB2
set_option linter.unusedSectionVars false
set_option linter.unusedSimpArgs false
set_option linter.unusedVariables false
set_option linter.unnecessarySimpa false
set_option linter.deprecated false
namespace Go.Proofs.YtdfgeoefbbkcnaaGreatDoor
theorem useShares_q10 : (Rows.useSharesRow.inPlace == Tryz.prog.inPlace 7) = true := by kernel_rfl
theorem useShares_q11 : (Rows.useSharesRow.unfollowed == Tryz.prog.unfollowed 7) = true := by kernel_rfl
theorem useShares_q12 : (Rows.useSharesRow.recurses == Tryz.prog.recurses 7) = true := by kernel_rfl
theorem useShares_q13 : (Rows.useSharesRow.named == Tryz.prog.varsNamed 7) = true := by kernel_rfl
theorem useShares_q1 : Rows.useSharesRow.wf (OpenSpec.ofChange Rows.useSharesSpec) = true := by kernel_rfl
theorem useShares_q4 : Tryz.f7.params.all (Tryz.prog.readableRec ·) = true := by kernel_rfl
theorem useShares_q5 : namedTie Tryz.prog Rows.useSharesRow.named Rows.useSharesSpec.vars = true := by kernel_rfl
theorem useShares_q14 : (Rows.useSharesRow.maps == (Tryz.f7.params.toList ++ Rows.useSharesSpec.plain.varTypes Tryz.prog).any (Tryz.prog.mapsRec ·)) = true := by kernel_rfl
theorem useShares_q15 : (Rows.useSharesRow.ifaces == (Tryz.f7.params.toList ++ Rows.useSharesSpec.plain.varTypes Tryz.prog).any (Tryz.prog.ifacesRec ·)) = true := by kernel_rfl
theorem useShares_q16 : (Rows.useSharesRow.mapsOut == Tryz.prog.mapsAmong Tryz.f7.resultTypes.toList) = true := by kernel_rfl
theorem useShares_q17 : (Rows.useSharesRow.loops == (Tryz.f7.params.toList ++ Rows.useSharesSpec.plain.varTypes Tryz.prog).any (Tryz.prog.loopsFrom ·)) = true := by kernel_rfl
theorem useShares_q17b : (Rows.useSharesRow.wideKeys == (Tryz.f7.params.toList ++ Rows.useSharesSpec.plain.varTypes Tryz.prog ++ Tryz.f7.resultTypes.toList).any (Tryz.prog.wideKeysFrom ·)) = true := by kernel_rfl
theorem useShares_q18 : Rows.useSharesSpec.vars.all (Tryz.prog.varReadable ·) = true := by kernel_rfl
theorem useShares_q19 : Tryz.f7.resultTypes.all (fun t => Tryz.prog.readableRec t && decide (t < Tryz.prog.types.size)) = true := by kernel_rfl
theorem useShares_q20 : (Rows.useSharesRow.ifacesOut == Tryz.f7.resultTypes.toList.any (Tryz.prog.ifacesRec ·)) = true := by kernel_rfl
theorem useShares_q21 : (Rows.useSharesRow.loopsOut == Tryz.f7.resultTypes.toList.any (Tryz.prog.loopsFrom ·)) = true := by kernel_rfl
theorem useShares_q23 : Rows.useSharesRow.shortTexts.isNone = true := by kernel_rfl
theorem useShares_q26 : (Rows.useSharesRow.pinned == Rows.useSharesRow.pinnedBy) = true := by kernel_rfl
theorem useShares_q27 : (Rows.useSharesRow.veiled == (Tryz.f7.params.toList ++ Rows.useSharesSpec.plain.varTypes Tryz.prog ++ Tryz.f7.resultTypes.toList).any (Tryz.prog.veiledRec ·)) = true := by kernel_rfl
theorem useShares_q28 : Rows.useSharesRow.veiledFits Tryz.prog Tryz.f7.params.toList (Tryz.f7.params.toList ++ Rows.useSharesSpec.plain.varTypes Tryz.prog ++ Tryz.f7.resultTypes.toList) = true := by kernel_rfl
theorem useShares_p22 : (Rows.useSharesRow.plainKeys == Tryz.prog.plainKeys) = true := by kernel_rfl
theorem useShares_p24b : (Rows.useSharesRow.lifted == Tryz.prog.liftsFinal) = true := by kernel_rfl
theorem useShares_p24c : (Tryz.prog.make == some Rows.useSharesRow.make) = true := by kernel_rfl
theorem inst7 : Tryz.f7.isInstance Tryz.prog Rows.useSharesRow.origin Rows.useSharesRow.targs := of_decide_eq_true (by kernel_rfl)
theorem wrap7 : Tryz.f7.isWrapper Tryz.prog Rows.useSharesRow.wrapper Rows.useSharesRow.mainSum := by unfold Func.isWrapper; first | (rw [if_pos (by decide +kernel)]; kernel_rfl) | (rw [if_neg (by decide +kernel)]; exact ⟨rfl, rfl⟩)
theorem named7 : Tryz.prog.funcNamed Rows.useSharesRow.func = some 7 := by kernel_rfl
theorem closed7 : joinedFacts Tryz.prog 7 Tryz.f7 Rows.useSharesSpec Rows.useSharesRow = true :=
  joinedFacts_mk useShares_q1 p2 p3 useShares_q4 useShares_q5 rfl p7 rfl p9 useShares_q10 useShares_q11 useShares_q12 useShares_q13 useShares_q14 useShares_q15 useShares_q16 useShares_q17 useShares_q17b useShares_q18 useShares_q19 useShares_q20 useShares_q21 useShares_p22 useShares_q23 p23b p24 useShares_p24b useShares_p24c (by kernel_rfl) useShares_q26 useShares_q27 useShares_q28
end Go.Proofs.YtdfgeoefbbkcnaaGreatDoor

