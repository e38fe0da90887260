/-
  What is proved: closed facts of the row of UseChecks.
-/
import Derived.Test.YtdfgeoefbbkcnaaGreatDoorUcB2
set_option linter.unusedSectionVars false
set_option linter.unusedSimpArgs false
set_option linter.unusedVariables false
set_option linter.unnecessarySimpa false
set_option linter.deprecated false
namespace Go.Proofs.YtdfgeoefbbkcnaaGreatDoor
theorem p22 : ((OpenClaim.plainKeys Rows.useChecksRow) == Tryz.prog.plainKeys) = true := by kernel_rfl
theorem p24b : (Rows.useChecksRow.lifted == Tryz.prog.liftsFinal) = true := by kernel_rfl
theorem p24c : (Tryz.prog.make == some Rows.useChecksRow.make) = true := by kernel_rfl
theorem q10 : (Rows.useChecksRow.inPlace == Tryz.prog.inPlace 3) = true := by kernel_rfl
theorem q11 : (Rows.useChecksRow.unfollowed == Tryz.prog.unfollowed 3) = true := by kernel_rfl
theorem q12 : (Rows.useChecksRow.recurses == Tryz.prog.recurses 3) = true := by kernel_rfl
theorem q13 : (Rows.useChecksRow.named == Tryz.prog.varsNamed 3) = true := by kernel_rfl
theorem q1 : Rows.useChecksRow.wf (OpenSpec.ofChange Rows.useChecksSpec) = true := by kernel_rfl
theorem q4 : Tryz.f3.params.all (Tryz.prog.readableRec ·) = true := by kernel_rfl
theorem q5 : namedTie Tryz.prog Rows.useChecksRow.named Rows.useChecksSpec.vars = true := by kernel_rfl
theorem q14 : (Rows.useChecksRow.maps == (Tryz.f3.params.toList ++ Rows.useChecksSpec.plain.varTypes Tryz.prog).any (Tryz.prog.mapsRec ·)) = true := by kernel_rfl
theorem q15 : (Rows.useChecksRow.ifaces == (Tryz.f3.params.toList ++ Rows.useChecksSpec.plain.varTypes Tryz.prog).any (Tryz.prog.ifacesRec ·)) = true := by kernel_rfl
theorem q16 : (Rows.useChecksRow.mapsOut == Tryz.prog.mapsAmong Tryz.f3.resultTypes.toList) = true := by kernel_rfl
theorem q17 : (Rows.useChecksRow.loops == (Tryz.f3.params.toList ++ Rows.useChecksSpec.plain.varTypes Tryz.prog).any (Tryz.prog.loopsFrom ·)) = true := by kernel_rfl
theorem q17b : (Rows.useChecksRow.wideKeys == (Tryz.f3.params.toList ++ Rows.useChecksSpec.plain.varTypes Tryz.prog ++ Tryz.f3.resultTypes.toList).any (Tryz.prog.wideKeysFrom ·)) = true := by kernel_rfl
theorem q18 : Rows.useChecksSpec.vars.all (Tryz.prog.varReadable ·) = true := by kernel_rfl
theorem q19 : Tryz.f3.resultTypes.all (fun t => Tryz.prog.readableRec t && decide (t < Tryz.prog.types.size)) = true := by kernel_rfl
theorem q20 : (Rows.useChecksRow.ifacesOut == Tryz.f3.resultTypes.toList.any (Tryz.prog.ifacesRec ·)) = true := by kernel_rfl
theorem q21 : (Rows.useChecksRow.loopsOut == Tryz.f3.resultTypes.toList.any (Tryz.prog.loopsFrom ·)) = true := by kernel_rfl
theorem q23 : Rows.useChecksRow.shortTexts.isNone = true := by kernel_rfl
theorem q26 : (Rows.useChecksRow.pinned == Rows.useChecksRow.pinnedBy) = true := by kernel_rfl
theorem q27 : (Rows.useChecksRow.veiled == (Tryz.f3.params.toList ++ Rows.useChecksSpec.plain.varTypes Tryz.prog ++ Tryz.f3.resultTypes.toList).any (Tryz.prog.veiledRec ·)) = true := by kernel_rfl
theorem q28 : Rows.useChecksRow.veiledFits Tryz.prog Tryz.f3.params.toList (Tryz.f3.params.toList ++ Rows.useChecksSpec.plain.varTypes Tryz.prog ++ Tryz.f3.resultTypes.toList) = true := by kernel_rfl
theorem inst3 : Tryz.f3.isInstance Tryz.prog Rows.useChecksRow.origin Rows.useChecksRow.targs := of_decide_eq_true (by kernel_rfl)
theorem wrap3 : Tryz.f3.isWrapper Tryz.prog Rows.useChecksRow.wrapper Rows.useChecksRow.mainSum := by unfold Func.isWrapper; first | (rw [if_pos (by decide +kernel)]; kernel_rfl) | (rw [if_neg (by decide +kernel)]; exact ⟨rfl, rfl⟩)
theorem named3 : Tryz.prog.funcNamed Rows.useChecksRow.func = some 3 := by kernel_rfl
end Go.Proofs.YtdfgeoefbbkcnaaGreatDoor

namespace Go.Proofs.YtdfgeoefbbkcnaaGreatDoor
theorem closed3 : joinedFacts Tryz.prog 3 Tryz.f3 Rows.useChecksSpec Rows.useChecksRow = true :=
  joinedFacts_mk q1 p2 p3 q4 q5 rfl p7 rfl p9 q10 q11 q12 q13 q14 q15 q16 q17 q17b q18 q19 q20 q21 p22 q23 p23b p24 p24b p24c (by kernel_rfl) q26 q27 q28
end Go.Proofs.YtdfgeoefbbkcnaaGreatDoor

