/-
  What is proved: the card of topChockShifted holds: at every input the law returns true and leaves its arguments as they read; its conditions are the card's own.
-/
import Derived.Test.YtlgimmdbgbofgaaGreatDoorVrA9
import Derived.Test.YtlgimmdbgbofgaaGreatDoorVrB2
import Derived.Test.YtlgimmdbgbofgaaGreatDoorCards
import Derived.SevenTiedAt
set_option linter.unusedSectionVars false
set_option linter.unusedSimpArgs false
set_option linter.unusedVariables false
set_option linter.unnecessarySimpa false
set_option linter.deprecated false
namespace Go.Proofs.YtlgimmdbgbofgaaGreatDoor
theorem topChockShifted_holds : Rows.TopChockShiftedSaid :=
 OpenClaim.holds_of_wide 3 Tryz.f3 rfl rfl rfl rfl rfl rfl rfl ⟨rfl, rfl, rfl, rfl, rfl⟩ rfl rfl rfl rfl rfl named3 Tryz.func3 closed3 inst3 wrap3
  (fun os started H enc _ => topChockShifted_lifted os started H enc)
theorem goes3 : false = Rows.topChockShiftedRow.goesBy Tryz.prog := by kernel_rfl
theorem looks3 : false = Tryz.prog.looks [] := by kernel_rfl
theorem main3 : Tryz.prog.mainIs = some (true, "cbd6ddfd89d34e11aec7e57186b3fb0a01d034d4db0746dc2757ca271999405b".toList) := by kernel_rfl
theorem stand25 : Tryz.prog.wantsStandIn 25 = false := by kernel_rfl
theorem stand26 : Tryz.prog.wantsStandIn 26 = false := by kernel_rfl
theorem wfText3 : Rows.topChockShiftedRow.wfByText (OpenSpec.ofChange Rows.topChockShiftedSpec) = true := by kernel_rfl
theorem topChockShifted_card_holds : Rows.TopChockShiftedCardSaid :=
 Claim7.holds_tied_plain_at .later [] [.data, .data, .data, .data, .pinned] true (true, "cbd6ddfd89d34e11aec7e57186b3fb0a01d034d4db0746dc2757ca271999405b") false
  topChockShifted_holds (fun _ h => by cases h) wfText3 (fun _ h => by cases h) topChockShifted_row_tie rfl ⟨rfl, rfl⟩ main3 rfl
  (fun f fn hf hfn => by
   obtain rfl : f = 3 := Option.some.inj (named3.symm.trans hf) |>.symm;obtain rfl : fn = Tryz.f3 := (Option.some.inj (Tryz.func3.symm.trans hfn)).symm
   exact ⟨looks3, fun j t ht => by
    rw [Tryz.params3] at ht
    rcases j with _ | _ | j
    ·obtain rfl : t = 25 := by simpa using ht.symm
     exact stand25
    ·obtain rfl : t = 26 := by simpa using ht.symm
     exact stand26
    ·simp at ht⟩)
  goes3
end Go.Proofs.YtlgimmdbgbofgaaGreatDoor
