/-
  What is proved: the card of topChockSent holds: at every input the law returns true and leaves its arguments as they read; its conditions are the card's own.
-/
import Derived.Test.YtlgimmdbgbofgaaGreatDoorVrB1
import Derived.Test.YtlgimmdbgbofgaaGreatDoorVrB3
import Derived.Test.YtlgimmdbgbofgaaGreatDoorCards
import Derived.SevenTiedAt
set_option linter.unusedSectionVars false
set_option linter.unusedSimpArgs false
set_option linter.unusedVariables false
set_option linter.unnecessarySimpa false
set_option linter.deprecated false
namespace Go.Proofs.YtlgimmdbgbofgaaGreatDoor
theorem topChockSent_holds : Rows.TopChockSentSaid :=
 OpenClaim.holds_of_wide 4 Tryz.f4 rfl rfl rfl rfl rfl rfl rfl ⟨rfl, rfl, rfl, rfl, rfl⟩ rfl rfl rfl rfl rfl named4 Tryz.func4 closed4 inst4 wrap4
  (fun os started H enc _ => topChockSent_lifted os started H enc)
theorem goes4 : false = Rows.topChockSentRow.goesBy Tryz.prog := by kernel_rfl
theorem looks4 : false = Tryz.prog.looks [] := by kernel_rfl
theorem main4 : Tryz.prog.mainIs = some (true, "cbd6ddfd89d34e11aec7e57186b3fb0a01d034d4db0746dc2757ca271999405b".toList) := by kernel_rfl
theorem stand5 : Tryz.prog.wantsStandIn 5 = false := by kernel_rfl
theorem stand46 : Tryz.prog.wantsStandIn 46 = false := by kernel_rfl
theorem wfText4 : Rows.topChockSentRow.wfByText (OpenSpec.ofChange Rows.topChockSentSpec) = true := by kernel_rfl
theorem topChockSent_card_holds : Rows.TopChockSentCardSaid :=
 Claim7.holds_tied_plain_at .later [] [.data, .data, .data, .data, .pinned] true (true, "cbd6ddfd89d34e11aec7e57186b3fb0a01d034d4db0746dc2757ca271999405b") false
  topChockSent_holds (fun _ h => by cases h) wfText4 (fun _ h => by cases h) topChockSent_row_tie rfl ⟨rfl, rfl⟩ main4 rfl
  (fun f fn hf hfn => by
   obtain rfl : f = 4 := Option.some.inj (named4.symm.trans hf) |>.symm;obtain rfl : fn = Tryz.f4 := (Option.some.inj (Tryz.func4.symm.trans hfn)).symm
   exact ⟨looks4, fun j t ht => by
    rw [Tryz.params4] at ht
    rcases j with _ | _ | j
    ·obtain rfl : t = 46 := by simpa using ht.symm
     exact stand46
    ·obtain rfl : t = 5 := by simpa using ht.symm
     exact stand5
    ·simp at ht⟩)
  goes4
end Go.Proofs.YtlgimmdbgbofgaaGreatDoor
