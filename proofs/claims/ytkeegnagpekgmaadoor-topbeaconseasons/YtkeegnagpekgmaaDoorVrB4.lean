/-
  What is proved: the card of topBeaconSeasons holds: at every input the law returns true and leaves its arguments as they read; its conditions are the card's own.
-/
import Derived.Test.YtkeegnagpekgmaaDoorVrB1
import Derived.Test.YtkeegnagpekgmaaDoorVrB3
import Derived.Test.YtkeegnagpekgmaaDoorCards
import Derived.SevenTiedAt
set_option linter.unusedSectionVars false
set_option linter.unusedSimpArgs false
set_option linter.unusedVariables false
set_option linter.unnecessarySimpa false
set_option linter.deprecated false
namespace Go.Proofs.YtkeegnagpekgmaaDoor
theorem topBeaconSeasons_holds : Rows.TopBeaconSeasonsSaid :=
 OpenClaim.holds_of_wide 3 Tryd.f3 rfl rfl rfl rfl rfl rfl rfl ⟨rfl, rfl, rfl, rfl, rfl⟩ rfl rfl rfl rfl rfl named3 Tryd.func3 closed3 inst3 wrap3
  (fun os started H enc _ => topBeaconSeasons_lifted os started H enc)
theorem goes3 : false = Rows.topBeaconSeasonsRow.goesBy Tryd.prog := by kernel_rfl
theorem looks3 : false = Tryd.prog.looks [] := by kernel_rfl
theorem main3 : Tryd.prog.mainIs = some (true, "a8caa43040ed250ba8f9f4270ef20c1aea07e67ca42d57cffd3a28b6ade8b35c".toList) := by kernel_rfl
theorem stand23 : Tryd.prog.wantsStandIn 23 = false := by kernel_rfl
theorem stand29 : Tryd.prog.wantsStandIn 29 = false := by kernel_rfl
theorem stand31 : Tryd.prog.wantsStandIn 31 = false := by kernel_rfl
theorem wfText3 : Rows.topBeaconSeasonsRow.wfByText (OpenSpec.ofChange Rows.topBeaconSeasonsSpec) = true := by kernel_rfl
theorem topBeaconSeasons_card_holds : Rows.TopBeaconSeasonsCardSaid :=
 Claim7.holds_tied_plain_at .later [] [.data] true (true, "a8caa43040ed250ba8f9f4270ef20c1aea07e67ca42d57cffd3a28b6ade8b35c") false
  topBeaconSeasons_holds (fun _ h => by cases h) wfText3 (fun _ h => by cases h) topBeaconSeasons_row_tie rfl ⟨rfl, rfl⟩ main3 rfl
  (fun f fn hf hfn => by
   obtain rfl : f = 3 := Option.some.inj (named3.symm.trans hf) |>.symm;obtain rfl : fn = Tryd.f3 := (Option.some.inj (Tryd.func3.symm.trans hfn)).symm
   exact ⟨looks3, fun j t ht => by
    rw [Tryd.params3] at ht
    rcases j with _ | _ | _ | j
    ·obtain rfl : t = 23 := by simpa using ht.symm
     exact stand23
    ·obtain rfl : t = 29 := by simpa using ht.symm
     exact stand29
    ·obtain rfl : t = 31 := by simpa using ht.symm
     exact stand31
    ·simp at ht⟩)
  goes3
end Go.Proofs.YtkeegnagpekgmaaDoor
