/-
  What is proved: the card of groundNights holds: at every input the law returns true and leaves its arguments as they read; its conditions are the card's own.
-/
import Derived.Test.YthhidpjikbhljaaGreatDoorVrA9
import Derived.Test.YthhidpjikbhljaaGreatDoorVrB2
import Derived.Test.YthhidpjikbhljaaGreatDoorCards
import Derived.SevenTiedAt
set_option linter.unusedSectionVars false
set_option linter.unusedSimpArgs false
set_option linter.unusedVariables false
set_option linter.unnecessarySimpa false
set_option linter.deprecated false
namespace Go.Proofs.YthhidpjikbhljaaGreatDoor
theorem groundNights_holds : Rows.GroundNightsSaid :=
 OpenClaim.holds_of_wide 7 Tryz.f7 rfl rfl rfl rfl rfl rfl rfl ⟨rfl, rfl, rfl, rfl, rfl⟩ rfl rfl rfl rfl rfl named7 Tryz.func7 closed7 inst7 wrap7
  (fun os started H enc _ => groundNights_lifted os started H enc)
theorem goes7 : false = Rows.groundNightsRow.goesBy Tryz.prog := by kernel_rfl
theorem looks7 : false = Tryz.prog.looks [] := by kernel_rfl
theorem main7 : Tryz.prog.mainIs = some (true, "e813367c6a5abb3b8fc8cecdf0f8303c4a45e4a9ecf1e2daa4a2713c3aba99cf".toList) := by kernel_rfl
theorem stand3 : Tryz.prog.wantsStandIn 3 = false := by kernel_rfl
theorem stand90 : Tryz.prog.wantsStandIn 90 = false := by kernel_rfl
theorem wfText7 : Rows.groundNightsRow.wfByText (OpenSpec.ofChange Rows.groundNightsSpec) = true := by kernel_rfl
theorem groundNights_card_holds : Rows.GroundNightsCardSaid :=
 Claim7.holds_tied_plain_at .later [] [.data] true (true, "e813367c6a5abb3b8fc8cecdf0f8303c4a45e4a9ecf1e2daa4a2713c3aba99cf") false
  groundNights_holds (fun _ h => by cases h) wfText7 (fun _ h => by cases h) groundNights_row_tie rfl ⟨rfl, rfl⟩ main7 rfl
  (fun f fn hf hfn => by
   obtain rfl : f = 7 := Option.some.inj (named7.symm.trans hf) |>.symm;obtain rfl : fn = Tryz.f7 := (Option.some.inj (Tryz.func7.symm.trans hfn)).symm
   exact ⟨looks7, fun j t ht => by
    rw [Tryz.params7] at ht
    rcases j with _ | _ | j
    ·obtain rfl : t = 90 := by simpa using ht.symm
     exact stand90
    ·obtain rfl : t = 3 := by simpa using ht.symm
     exact stand3
    ·simp at ht⟩)
  goes7
end Go.Proofs.YthhidpjikbhljaaGreatDoor
