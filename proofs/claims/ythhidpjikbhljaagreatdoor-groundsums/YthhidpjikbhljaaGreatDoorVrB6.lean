/-
  What is proved: the card of groundSums holds: at every input the law returns true and leaves its arguments as they read; its conditions are the card's own.
-/
import Derived.Test.YthhidpjikbhljaaGreatDoorVrB3
import Derived.Test.YthhidpjikbhljaaGreatDoorVrB5
import Derived.Test.YthhidpjikbhljaaGreatDoorCards
import Derived.SevenTiedAt
set_option linter.unusedSectionVars false
set_option linter.unusedSimpArgs false
set_option linter.unusedVariables false
set_option linter.unnecessarySimpa false
set_option linter.deprecated false
namespace Go.Proofs.YthhidpjikbhljaaGreatDoor
theorem groundSums_holds : Rows.GroundSumsSaid :=
 OpenClaim.holds_of_wide 9 Tryz.f9 rfl rfl rfl rfl rfl rfl rfl ⟨rfl, rfl, rfl, rfl, rfl⟩ rfl rfl rfl rfl rfl named9 Tryz.func9 closed9 inst9 wrap9
  (fun os started H enc _ => groundSums_lifted os started H enc)
theorem goes9 : false = Rows.groundSumsRow.goesBy Tryz.prog := by kernel_rfl
theorem looks9 : false = Tryz.prog.looks [] := by kernel_rfl
theorem main9 : Tryz.prog.mainIs = some (true, "e813367c6a5abb3b8fc8cecdf0f8303c4a45e4a9ecf1e2daa4a2713c3aba99cf".toList) := by kernel_rfl
theorem stand3 : Tryz.prog.wantsStandIn 3 = false := by kernel_rfl
theorem stand25 : Tryz.prog.wantsStandIn 25 = false := by kernel_rfl
theorem wfText9 : Rows.groundSumsRow.wfByText (OpenSpec.ofChange Rows.groundSumsSpec) = true := by kernel_rfl
theorem groundSums_card_holds : Rows.GroundSumsCardSaid :=
 Claim7.holds_tied_plain_at .later [] [.data] true (true, "e813367c6a5abb3b8fc8cecdf0f8303c4a45e4a9ecf1e2daa4a2713c3aba99cf") false
  groundSums_holds (fun _ h => by cases h) wfText9 (fun _ h => by cases h) groundSums_row_tie rfl ⟨rfl, rfl⟩ main9 rfl
  (fun f fn hf hfn => by
   obtain rfl : f = 9 := Option.some.inj (named9.symm.trans hf) |>.symm;obtain rfl : fn = Tryz.f9 := (Option.some.inj (Tryz.func9.symm.trans hfn)).symm
   exact ⟨looks9, fun j t ht => by
    rw [Tryz.params9] at ht
    rcases j with _ | _ | _ | j
    ·obtain rfl : t = 25 := by simpa using ht.symm
     exact stand25
    ·obtain rfl : t = 3 := by simpa using ht.symm
     exact stand3
    ·obtain rfl : t = 3 := by simpa using ht.symm
     exact stand3
    ·simp at ht⟩)
  goes9
end Go.Proofs.YthhidpjikbhljaaGreatDoor
