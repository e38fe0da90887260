/-
  What is proved: the card of groundFits holds: at every input the law returns true and leaves its arguments as they read; its conditions are the card's own.
-/
import Derived.Test.YthhidpjikbhljaaGreatDoorVrB4
import Derived.Test.YthhidpjikbhljaaGreatDoorVrB6
import Derived.Test.YthhidpjikbhljaaGreatDoorCards
import Derived.SevenTiedAt
set_option linter.unusedSectionVars false
set_option linter.unusedSimpArgs false
set_option linter.unusedVariables false
set_option linter.unnecessarySimpa false
set_option linter.deprecated false
namespace Go.Proofs.YthhidpjikbhljaaGreatDoor
theorem groundFits_holds : Rows.GroundFitsSaid :=
 OpenClaim.holds_of_wide 11 Tryz.f11 rfl rfl rfl rfl rfl rfl rfl ⟨rfl, rfl, rfl, rfl, rfl⟩ rfl rfl rfl rfl rfl named11 Tryz.func11 closed11 inst11 wrap11
  (fun os started H enc _ => groundFits_lifted os started H enc)
theorem goes11 : false = Rows.groundFitsRow.goesBy Tryz.prog := by kernel_rfl
theorem looks11 : false = Tryz.prog.looks [] := by kernel_rfl
theorem main11 : Tryz.prog.mainIs = some (true, "e813367c6a5abb3b8fc8cecdf0f8303c4a45e4a9ecf1e2daa4a2713c3aba99cf".toList) := by kernel_rfl
theorem stand5 : Tryz.prog.wantsStandIn 5 = false := by kernel_rfl
theorem stand50 : Tryz.prog.wantsStandIn 50 = false := by kernel_rfl
theorem stand51 : Tryz.prog.wantsStandIn 51 = false := by kernel_rfl
theorem wfText11 : Rows.groundFitsRow.wfByText (OpenSpec.ofChange Rows.groundFitsSpec) = true := by kernel_rfl
theorem groundFits_card_holds : Rows.GroundFitsCardSaid :=
 Claim7.holds_tied_plain_at .later [] [.data] true (true, "e813367c6a5abb3b8fc8cecdf0f8303c4a45e4a9ecf1e2daa4a2713c3aba99cf") false
  groundFits_holds (fun _ h => by cases h) wfText11 (fun _ h => by cases h) groundFits_row_tie rfl ⟨rfl, rfl⟩ main11 rfl
  (fun f fn hf hfn => by
   obtain rfl : f = 11 := Option.some.inj (named11.symm.trans hf) |>.symm;obtain rfl : fn = Tryz.f11 := (Option.some.inj (Tryz.func11.symm.trans hfn)).symm
   exact ⟨looks11, fun j t ht => by
    rw [Tryz.params11] at ht
    rcases j with _ | _ | _ | j
    ·obtain rfl : t = 50 := by simpa using ht.symm
     exact stand50
    ·obtain rfl : t = 51 := by simpa using ht.symm
     exact stand51
    ·obtain rfl : t = 5 := by simpa using ht.symm
     exact stand5
    ·simp at ht⟩)
  goes11
end Go.Proofs.YthhidpjikbhljaaGreatDoor
