/-
  What is proved: the card of groundClashes holds: at every input the law returns true and leaves its arguments as they read; its conditions are the card's own.
-/
import Derived.Test.YthhidpjikbhljaaGreatDoorVrB3
import Derived.Test.YthhidpjikbhljaaGreatDoorVrB5
import Derived.Test.YthhidpjikbhljaaGreatDoorCards
import Derived.SevenTiedAt
set_option linter.unusedSectionVars false
set_option linter.unusedSimpArgs false
set_option linter.unusedVariables false
set_option linter.unnecessarySimpa false
set_option linter.deprecated false
namespace Go.Proofs.YthhidpjikbhljaaGreatDoor
theorem groundClashes_holds : Rows.GroundClashesSaid :=
 OpenClaim.holds_of_wide 10 Tryz.f10 rfl rfl rfl rfl rfl rfl rfl ⟨rfl, rfl, rfl, rfl, rfl⟩ rfl rfl rfl rfl rfl named10 Tryz.func10 closed10 inst10 wrap10
  (fun os started H enc _ => groundClashes_lifted os started H enc)
theorem goes10 : false = Rows.groundClashesRow.goesBy Tryz.prog := by kernel_rfl
theorem looks10 : false = Tryz.prog.looks [] := by kernel_rfl
theorem main10 : Tryz.prog.mainIs = some (true, "e813367c6a5abb3b8fc8cecdf0f8303c4a45e4a9ecf1e2daa4a2713c3aba99cf".toList) := by kernel_rfl
theorem stand50 : Tryz.prog.wantsStandIn 50 = false := by kernel_rfl
theorem stand51 : Tryz.prog.wantsStandIn 51 = false := by kernel_rfl
theorem stand107 : Tryz.prog.wantsStandIn 107 = false := by kernel_rfl
theorem wfText10 : Rows.groundClashesRow.wfByText (OpenSpec.ofChange Rows.groundClashesSpec) = true := by kernel_rfl
theorem groundClashes_card_holds : Rows.GroundClashesCardSaid :=
 Claim7.holds_tied_plain_at .later [] [.data] true (true, "e813367c6a5abb3b8fc8cecdf0f8303c4a45e4a9ecf1e2daa4a2713c3aba99cf") false
  groundClashes_holds (fun _ h => by cases h) wfText10 (fun _ h => by cases h) groundClashes_row_tie rfl ⟨rfl, rfl⟩ main10 rfl
  (fun f fn hf hfn => by
   obtain rfl : f = 10 := Option.some.inj (named10.symm.trans hf) |>.symm;obtain rfl : fn = Tryz.f10 := (Option.some.inj (Tryz.func10.symm.trans hfn)).symm
   exact ⟨looks10, fun j t ht => by
    rw [Tryz.params10] at ht
    rcases j with _ | _ | _ | j
    ·obtain rfl : t = 50 := by simpa using ht.symm
     exact stand50
    ·obtain rfl : t = 51 := by simpa using ht.symm
     exact stand51
    ·obtain rfl : t = 107 := by simpa using ht.symm
     exact stand107
    ·simp at ht⟩)
  goes10
end Go.Proofs.YthhidpjikbhljaaGreatDoor
