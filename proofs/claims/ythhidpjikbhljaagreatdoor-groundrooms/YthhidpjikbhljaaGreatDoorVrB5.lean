/-
  What is proved: the card of groundRooms holds: at every input the law returns true and leaves its arguments as they read; its conditions are the card's own.
-/
import Derived.Test.YthhidpjikbhljaaGreatDoorVrB2
import Derived.Test.YthhidpjikbhljaaGreatDoorVrB4
import Derived.Test.YthhidpjikbhljaaGreatDoorCards
import Derived.SevenTiedAt
set_option linter.unusedSectionVars false
set_option linter.unusedSimpArgs false
set_option linter.unusedVariables false
set_option linter.unnecessarySimpa false
set_option linter.deprecated false
namespace Go.Proofs.YthhidpjikbhljaaGreatDoor
theorem groundRooms_holds : Rows.GroundRoomsSaid :=
 OpenClaim.holds_of_wide 6 Tryz.f6 rfl rfl rfl rfl rfl rfl rfl ⟨rfl, rfl, rfl, rfl, rfl⟩ rfl rfl rfl rfl rfl named6 Tryz.func6 closed6 inst6 wrap6
  (fun os started H enc _ => groundRooms_lifted os started H enc)
theorem goes6 : false = Rows.groundRoomsRow.goesBy Tryz.prog := by kernel_rfl
theorem looks6 : false = Tryz.prog.looks [] := by kernel_rfl
theorem main6 : Tryz.prog.mainIs = some (true, "e813367c6a5abb3b8fc8cecdf0f8303c4a45e4a9ecf1e2daa4a2713c3aba99cf".toList) := by kernel_rfl
theorem stand27 : Tryz.prog.wantsStandIn 27 = false := by kernel_rfl
theorem stand80 : Tryz.prog.wantsStandIn 80 = false := by kernel_rfl
theorem wfText6 : Rows.groundRoomsRow.wfByText (OpenSpec.ofChange Rows.groundRoomsSpec) = true := by kernel_rfl
theorem groundRooms_card_holds : Rows.GroundRoomsCardSaid :=
 Claim7.holds_tied_plain_at .later [] [.data] true (true, "e813367c6a5abb3b8fc8cecdf0f8303c4a45e4a9ecf1e2daa4a2713c3aba99cf") false
  groundRooms_holds (fun _ h => by cases h) wfText6 (fun _ h => by cases h) groundRooms_row_tie rfl ⟨rfl, rfl⟩ main6 rfl
  (fun f fn hf hfn => by
   obtain rfl : f = 6 := Option.some.inj (named6.symm.trans hf) |>.symm;obtain rfl : fn = Tryz.f6 := (Option.some.inj (Tryz.func6.symm.trans hfn)).symm
   exact ⟨looks6, fun j t ht => by
    rw [Tryz.params6] at ht
    rcases j with _ | _ | j
    ·obtain rfl : t = 27 := by simpa using ht.symm
     exact stand27
    ·obtain rfl : t = 80 := by simpa using ht.symm
     exact stand80
    ·simp at ht⟩)
  goes6
end Go.Proofs.YthhidpjikbhljaaGreatDoor
