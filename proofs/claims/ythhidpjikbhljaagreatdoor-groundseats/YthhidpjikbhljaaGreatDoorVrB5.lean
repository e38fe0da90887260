/-
  What is proved: the card of groundSeats holds: at every input the law returns true and leaves its arguments as they read; its conditions are the card's own.
-/
import Derived.Test.YthhidpjikbhljaaGreatDoorVrB2
import Derived.Test.YthhidpjikbhljaaGreatDoorVrB4
import Derived.Test.YthhidpjikbhljaaGreatDoorCards
import Derived.SevenTiedAt
set_option linter.unusedSectionVars false
set_option linter.unusedSimpArgs false
set_option linter.unusedVariables false
set_option linter.unnecessarySimpa false
set_option linter.deprecated false
namespace Go.Proofs.YthhidpjikbhljaaGreatDoor
theorem groundSeats_holds : Rows.GroundSeatsSaid :=
 OpenClaim.holds_of_wide 5 Tryz.f5 rfl rfl rfl rfl rfl rfl rfl ⟨rfl, rfl, rfl, rfl, rfl⟩ rfl rfl rfl rfl rfl named5 Tryz.func5 closed5 inst5 wrap5
  (fun os started H enc _ => groundSeats_lifted os started H enc)
theorem goes5 : false = Rows.groundSeatsRow.goesBy Tryz.prog := by kernel_rfl
theorem looks5 : false = Tryz.prog.looks [] := by kernel_rfl
theorem main5 : Tryz.prog.mainIs = some (true, "e813367c6a5abb3b8fc8cecdf0f8303c4a45e4a9ecf1e2daa4a2713c3aba99cf".toList) := by kernel_rfl
theorem stand3 : Tryz.prog.wantsStandIn 3 = false := by kernel_rfl
theorem stand27 : Tryz.prog.wantsStandIn 27 = false := by kernel_rfl
theorem wfText5 : Rows.groundSeatsRow.wfByText (OpenSpec.ofChange Rows.groundSeatsSpec) = true := by kernel_rfl
theorem groundSeats_card_holds : Rows.GroundSeatsCardSaid :=
 Claim7.holds_tied_plain_at .later [] [.data] true (true, "e813367c6a5abb3b8fc8cecdf0f8303c4a45e4a9ecf1e2daa4a2713c3aba99cf") false
  groundSeats_holds (fun _ h => by cases h) wfText5 (fun _ h => by cases h) groundSeats_row_tie rfl ⟨rfl, rfl⟩ main5 rfl
  (fun f fn hf hfn => by
   obtain rfl : f = 5 := Option.some.inj (named5.symm.trans hf) |>.symm;obtain rfl : fn = Tryz.f5 := (Option.some.inj (Tryz.func5.symm.trans hfn)).symm
   exact ⟨looks5, fun j t ht => by
    rw [Tryz.params5] at ht
    rcases j with _ | _ | j
    ·obtain rfl : t = 27 := by simpa using ht.symm
     exact stand27
    ·obtain rfl : t = 3 := by simpa using ht.symm
     exact stand3
    ·simp at ht⟩)
  goes5
end Go.Proofs.YthhidpjikbhljaaGreatDoor
