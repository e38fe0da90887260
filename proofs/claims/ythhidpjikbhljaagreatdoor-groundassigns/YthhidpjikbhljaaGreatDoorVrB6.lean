/-
  What is proved: the card of groundAssigns holds: at every input the law returns true and leaves its arguments as they read; its conditions are the card's own.
-/
import Derived.Test.YthhidpjikbhljaaGreatDoorVrB3
import Derived.Test.YthhidpjikbhljaaGreatDoorVrB5
import Derived.Test.YthhidpjikbhljaaGreatDoorCards
import Derived.SevenTiedAt
set_option linter.unusedSectionVars false
set_option linter.unusedSimpArgs false
set_option linter.unusedVariables false
set_option linter.unnecessarySimpa false
set_option linter.deprecated false
namespace Go.Proofs.YthhidpjikbhljaaGreatDoor
theorem groundAssigns_holds : Rows.GroundAssignsSaid :=
 OpenClaim.holds_of_wide 4 Tryz.f4 rfl rfl rfl rfl rfl rfl rfl ⟨rfl, rfl, rfl, rfl, rfl⟩ rfl rfl rfl rfl rfl named4 Tryz.func4 closed4 inst4 wrap4
  (fun os started H enc _ => groundAssigns_lifted os started H enc)
theorem goes4 : false = Rows.groundAssignsRow.goesBy Tryz.prog := by kernel_rfl
theorem looks4 : false = Tryz.prog.looks [] := by kernel_rfl
theorem main4 : Tryz.prog.mainIs = some (true, "e813367c6a5abb3b8fc8cecdf0f8303c4a45e4a9ecf1e2daa4a2713c3aba99cf".toList) := by kernel_rfl
theorem stand50 : Tryz.prog.wantsStandIn 50 = false := by kernel_rfl
theorem stand51 : Tryz.prog.wantsStandIn 51 = false := by kernel_rfl
theorem wfText4 : Rows.groundAssignsRow.wfByText (OpenSpec.ofChange Rows.groundAssignsSpec) = true := by kernel_rfl
theorem groundAssigns_card_holds : Rows.GroundAssignsCardSaid :=
 Claim7.holds_tied_plain_at .later [] [.data] true (true, "e813367c6a5abb3b8fc8cecdf0f8303c4a45e4a9ecf1e2daa4a2713c3aba99cf") false
  groundAssigns_holds (fun _ h => by cases h) wfText4 (fun _ h => by cases h) groundAssigns_row_tie rfl ⟨rfl, rfl⟩ main4 rfl
  (fun f fn hf hfn => by
   obtain rfl : f = 4 := Option.some.inj (named4.symm.trans hf) |>.symm;obtain rfl : fn = Tryz.f4 := (Option.some.inj (Tryz.func4.symm.trans hfn)).symm
   exact ⟨looks4, fun j t ht => by
    rw [Tryz.params4] at ht
    rcases j with _ | _ | j
    ·obtain rfl : t = 50 := by simpa using ht.symm
     exact stand50
    ·obtain rfl : t = 51 := by simpa using ht.symm
     exact stand51
    ·simp at ht⟩)
  goes4
end Go.Proofs.YthhidpjikbhljaaGreatDoor
