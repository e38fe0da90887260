/-
  What is proved: the card of groundChecks holds: at every input the law returns true and leaves its arguments as they read; its conditions are the card's own.
-/
import Derived.Test.YthhidpjikbhljaaGreatDoorVrB2
import Derived.Test.YthhidpjikbhljaaGreatDoorVrB4
import Derived.Test.YthhidpjikbhljaaGreatDoorCards
import Derived.SevenTiedAt
set_option linter.unusedSectionVars false
set_option linter.unusedSimpArgs false
set_option linter.unusedVariables false
set_option linter.unnecessarySimpa false
set_option linter.deprecated false
namespace Go.Proofs.YthhidpjikbhljaaGreatDoor
theorem groundChecks_holds : Rows.GroundChecksSaid :=
 OpenClaim.holds_of_wide 3 Tryz.f3 rfl rfl rfl rfl rfl rfl rfl ⟨rfl, rfl, rfl, rfl, rfl⟩ rfl rfl rfl rfl rfl named3 Tryz.func3 closed3 inst3 wrap3
  (fun os started H enc _ => groundChecks_lifted os started H enc)
theorem goes3 : false = Rows.groundChecksRow.goesBy Tryz.prog := by kernel_rfl
theorem looks3 : false = Tryz.prog.looks [] := by kernel_rfl
theorem main3 : Tryz.prog.mainIs = some (true, "e813367c6a5abb3b8fc8cecdf0f8303c4a45e4a9ecf1e2daa4a2713c3aba99cf".toList) := by kernel_rfl
theorem stand22 : Tryz.prog.wantsStandIn 22 = false := by kernel_rfl
theorem stand23 : Tryz.prog.wantsStandIn 23 = false := by kernel_rfl
theorem stand27 : Tryz.prog.wantsStandIn 27 = false := by kernel_rfl
theorem wfText3 : Rows.groundChecksRow.wfByText (OpenSpec.ofChange Rows.groundChecksSpec) = true := by kernel_rfl
theorem groundChecks_card_holds : Rows.GroundChecksCardSaid :=
 Claim7.holds_tied_plain_at .later [] [.data] true (true, "e813367c6a5abb3b8fc8cecdf0f8303c4a45e4a9ecf1e2daa4a2713c3aba99cf") false
  groundChecks_holds (fun _ h => by cases h) wfText3 (fun _ h => by cases h) groundChecks_row_tie rfl ⟨rfl, rfl⟩ main3 rfl
  (fun f fn hf hfn => by
   obtain rfl : f = 3 := Option.some.inj (named3.symm.trans hf) |>.symm;obtain rfl : fn = Tryz.f3 := (Option.some.inj (Tryz.func3.symm.trans hfn)).symm
   exact ⟨looks3, fun j t ht => by
    rw [Tryz.params3] at ht
    rcases j with _ | _ | _ | j
    ·obtain rfl : t = 22 := by simpa using ht.symm
     exact stand22
    ·obtain rfl : t = 23 := by simpa using ht.symm
     exact stand23
    ·obtain rfl : t = 27 := by simpa using ht.symm
     exact stand27
    ·simp at ht⟩)
  goes3
end Go.Proofs.YthhidpjikbhljaaGreatDoor
