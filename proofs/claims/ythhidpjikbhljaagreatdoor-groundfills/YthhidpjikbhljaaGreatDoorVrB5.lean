/-
  What is proved: the card of groundFills holds: at every input the law returns true and leaves its arguments as they read; its conditions are the card's own.
-/
import Derived.Test.YthhidpjikbhljaaGreatDoorVrB2
import Derived.Test.YthhidpjikbhljaaGreatDoorVrB4
import Derived.Test.YthhidpjikbhljaaGreatDoorCards
import Derived.SevenTiedAt
set_option linter.unusedSectionVars false
set_option linter.unusedSimpArgs false
set_option linter.unusedVariables false
set_option linter.unnecessarySimpa false
set_option linter.deprecated false
namespace Go.Proofs.YthhidpjikbhljaaGreatDoor
theorem groundFills_holds : Rows.GroundFillsSaid :=
 OpenClaim.holds_of_wide 8 Tryz.f8 rfl rfl rfl rfl rfl rfl rfl ⟨rfl, rfl, rfl, rfl, rfl⟩ rfl rfl rfl rfl rfl named8 Tryz.func8 closed8 inst8 wrap8
  (fun os started H enc _ => groundFills_lifted os started H enc)
theorem goes8 : false = Rows.groundFillsRow.goesBy Tryz.prog := by kernel_rfl
theorem looks8 : false = Tryz.prog.looks [] := by kernel_rfl
theorem main8 : Tryz.prog.mainIs = some (true, "e813367c6a5abb3b8fc8cecdf0f8303c4a45e4a9ecf1e2daa4a2713c3aba99cf".toList) := by kernel_rfl
theorem stand27 : Tryz.prog.wantsStandIn 27 = false := by kernel_rfl
theorem stand80 : Tryz.prog.wantsStandIn 80 = false := by kernel_rfl
theorem wfText8 : Rows.groundFillsRow.wfByText (OpenSpec.ofChange Rows.groundFillsSpec) = true := by kernel_rfl
theorem groundFills_card_holds : Rows.GroundFillsCardSaid :=
 Claim7.holds_tied_plain_at .later [] [.data] true (true, "e813367c6a5abb3b8fc8cecdf0f8303c4a45e4a9ecf1e2daa4a2713c3aba99cf") false
  groundFills_holds (fun _ h => by cases h) wfText8 (fun _ h => by cases h) groundFills_row_tie rfl ⟨rfl, rfl⟩ main8 rfl
  (fun f fn hf hfn => by
   obtain rfl : f = 8 := Option.some.inj (named8.symm.trans hf) |>.symm;obtain rfl : fn = Tryz.f8 := (Option.some.inj (Tryz.func8.symm.trans hfn)).symm
   exact ⟨looks8, fun j t ht => by
    rw [Tryz.params8] at ht
    rcases j with _ | _ | j
    ·obtain rfl : t = 27 := by simpa using ht.symm
     exact stand27
    ·obtain rfl : t = 80 := by simpa using ht.symm
     exact stand80
    ·simp at ht⟩)
  goes8
end Go.Proofs.YthhidpjikbhljaaGreatDoor
