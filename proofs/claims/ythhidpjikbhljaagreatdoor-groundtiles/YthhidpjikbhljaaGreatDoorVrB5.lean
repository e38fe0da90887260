/-
  What is proved: the card of groundTiles holds: at every input the law returns true and leaves its arguments as they read; its conditions are the card's own.
-/
import Derived.Test.YthhidpjikbhljaaGreatDoorVrB2
import Derived.Test.YthhidpjikbhljaaGreatDoorVrB4
import Derived.Test.YthhidpjikbhljaaGreatDoorCards
import Derived.SevenTiedAt
set_option linter.unusedSectionVars false
set_option linter.unusedSimpArgs false
set_option linter.unusedVariables false
set_option linter.unnecessarySimpa false
set_option linter.deprecated false
namespace Go.Proofs.YthhidpjikbhljaaGreatDoor
theorem groundTiles_holds : Rows.GroundTilesSaid :=
 OpenClaim.holds_of_wide 14 Tryz.f14 rfl rfl rfl rfl rfl rfl rfl ⟨rfl, rfl, rfl, rfl, rfl⟩ rfl rfl rfl rfl rfl named14 Tryz.func14 closed14 inst14 wrap14
  (fun os started H enc _ => groundTiles_lifted os started H enc)
theorem goes14 : false = Rows.groundTilesRow.goesBy Tryz.prog := by kernel_rfl
theorem looks14 : false = Tryz.prog.looks [] := by kernel_rfl
theorem main14 : Tryz.prog.mainIs = some (true, "e813367c6a5abb3b8fc8cecdf0f8303c4a45e4a9ecf1e2daa4a2713c3aba99cf".toList) := by kernel_rfl
theorem stand3 : Tryz.prog.wantsStandIn 3 = false := by kernel_rfl
theorem stand25 : Tryz.prog.wantsStandIn 25 = false := by kernel_rfl
theorem stand90 : Tryz.prog.wantsStandIn 90 = false := by kernel_rfl
theorem wfText14 : Rows.groundTilesRow.wfByText (OpenSpec.ofChange Rows.groundTilesSpec) = true := by kernel_rfl
theorem groundTiles_card_holds : Rows.GroundTilesCardSaid :=
 Claim7.holds_tied_plain_at .later [] [.data] true (true, "e813367c6a5abb3b8fc8cecdf0f8303c4a45e4a9ecf1e2daa4a2713c3aba99cf") false
  groundTiles_holds (fun _ h => by cases h) wfText14 (fun _ h => by cases h) groundTiles_row_tie rfl ⟨rfl, rfl⟩ main14 rfl
  (fun f fn hf hfn => by
   obtain rfl : f = 14 := Option.some.inj (named14.symm.trans hf) |>.symm;obtain rfl : fn = Tryz.f14 := (Option.some.inj (Tryz.func14.symm.trans hfn)).symm
   exact ⟨looks14, fun j t ht => by
    rw [Tryz.params14] at ht
    rcases j with _ | _ | _ | j
    ·obtain rfl : t = 90 := by simpa using ht.symm
     exact stand90
    ·obtain rfl : t = 25 := by simpa using ht.symm
     exact stand25
    ·obtain rfl : t = 3 := by simpa using ht.symm
     exact stand3
    ·simp at ht⟩)
  goes14
end Go.Proofs.YthhidpjikbhljaaGreatDoor
