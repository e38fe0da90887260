/-
  What is proved: the card of groundPairs holds: at every input the law returns true and leaves its arguments as they read; its conditions are the card's own.
-/
import Derived.Test.YthhidpjikbhljaaGreatDoorVrB2
import Derived.Test.YthhidpjikbhljaaGreatDoorVrB4
import Derived.Test.YthhidpjikbhljaaGreatDoorCards
import Derived.SevenTiedAt
set_option linter.unusedSectionVars false
set_option linter.unusedSimpArgs false
set_option linter.unusedVariables false
set_option linter.unnecessarySimpa false
set_option linter.deprecated false
namespace Go.Proofs.YthhidpjikbhljaaGreatDoor
theorem groundPairs_holds : Rows.GroundPairsSaid :=
 OpenClaim.holds_of_wide 12 Tryz.f12 rfl rfl rfl rfl rfl rfl rfl ⟨rfl, rfl, rfl, rfl, rfl⟩ rfl rfl rfl rfl rfl named12 Tryz.func12 closed12 inst12 wrap12
  (fun os started H enc _ => groundPairs_lifted os started H enc)
theorem goes12 : false = Rows.groundPairsRow.goesBy Tryz.prog := by kernel_rfl
theorem looks12 : false = Tryz.prog.looks [] := by kernel_rfl
theorem main12 : Tryz.prog.mainIs = some (true, "e813367c6a5abb3b8fc8cecdf0f8303c4a45e4a9ecf1e2daa4a2713c3aba99cf".toList) := by kernel_rfl
theorem stand123 : Tryz.prog.wantsStandIn 123 = false := by kernel_rfl
theorem stand129 : Tryz.prog.wantsStandIn 129 = false := by kernel_rfl
theorem stand130 : Tryz.prog.wantsStandIn 130 = false := by kernel_rfl
theorem wfText12 : Rows.groundPairsRow.wfByText (OpenSpec.ofChange Rows.groundPairsSpec) = true := by kernel_rfl
theorem groundPairs_card_holds : Rows.GroundPairsCardSaid :=
 Claim7.holds_tied_plain_at .later [] [.data] true (true, "e813367c6a5abb3b8fc8cecdf0f8303c4a45e4a9ecf1e2daa4a2713c3aba99cf") false
  groundPairs_holds (fun _ h => by cases h) wfText12 (fun _ h => by cases h) groundPairs_row_tie rfl ⟨rfl, rfl⟩ main12 rfl
  (fun f fn hf hfn => by
   obtain rfl : f = 12 := Option.some.inj (named12.symm.trans hf) |>.symm;obtain rfl : fn = Tryz.f12 := (Option.some.inj (Tryz.func12.symm.trans hfn)).symm
   exact ⟨looks12, fun j t ht => by
    rw [Tryz.params12] at ht
    rcases j with _ | _ | _ | j
    ·obtain rfl : t = 129 := by simpa using ht.symm
     exact stand129
    ·obtain rfl : t = 123 := by simpa using ht.symm
     exact stand123
    ·obtain rfl : t = 130 := by simpa using ht.symm
     exact stand130
    ·simp at ht⟩)
  goes12
end Go.Proofs.YthhidpjikbhljaaGreatDoor
