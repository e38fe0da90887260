/-
  What is proved: the card of groundQuotas holds: at every input the law returns true and leaves its arguments as they read; its conditions are the card's own.
-/
import Derived.Test.YthhidpjikbhljaaGreatDoorVrB2
import Derived.Test.YthhidpjikbhljaaGreatDoorVrB4
import Derived.Test.YthhidpjikbhljaaGreatDoorCards
import Derived.SevenTiedAt
set_option linter.unusedSectionVars false
set_option linter.unusedSimpArgs false
set_option linter.unusedVariables false
set_option linter.unnecessarySimpa false
set_option linter.deprecated false
namespace Go.Proofs.YthhidpjikbhljaaGreatDoor
theorem groundQuotas_holds : Rows.GroundQuotasSaid :=
 OpenClaim.holds_of_wide 13 Tryz.f13 rfl rfl rfl rfl rfl rfl rfl ⟨rfl, rfl, rfl, rfl, rfl⟩ rfl rfl rfl rfl rfl named13 Tryz.func13 closed13 inst13 wrap13
  (fun os started H enc _ => groundQuotas_lifted os started H enc)
theorem goes13 : false = Rows.groundQuotasRow.goesBy Tryz.prog := by kernel_rfl
theorem looks13 : false = Tryz.prog.looks [] := by kernel_rfl
theorem main13 : Tryz.prog.mainIs = some (true, "e813367c6a5abb3b8fc8cecdf0f8303c4a45e4a9ecf1e2daa4a2713c3aba99cf".toList) := by kernel_rfl
theorem stand25 : Tryz.prog.wantsStandIn 25 = false := by kernel_rfl
theorem stand90 : Tryz.prog.wantsStandIn 90 = false := by kernel_rfl
theorem wfText13 : Rows.groundQuotasRow.wfByText (OpenSpec.ofChange Rows.groundQuotasSpec) = true := by kernel_rfl
theorem groundQuotas_card_holds : Rows.GroundQuotasCardSaid :=
 Claim7.holds_tied_plain_at .later [] [.data] true (true, "e813367c6a5abb3b8fc8cecdf0f8303c4a45e4a9ecf1e2daa4a2713c3aba99cf") false
  groundQuotas_holds (fun _ h => by cases h) wfText13 (fun _ h => by cases h) groundQuotas_row_tie rfl ⟨rfl, rfl⟩ main13 rfl
  (fun f fn hf hfn => by
   obtain rfl : f = 13 := Option.some.inj (named13.symm.trans hf) |>.symm;obtain rfl : fn = Tryz.f13 := (Option.some.inj (Tryz.func13.symm.trans hfn)).symm
   exact ⟨looks13, fun j t ht => by
    rw [Tryz.params13] at ht
    rcases j with _ | _ | j
    ·obtain rfl : t = 90 := by simpa using ht.symm
     exact stand90
    ·obtain rfl : t = 25 := by simpa using ht.symm
     exact stand25
    ·simp at ht⟩)
  goes13
end Go.Proofs.YthhidpjikbhljaaGreatDoor
