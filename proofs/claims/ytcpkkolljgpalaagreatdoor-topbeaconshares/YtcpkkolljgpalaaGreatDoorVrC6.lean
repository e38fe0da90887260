/-
  What is proved: the card of topBeaconShares holds: at every input the law returns true and leaves its arguments as they read; its conditions are the card's own.
-/
import Derived.Test.YtcpkkolljgpalaaGreatDoorVrC3
import Derived.Test.YtcpkkolljgpalaaGreatDoorVrC5
import Derived.Test.YtcpkkolljgpalaaGreatDoorCards
import Derived.SevenTiedAt
set_option linter.unusedSectionVars false
set_option linter.unusedSimpArgs false
set_option linter.unusedVariables false
set_option linter.unnecessarySimpa false
set_option linter.deprecated false
namespace Go.Proofs.YtcpkkolljgpalaaGreatDoor
theorem topBeaconShares_holds : Rows.TopBeaconSharesSaid :=
 OpenClaim.holds_of_wide 4 Tryz.f4 rfl rfl rfl rfl rfl rfl rfl ⟨rfl, rfl, rfl, rfl, rfl⟩ rfl rfl rfl rfl rfl named4 Tryz.func4 closed4 inst4 wrap4
  (fun os started H enc _ => topBeaconShares_lifted os started H enc)
theorem goes4 : false = Rows.topBeaconSharesRow.goesBy Tryz.prog := by kernel_rfl
theorem looks4 : false = Tryz.prog.looks [] := by kernel_rfl
theorem main4 : Tryz.prog.mainIs = some (true, "a2be69bcb50fc0f25f40339c6b3b2bf019808a8acd15c88e52868d9e3cafe357".toList) := by kernel_rfl
theorem stand3 : Tryz.prog.wantsStandIn 3 = false := by kernel_rfl
theorem stand23 : Tryz.prog.wantsStandIn 23 = false := by kernel_rfl
theorem stand63 : Tryz.prog.wantsStandIn 63 = false := by kernel_rfl
theorem wfText4 : Rows.topBeaconSharesRow.wfByText (OpenSpec.ofChange Rows.topBeaconSharesSpec) = true := by kernel_rfl
theorem topBeaconShares_card_holds : Rows.TopBeaconSharesCardSaid :=
 Claim7.holds_tied_plain_at .later [] [.data] true (true, "a2be69bcb50fc0f25f40339c6b3b2bf019808a8acd15c88e52868d9e3cafe357") false
  topBeaconShares_holds (fun _ h => by cases h) wfText4 (fun _ h => by cases h) topBeaconShares_row_tie rfl ⟨rfl, rfl⟩ main4 rfl
  (fun f fn hf hfn => by
   obtain rfl : f = 4 := Option.some.inj (named4.symm.trans hf) |>.symm;obtain rfl : fn = Tryz.f4 := (Option.some.inj (Tryz.func4.symm.trans hfn)).symm
   exact ⟨looks4, fun j t ht => by
    rw [Tryz.params4] at ht
    rcases j with _ | _ | _ | j
    ·obtain rfl : t = 23 := by simpa using ht.symm
     exact stand23
    ·obtain rfl : t = 3 := by simpa using ht.symm
     exact stand3
    ·obtain rfl : t = 63 := by simpa using ht.symm
     exact stand63
    ·simp at ht⟩)
  goes4
end Go.Proofs.YtcpkkolljgpalaaGreatDoor
