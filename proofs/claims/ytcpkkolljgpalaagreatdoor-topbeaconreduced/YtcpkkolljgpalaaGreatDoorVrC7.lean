/-
  What is proved: the card of topBeaconReduced holds: at every input the law returns true and leaves its arguments as they read; its conditions are the card's own.
-/
import Derived.Test.YtcpkkolljgpalaaGreatDoorVrC4
import Derived.Test.YtcpkkolljgpalaaGreatDoorVrC6
import Derived.Test.YtcpkkolljgpalaaGreatDoorCards
import Derived.SevenTiedAt
set_option linter.unusedSectionVars false
set_option linter.unusedSimpArgs false
set_option linter.unusedVariables false
set_option linter.unnecessarySimpa false
set_option linter.deprecated false
namespace Go.Proofs.YtcpkkolljgpalaaGreatDoor
theorem topBeaconReduced_holds : Rows.TopBeaconReducedSaid :=
 OpenClaim.holds_of_wide 3 Tryz.f3 rfl rfl rfl rfl rfl rfl rfl ⟨rfl, rfl, rfl, rfl, rfl⟩ rfl rfl rfl rfl rfl named3 Tryz.func3 qxw q3a q3b
  (fun os started H enc _ => topBeaconReduced_lifted os started H enc)
theorem q3g : false = Rows.topBeaconReducedRow.goesBy Tryz.prog := by kernel_rfl
theorem q1h : false = Tryz.prog.looks [] := by kernel_rfl
theorem q3h : Tryz.prog.mainIs = some (true, "a2be69bcb50fc0f25f40339c6b3b2bf019808a8acd15c88e52868d9e3cafe357".toList) := by kernel_rfl
theorem q1i : Tryz.prog.wantsStandIn 3 = false := by kernel_rfl
theorem qzf : Tryz.prog.wantsStandIn 23 = false := by kernel_rfl
theorem qzg : Tryz.prog.wantsStandIn 28 = false := by kernel_rfl
theorem qzh : Rows.topBeaconReducedRow.wfByText (OpenSpec.ofChange Rows.topBeaconReducedSpec) = true := by kernel_rfl
theorem topBeaconReduced_card_holds : Rows.TopBeaconReducedCardSaid :=
 Claim7.holds_tied_plain_at .later [] [.data] true (true, "a2be69bcb50fc0f25f40339c6b3b2bf019808a8acd15c88e52868d9e3cafe357") false
  topBeaconReduced_holds (fun _ h => by cases h) qzh (fun _ h => by cases h) topBeaconReduced_row_tie rfl ⟨rfl, rfl⟩ q3h rfl
  (fun f fn hf hfn => by
   obtain rfl : f = 3 := Option.some.inj (named3.symm.trans hf) |>.symm;obtain rfl : fn = Tryz.f3 := (Option.some.inj (Tryz.func3.symm.trans hfn)).symm
   exact ⟨q1h, fun j t ht => by
    rw [Tryz.params3] at ht
    rcases j with _ | _ | _ | j
    ·obtain rfl : t = 23 := by simpa using ht.symm
     exact qzf
    ·obtain rfl : t = 3 := by simpa using ht.symm
     exact q1i
    ·obtain rfl : t = 28 := by simpa using ht.symm
     exact qzg
    ·simp at ht⟩)
  q3g
end Go.Proofs.YtcpkkolljgpalaaGreatDoor
