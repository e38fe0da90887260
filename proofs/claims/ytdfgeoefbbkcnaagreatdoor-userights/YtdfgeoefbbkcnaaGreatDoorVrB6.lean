/-
  What is proved: the card of useRights holds: at every input the law returns true and leaves its arguments as they read; its conditions are the card's own.
-/
import Derived.Test.YtdfgeoefbbkcnaaGreatDoorVrB3
import Derived.Test.YtdfgeoefbbkcnaaGreatDoorVrB5
import Derived.Test.YtdfgeoefbbkcnaaGreatDoorCards
import Derived.SevenTiedAt
set_option linter.unusedSectionVars false
set_option linter.unusedSimpArgs false
set_option linter.unusedVariables false
set_option linter.unnecessarySimpa false
set_option linter.deprecated false
namespace Go.Proofs.YtdfgeoefbbkcnaaGreatDoor
theorem useRights_holds : Rows.UseRightsSaid :=
 OpenClaim.holds_of_wide 11 Tryz.f11 rfl rfl rfl rfl rfl rfl rfl ⟨rfl, rfl, rfl, rfl, rfl⟩ rfl rfl rfl rfl rfl named11 Tryz.func11 qq3 qxn qxo
  (fun os started H enc _ => useRights_lifted os started H enc)
theorem qxp : false = Rows.useRightsRow.goesBy Tryz.prog := by kernel_rfl
theorem qus : false = Tryz.prog.looks [] := by kernel_rfl
theorem qxq : Tryz.prog.mainIs = some (true, "53f62e1175aec5bbbb2f5a8fad07f2d835bf6bbac642c2d216bb8dfb64a17572".toList) := by kernel_rfl
theorem qut : Tryz.prog.wantsStandIn 24 = false := by kernel_rfl
theorem quu : Tryz.prog.wantsStandIn 26 = false := by kernel_rfl
theorem qq4 : Tryz.prog.wantsStandIn 114 = false := by kernel_rfl
theorem qq5 : Rows.useRightsRow.wfByText (OpenSpec.ofChange Rows.useRightsSpec) = true := by kernel_rfl
theorem useRights_card_holds : Rows.UseRightsCardSaid :=
 Claim7.holds_tied_plain_at .later [] [.data, .data] true (true, "53f62e1175aec5bbbb2f5a8fad07f2d835bf6bbac642c2d216bb8dfb64a17572") false
  useRights_holds (fun _ h => by cases h) qq5 (fun _ h => by cases h) useRights_row_tie rfl ⟨rfl, rfl⟩ qxq rfl
  (fun f fn hf hfn => by
   obtain rfl : f = 11 := Option.some.inj (named11.symm.trans hf) |>.symm;obtain rfl : fn = Tryz.f11 := (Option.some.inj (Tryz.func11.symm.trans hfn)).symm
   exact ⟨qus, fun j t ht => by
    rw [Tryz.params11] at ht
    rcases j with _ | _ | _ | j
    ·obtain rfl : t = 24 := by simpa using ht.symm
     exact qut
    ·obtain rfl : t = 114 := by simpa using ht.symm
     exact qq4
    ·obtain rfl : t = 26 := by simpa using ht.symm
     exact quu
    ·simp at ht⟩)
  qxp
end Go.Proofs.YtdfgeoefbbkcnaaGreatDoor
