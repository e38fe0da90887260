/-
  What is proved: the card of useCarries holds: at every input the law returns true and leaves its arguments as they read; its conditions are the card's own.
-/
import Derived.Test.YtdfgeoefbbkcnaaGreatDoorVrB3
import Derived.Test.YtdfgeoefbbkcnaaGreatDoorVrB5
import Derived.Test.YtdfgeoefbbkcnaaGreatDoorCards
import Derived.SevenTiedAt
set_option linter.unusedSectionVars false
set_option linter.unusedSimpArgs false
set_option linter.unusedVariables false
set_option linter.unnecessarySimpa false
set_option linter.deprecated false
namespace Go.Proofs.YtdfgeoefbbkcnaaGreatDoor
theorem useCarries_holds : Rows.UseCarriesSaid :=
 OpenClaim.holds_of_wide 12 Tryz.f12 rfl rfl rfl rfl rfl rfl rfl ⟨rfl, rfl, rfl, rfl, rfl⟩ rfl rfl rfl rfl rfl named12 Tryz.func12 qpk qu9 qva
  (fun os started H enc _ => useCarries_lifted os started H enc)
theorem qvb : false = Rows.useCarriesRow.goesBy Tryz.prog := by kernel_rfl
theorem qs5 : false = Tryz.prog.looks [] := by kernel_rfl
theorem qvc : Tryz.prog.mainIs = some (true, "53f62e1175aec5bbbb2f5a8fad07f2d835bf6bbac642c2d216bb8dfb64a17572".toList) := by kernel_rfl
theorem qs6 : Tryz.prog.wantsStandIn 46 = false := by kernel_rfl
theorem qs7 : Tryz.prog.wantsStandIn 68 = false := by kernel_rfl
theorem qpl : Rows.useCarriesRow.wfByText (OpenSpec.ofChange Rows.useCarriesSpec) = true := by kernel_rfl
theorem useCarries_card_holds : Rows.UseCarriesCardSaid :=
 Claim7.holds_tied_plain_at .later [] [.data, .data] true (true, "53f62e1175aec5bbbb2f5a8fad07f2d835bf6bbac642c2d216bb8dfb64a17572") false
  useCarries_holds (fun _ h => by cases h) qpl (fun _ h => by cases h) useCarries_row_tie rfl ⟨rfl, rfl⟩ qvc rfl
  (fun f fn hf hfn => by
   obtain rfl : f = 12 := Option.some.inj (named12.symm.trans hf) |>.symm;obtain rfl : fn = Tryz.f12 := (Option.some.inj (Tryz.func12.symm.trans hfn)).symm
   exact ⟨qs5, fun j t ht => by
    rw [Tryz.params12] at ht
    rcases j with _ | _ | j
    ·obtain rfl : t = 46 := by simpa using ht.symm
     exact qs6
    ·obtain rfl : t = 68 := by simpa using ht.symm
     exact qs7
    ·simp at ht⟩)
  qvb
end Go.Proofs.YtdfgeoefbbkcnaaGreatDoor
