/-
  What is proved: the card of UseChecks holds: at every input the law returns true and leaves its arguments as they read; its conditions are the card's own.
-/
import Derived.Test.YtdfgeoefbbkcnaaGreatDoorUcB4
import Derived.Test.YtdfgeoefbbkcnaaGreatDoorUcB3
import Derived.Test.YtdfgeoefbbkcnaaGreatDoorCards
import Derived.SevenTiedAt
set_option linter.unusedSectionVars false
set_option linter.unusedSimpArgs false
set_option linter.unusedVariables false
set_option linter.unnecessarySimpa false
set_option linter.deprecated false
namespace Go.Proofs.YtdfgeoefbbkcnaaGreatDoor
theorem useChecks_holds : Rows.UseChecksSaid :=
  OpenClaim.holds_of_wide 3 Tryz.f3 rfl rfl rfl rfl rfl rfl rfl ⟨rfl, rfl, rfl, rfl, rfl⟩ rfl rfl rfl rfl rfl named3 Tryz.func3 closed3 inst3 wrap3
    (fun os started H enc _ => useChecks_lifted os started H enc)
theorem goes3 : false = Rows.useChecksRow.goesBy Tryz.prog := by kernel_rfl
theorem looks3 : false = Tryz.prog.looks [] := by kernel_rfl
theorem main3 : Tryz.prog.mainIs = some (true, "53f62e1175aec5bbbb2f5a8fad07f2d835bf6bbac642c2d216bb8dfb64a17572".toList) := by kernel_rfl
theorem stand24 : Tryz.prog.wantsStandIn 24 = false := by kernel_rfl
theorem stand25 : Tryz.prog.wantsStandIn 25 = false := by kernel_rfl
theorem stand26 : Tryz.prog.wantsStandIn 26 = false := by kernel_rfl
theorem wfText3 : Rows.useChecksRow.wfByText (OpenSpec.ofChange Rows.useChecksSpec) = true := by kernel_rfl
theorem useChecks_card_holds : Rows.UseChecksCardSaid :=
  Claim7.holds_tied_plain_at .later [] [.data, .data] true (true, "53f62e1175aec5bbbb2f5a8fad07f2d835bf6bbac642c2d216bb8dfb64a17572") false
    useChecks_holds (fun _ h => by cases h) wfText3 (fun _ h => by cases h) useChecks_row_tie rfl ⟨rfl, rfl⟩ main3 rfl
    (fun f fn hf hfn => by
      obtain rfl : f = 3 := Option.some.inj (named3.symm.trans hf) |>.symm
      obtain rfl : fn = Tryz.f3 := (Option.some.inj (Tryz.func3.symm.trans hfn)).symm
      exact ⟨looks3, fun j t ht => by
        rw [Tryz.params3] at ht
        have h3 : t = 24 ∨ t = 25 ∨ t = 26 := by
          rcases j with _ | _ | _ | j
          · exact .inl (by simpa using ht.symm)
          · exact .inr (.inl (by simpa using ht.symm))
          · exact .inr (.inr (by simpa using ht.symm))
          · simp at ht
        rcases h3 with rfl | rfl | rfl
        · exact stand24
        · exact stand25
        · exact stand26⟩)
    goes3
end Go.Proofs.YtdfgeoefbbkcnaaGreatDoor

