/-
  What is proved: the card of UseSeries holds: at every input the law returns true and leaves its argument as it reads; its conditions are the card's own.
-/
import Derived.Test.YtdfgeoefbbkcnaaGreatDoorUcB4
import Derived.Test.YtdfgeoefbbkcnaaGreatDoorUsC1
import Derived.Test.YtdfgeoefbbkcnaaGreatDoorUsC2
import Derived.Test.YtdfgeoefbbkcnaaGreatDoorCards
import Derived.SevenTiedAt
set_option linter.unusedSectionVars false
set_option linter.unusedSimpArgs false
set_option linter.unusedVariables false
set_option linter.unnecessarySimpa false
set_option linter.deprecated false
namespace Go.Proofs.YtdfgeoefbbkcnaaGreatDoor
open Go.ChangeShapes Go.WideShapes Go.ChangeAt Go.WideMaps Go.WideElems Go.RowKit
open Go.Sim
theorem sh48 : shOf Tryz.prog 9 48 = some [.str, .str, .int, .int, .int, .int] := by kernel_rfl
theorem is_S47 {gs : List G} (h : Is [.str, .str, .int, .int, .int, .int] gs) : ∃ x : S47, gs = x.c := by
  cases h with
  | str n1 h => cases h with
    | str n2 h => cases h with
      | int n3 h => cases h with
        | int n4 h => cases h with
          | int n5 h => cases h with
            | int n6 h => cases h; exact ⟨⟨n1, n2, ⟨n3, n4, n5⟩, n6⟩, rfl⟩
set_option maxRecDepth 100000 in
theorem useSeries_lifted (os : Os) (started : os.Started) (H : Type) (enc : TypeId × Value → H) :
    ReturnsInHanded {} Tryz.checked os 4 .any (fun w args => (Rows.useSeriesSpec.pre enc Tryz.prog Tryz.f4 [] false w args ∧ laidMetH Tryz.prog laid2 w) ∧ sizedMet enc Tryz.prog Tryz.f4 (OpenSpec.ofChange Rows.useSeriesSpec) false w args)
      (Rows.useSeriesSpec.post enc Tryz.prog Tryz.f4 false true false false) := by
  refine returnsInHanded_of_change_and (C := Tryz.checked) (X := fun w _ => laidMetH Tryz.prog laid2 w) (fun _ _ _ hh h => h.of_heap hh) own started (by kernel_rfl) Tryz.func4
    (ChangeSpec.witness_shaped (enc := enc) (C := Tryz.checked) (os := os) (X := fun w _ => laidMetH Tryz.prog laid2 w) false (World.doorLaid Tryz.prog 400 os) #[.agg #[.string ByteArray.empty, .string ByteArray.empty, .int .i64 0, .int .i64 0, .int .i64 0, .int .i64 0]] 8 rfl (World.shaped_of_RefB (by kernel_rfl) (by kernel_rfl)) (by kernel_rfl) (by kernel_rfl) (by kernel_rfl) (door_met os _)) ?_
  intro W base args ds gs before hval0 hW _ _ hL _
  have hval : ∀ (j : Nat) t v, Tryz.f4.params[j]? = some t → args[j]? = some v → Value.okWide Tryz.prog W .any base t v := hval0
  have hW' := hW
  obtain ⟨p, q, hA0, hV, rfl, _, _⟩ := hW
  have hA : DataW.TrodAll enc Tryz.prog W 0 (fun _ => true) true Tryz.f4.params.toList args.toList ds p := hA0
  rw [Tryz.params4] at hA hval
  obtain ⟨v0, d0, rfl, rfl, h0⟩ := trodAll_one hA
  obtain ⟨rfl, rfl⟩ := trodVars_none hV
  obtain ⟨gs0, k0, f0⟩ := arg_struct Tryz.underlying48 sh48 (hval 0 48 v0 rfl rfl) h0
  obtain ⟨a0, rfl⟩ := is_S47 k0
  have hc := c4 a0 (s4_true a0) W (fun _ => False) [v0] (fun _ h => h.elim) (glOk_of_laid hL) ⟨f0, trivial⟩
  refine hc.mono fun e W' => ?_
  rintro ⟨v, rfl, hg, hv⟩
  have hv : v = .bool true := hv
  subst hv
  exact ⟨_, rfl, post_law laidOut Tryz.underlying4 hW' rfl rfl (by rw [Tryz.params4]; decide +kernel) rfl hg⟩
end Go.Proofs.YtdfgeoefbbkcnaaGreatDoor

namespace Go.Proofs.YtdfgeoefbbkcnaaGreatDoor
theorem useSeries_holds : Rows.UseSeriesSaid :=
  OpenClaim.holds_of_wide 4 Tryz.f4 rfl rfl rfl rfl rfl rfl rfl ⟨rfl, rfl, rfl, rfl, rfl⟩ rfl rfl rfl rfl rfl named4 Tryz.func4 closed4 inst4 wrap4
    (fun os started H enc _ => useSeries_lifted os started H enc)
theorem goes4 : false = Rows.useSeriesRow.goesBy Tryz.prog := by kernel_rfl
theorem looks4 : false = Tryz.prog.looks [] := by kernel_rfl
theorem main4 : Tryz.prog.mainIs = some (true, "53f62e1175aec5bbbb2f5a8fad07f2d835bf6bbac642c2d216bb8dfb64a17572".toList) := by kernel_rfl
theorem stand48 : Tryz.prog.wantsStandIn 48 = false := by kernel_rfl
theorem wfText4 : Rows.useSeriesRow.wfByText (OpenSpec.ofChange Rows.useSeriesSpec) = true := by kernel_rfl
theorem useSeries_card_holds : Rows.UseSeriesCardSaid :=
  Claim7.holds_tied_plain_at .later [] [.data, .data] true (true, "53f62e1175aec5bbbb2f5a8fad07f2d835bf6bbac642c2d216bb8dfb64a17572") false
    useSeries_holds (fun _ h => by cases h) wfText4 (fun _ h => by cases h) useSeries_row_tie rfl ⟨rfl, rfl⟩ main4 rfl
    (fun f fn hf hfn => by
      obtain rfl : f = 4 := Option.some.inj (named4.symm.trans hf) |>.symm
      obtain rfl : fn = Tryz.f4 := (Option.some.inj (Tryz.func4.symm.trans hfn)).symm
      exact ⟨looks4, fun j t ht => by
        rw [Tryz.params4] at ht
        rcases j with _ | j
        · obtain rfl : t = 48 := by simpa using ht.symm
          exact stand48
        · simp at ht⟩)
    goes4
end Go.Proofs.YtdfgeoefbbkcnaaGreatDoor

