/-
  What is proved: the card of UseShares holds: at every input the law returns true and leaves its arguments as they read; its conditions are the card's own.
-/
import Derived.Test.YtdfgeoefbbkcnaaGreatDoorVaB4
import Derived.Test.YtdfgeoefbbkcnaaGreatDoorVsE1
import Derived.Test.YtdfgeoefbbkcnaaGreatDoorVsE2
import Derived.Test.YtdfgeoefbbkcnaaGreatDoorCards
import Derived.SevenTiedAt
set_option linter.unusedSectionVars false
set_option linter.unusedSimpArgs false
set_option linter.unusedVariables false
set_option linter.unnecessarySimpa false
set_option linter.deprecated false
namespace Go.Proofs.YtdfgeoefbbkcnaaGreatDoor
open Go.ChangeShapes Go.WideShapes Go.ChangeAt Go.WideMaps Go.WideElems Go.RowKit
open Go.Sim
theorem sh56 : shOf Tryz.prog 9 56 = some [.int, .int] := by kernel_rfl
theorem is_S55 {gs : List G} (h : Is [.int, .int] gs) : ∃ x : S55, gs = [G.int x.Flown, G.int x.Due] := by
  cases h with
  | int n1 h => cases h with
    | int n2 h => cases h; exact ⟨⟨n1, n2⟩, rfl⟩
set_option maxRecDepth 100000 in
theorem useShares_lifted (os : Os) (started : os.Started) (H : Type) (enc : TypeId × Value → H) :
    ReturnsInHanded {} Tryz.checked os 7 .any (fun w args => (Rows.useSharesSpec.pre enc Tryz.prog Tryz.f7 [] false w args ∧ laidMetH Tryz.prog laid2 w) ∧ sizedMet enc Tryz.prog Tryz.f7 (OpenSpec.ofChange Rows.useSharesSpec) false w args)
      (Rows.useSharesSpec.post enc Tryz.prog Tryz.f7 false true false false) := by
  refine returnsInHanded_of_change_and (C := Tryz.checked) (X := fun w _ => laidMetH Tryz.prog laid2 w) (fun _ _ _ hh h => h.of_heap hh) own started (by kernel_rfl) Tryz.func7
    (ChangeSpec.witness_shaped (enc := enc) (C := Tryz.checked) (os := os) (X := fun w _ => laidMetH Tryz.prog laid2 w) false (World.doorLaid Tryz.prog 400 os) #[.agg #[.int .i64 0, .int .i64 0, .int .i64 0, .int .i64 0, .slice none 0 0, .int .i64 0, .int .i64 0], .agg #[.int .i64 0, .int .i64 0]] 8 rfl (World.shaped_of_RefB (by kernel_rfl) (by kernel_rfl)) (by kernel_rfl) (by kernel_rfl) (by kernel_rfl) (door_met os _)) ?_
  intro W base args ds gs before hval0 hW _ _ hL _
  have hval : ∀ (j : Nat) t v, Tryz.f7.params[j]? = some t → args[j]? = some v → Value.okWide Tryz.prog W .any base t v := hval0
  have hW' := hW
  obtain ⟨p, q, hA0, hV, rfl, _, _⟩ := hW
  have hA : DataW.TrodAll enc Tryz.prog W 0 (fun _ => true) true Tryz.f7.params.toList args.toList ds p := hA0
  rw [Tryz.params7] at hA hval
  obtain ⟨v0, v1, d0, d1, p0, p1, rfl, rfl, rfl, h0, h1⟩ := trodAll_two hA
  obtain ⟨rfl, rfl⟩ := trodVars_none hV
  obtain ⟨gs0, k0, f0⟩ := arg_struct Tryz.underlying24 sh24 (hval 0 24 v0 rfl rfl) h0
  obtain ⟨gs1, k1, f1⟩ := arg_struct Tryz.underlying56 sh56 (hval 1 56 v1 rfl rfl) h1
  obtain ⟨a0, rfl⟩ := is_S23 k0
  obtain ⟨a1, rfl⟩ := is_S55 k1
  have hc := c7 a0 a1 W (fun _ => False) [v0, v1] (fun _ h => h.elim) (glOk_of_laid hL) ⟨f0, f1, trivial⟩
  refine hc.mono fun e W' => ?_
  rintro ⟨v, rfl, hg, hv⟩
  rw [s7_true] at hv
  have hv : v = .bool true := hv
  subst hv
  exact ⟨_, rfl, post_law laidOut Tryz.underlying4 hW' rfl rfl (by rw [Tryz.params7]; decide +kernel) rfl hg⟩
end Go.Proofs.YtdfgeoefbbkcnaaGreatDoor

namespace Go.Proofs.YtdfgeoefbbkcnaaGreatDoor
theorem useShares_holds : Rows.UseSharesSaid :=
  OpenClaim.holds_of_wide 7 Tryz.f7 rfl rfl rfl rfl rfl rfl rfl ⟨rfl, rfl, rfl, rfl, rfl⟩ rfl rfl rfl rfl rfl named7 Tryz.func7 closed7 inst7 wrap7
    (fun os started H enc _ => useShares_lifted os started H enc)
theorem goes7 : false = Rows.useSharesRow.goesBy Tryz.prog := by kernel_rfl
theorem looks7 : false = Tryz.prog.looks [] := by kernel_rfl
theorem main7 : Tryz.prog.mainIs = some (true, "53f62e1175aec5bbbb2f5a8fad07f2d835bf6bbac642c2d216bb8dfb64a17572".toList) := by kernel_rfl
theorem stand24 : Tryz.prog.wantsStandIn 24 = false := by kernel_rfl
theorem stand56 : Tryz.prog.wantsStandIn 56 = false := by kernel_rfl
theorem wfText7 : Rows.useSharesRow.wfByText (OpenSpec.ofChange Rows.useSharesSpec) = true := by kernel_rfl
theorem useShares_card_holds : Rows.UseSharesCardSaid :=
  Claim7.holds_tied_plain_at .later [] [.data, .data] true (true, "53f62e1175aec5bbbb2f5a8fad07f2d835bf6bbac642c2d216bb8dfb64a17572") false
    useShares_holds (fun _ h => by cases h) wfText7 (fun _ h => by cases h) useShares_row_tie rfl ⟨rfl, rfl⟩ main7 rfl
    (fun f fn hf hfn => by
      obtain rfl : f = 7 := Option.some.inj (named7.symm.trans hf) |>.symm
      obtain rfl : fn = Tryz.f7 := (Option.some.inj (Tryz.func7.symm.trans hfn)).symm
      exact ⟨looks7, fun j t ht => by
        rw [Tryz.params7] at ht
        rcases j with _ | _ | j
        · obtain rfl : t = 24 := by simpa using ht.symm
          exact stand24
        · obtain rfl : t = 56 := by simpa using ht.symm
          exact stand56
        · simp at ht⟩)
    goes7
end Go.Proofs.YtdfgeoefbbkcnaaGreatDoor

