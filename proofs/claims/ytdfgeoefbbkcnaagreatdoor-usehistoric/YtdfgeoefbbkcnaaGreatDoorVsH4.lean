/-
  What is proved: the card of UseHistoric holds: at every input the law returns true and leaves its arguments as they read; its conditions are the card's own.
-/
import Derived.Test.YtdfgeoefbbkcnaaGreatDoorVaB4
import Derived.Test.YtdfgeoefbbkcnaaGreatDoorVsH2
import Derived.Test.YtdfgeoefbbkcnaaGreatDoorVsH3
import Derived.Test.YtdfgeoefbbkcnaaGreatDoorCards
import Derived.SevenTiedAt
set_option linter.unusedSectionVars false
set_option linter.unusedSimpArgs false
set_option linter.unusedVariables false
set_option linter.unnecessarySimpa false
set_option linter.deprecated false
namespace Go.Proofs.YtdfgeoefbbkcnaaGreatDoor
open Go.ChangeShapes Go.WideShapes Go.ChangeAt Go.WideMaps Go.WideElems Go.RowKit
open Go.Sim
theorem sh46 : shOf Tryz.prog 9 46 = some [.int, .int, .int] := by kernel_rfl
theorem sh68 : shOf Tryz.prog 9 68 = some [.int, .str] := by kernel_rfl
theorem is_S45 {gs : List G} (h : Is [.int, .int, .int] gs) : ∃ x : S45, gs = [G.int x.fFrom, G.int x.fTo, G.int x.Days] := by
  cases h with
  | int n1 h => cases h with
    | int n2 h => cases h with
      | int n3 h => cases h; exact ⟨⟨n1, n2, n3⟩, rfl⟩
theorem is_S67 {gs : List G} (h : Is [.int, .str] gs) : ∃ x : S67, gs = [G.int x.Year, G.str x.Kind] := by
  cases h with
  | int n1 h => cases h with
    | str n2 h => cases h; exact ⟨⟨n1, n2⟩, rfl⟩
set_option maxRecDepth 100000 in
theorem useHistoric_lifted (os : Os) (started : os.Started) (H : Type) (enc : TypeId × Value → H) :
    ReturnsInHanded {} Tryz.checked os 6 .any (fun w args => (Rows.useHistoricSpec.pre enc Tryz.prog Tryz.f6 [] false w args ∧ laidMetH Tryz.prog laid2 w) ∧ sizedMet enc Tryz.prog Tryz.f6 (OpenSpec.ofChange Rows.useHistoricSpec) false w args)
      (Rows.useHistoricSpec.post enc Tryz.prog Tryz.f6 false true false false) := by
  refine returnsInHanded_of_change_and (C := Tryz.checked) (X := fun w _ => laidMetH Tryz.prog laid2 w) (fun _ _ _ hh h => h.of_heap hh) own started (by kernel_rfl) Tryz.func6
    (ChangeSpec.witness_shaped (enc := enc) (C := Tryz.checked) (os := os) (X := fun w _ => laidMetH Tryz.prog laid2 w) false (World.doorLaid Tryz.prog 400 os) #[.agg #[.int .i64 0, .int .i64 0, .int .i64 0], .agg #[.int .i64 0, .string ByteArray.empty]] 8 rfl (World.shaped_of_RefB (by kernel_rfl) (by kernel_rfl)) (by kernel_rfl) (by kernel_rfl) (by kernel_rfl) (door_met os _)) ?_
  intro W base args ds gs before hval0 hW _ _ hL _
  have hval : ∀ (j : Nat) t v, Tryz.f6.params[j]? = some t → args[j]? = some v → Value.okWide Tryz.prog W .any base t v := hval0
  have hW' := hW
  obtain ⟨p, q, hA0, hV, rfl, _, _⟩ := hW
  have hA : DataW.TrodAll enc Tryz.prog W 0 (fun _ => true) true Tryz.f6.params.toList args.toList ds p := hA0
  rw [Tryz.params6] at hA hval
  obtain ⟨v0, v1, d0, d1, p0, p1, rfl, rfl, rfl, h0, h1⟩ := trodAll_two hA
  obtain ⟨rfl, rfl⟩ := trodVars_none hV
  obtain ⟨gs0, k0, f0⟩ := arg_struct Tryz.underlying46 sh46 (hval 0 46 v0 rfl rfl) h0
  obtain ⟨gs1, k1, f1⟩ := arg_struct Tryz.underlying68 sh68 (hval 1 68 v1 rfl rfl) h1
  obtain ⟨a0, rfl⟩ := is_S45 k0
  obtain ⟨a1, rfl⟩ := is_S67 k1
  have hc := c6 a0 a1 (s6_true a0 a1) W (fun _ => False) [v0, v1] (fun _ h => h.elim) (glOk_of_laid hL) ⟨f0, f1, trivial⟩
  refine hc.mono fun e W' => ?_
  rintro ⟨v, rfl, hg, hv⟩
  have hv : v = .bool true := hv
  subst hv
  exact ⟨_, rfl, post_law laidOut Tryz.underlying4 hW' rfl rfl (by rw [Tryz.params6]; decide +kernel) rfl hg⟩
end Go.Proofs.YtdfgeoefbbkcnaaGreatDoor

namespace Go.Proofs.YtdfgeoefbbkcnaaGreatDoor
theorem useHistoric_holds : Rows.UseHistoricSaid :=
  OpenClaim.holds_of_wide 6 Tryz.f6 rfl rfl rfl rfl rfl rfl rfl ⟨rfl, rfl, rfl, rfl, rfl⟩ rfl rfl rfl rfl rfl named6 Tryz.func6 closed6 inst6 wrap6
    (fun os started H enc _ => useHistoric_lifted os started H enc)
theorem goes6 : false = Rows.useHistoricRow.goesBy Tryz.prog := by kernel_rfl
theorem looks6 : false = Tryz.prog.looks [] := by kernel_rfl
theorem main6 : Tryz.prog.mainIs = some (true, "53f62e1175aec5bbbb2f5a8fad07f2d835bf6bbac642c2d216bb8dfb64a17572".toList) := by kernel_rfl
theorem stand46 : Tryz.prog.wantsStandIn 46 = false := by kernel_rfl
theorem stand68 : Tryz.prog.wantsStandIn 68 = false := by kernel_rfl
theorem wfText6 : Rows.useHistoricRow.wfByText (OpenSpec.ofChange Rows.useHistoricSpec) = true := by kernel_rfl
theorem useHistoric_card_holds : Rows.UseHistoricCardSaid :=
  Claim7.holds_tied_plain_at .later [] [.data, .data] true (true, "53f62e1175aec5bbbb2f5a8fad07f2d835bf6bbac642c2d216bb8dfb64a17572") false
    useHistoric_holds (fun _ h => by cases h) wfText6 (fun _ h => by cases h) useHistoric_row_tie rfl ⟨rfl, rfl⟩ main6 rfl
    (fun f fn hf hfn => by
      obtain rfl : f = 6 := Option.some.inj (named6.symm.trans hf) |>.symm
      obtain rfl : fn = Tryz.f6 := (Option.some.inj (Tryz.func6.symm.trans hfn)).symm
      exact ⟨looks6, fun j t ht => by
        rw [Tryz.params6] at ht
        rcases j with _ | _ | j
        · obtain rfl : t = 46 := by simpa using ht.symm
          exact stand46
        · obtain rfl : t = 68 := by simpa using ht.symm
          exact stand68
        · simp at ht⟩)
    goes6
end Go.Proofs.YtdfgeoefbbkcnaaGreatDoor

