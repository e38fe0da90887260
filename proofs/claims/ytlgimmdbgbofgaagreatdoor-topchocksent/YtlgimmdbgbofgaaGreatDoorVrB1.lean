/-
  What is proved: lemmas and contracts of functions on the way to the law topChockSent (part 10).
-/
import Derived.Test.YtlgimmdbgbofgaaGreatDoorVrA5
import Derived.Test.YtlgimmdbgbofgaaGreatDoorVrA9
import Derived.Test.YtlgimmdbgbofgaaGreatDoorVrA3
import Derived.OpenShut
set_option linter.unusedSectionVars false
set_option linter.unusedSimpArgs false
set_option linter.unusedVariables false
set_option linter.unnecessarySimpa false
set_option linter.deprecated false
namespace Go.Proofs.YtlgimmdbgbofgaaGreatDoor
open Go.ChangeShapes Go.WideShapes Go.ChangeAt Go.WideMaps Go.WideElems Go.RowKit
open Go.Sim
theorem sh25 : shOf Tryz.prog 9 25 = some [.str, .str, .str, .str, .str, .str, .int, .int, .int, .int, .int, .int, .int] := by kernel_rfl
theorem is_S115 {gs : List G} (h : Is [.str, .str, .str, .str, .str, .str, .int, .int, .int, .int, .int, .int, .int] gs) : ∃ x : S115, gs = [G.str x.Name, G.str x.Carrier, G.str x.Kind, G.str x.Terminal, G.str x.Partner, G.str x.Link, G.int x.Period.fFrom, G.int x.Period.fTo, G.int x.Period.Days, G.int x.Minute, G.int x.Seats, G.int x.Size, G.int x.Noise] := by
 cases h with
 | str n0 h =>
  cases h with
  | str n1 h =>
   cases h with
   | str n2 h =>
    cases h with
    | str n3 h =>
     cases h with
     | str n4 h =>
      cases h with
      | str n5 h =>
       cases h with
       | int n6 h =>
        cases h with
        | int n7 h =>
         cases h with
         | int n8 h =>
          cases h with
          | int n9 h =>
           cases h with
           | int n10 h =>
            cases h with
            | int n11 h =>
             cases h with
             | int n12 h =>
              cases h
              exact ⟨⟨n0, n1, n2, n3, n4, n5, ⟨n6, n7, n8⟩, n9, n10, n11, n12⟩, rfl⟩
set_option maxRecDepth 100000 in
theorem topChockSent_lifted (os : Os) (started : os.Started) (H : Type) (enc : TypeId × Value → H) :
  ReturnsInHanded {} Tryz.checked os 4 .any (fun w args => (Rows.topChockSentSpec.pre enc Tryz.prog Tryz.f4 [] false w args ∧ laidMetH Tryz.prog laid2 w) ∧ sizedMet enc Tryz.prog Tryz.f4 (OpenSpec.ofChange Rows.topChockSentSpec) false w args)
   (Rows.topChockSentSpec.post enc Tryz.prog Tryz.f4 false true false false) := by
 refine handed_shaped (C := Tryz.checked) (X := fun w _ => laidMetH Tryz.prog laid2 w) (fun _ _ _ hh h => h.of_heap hh) own started (by kernel_rfl) Tryz.func4
  (ChangeSpec.witness_shaped (enc := enc) (C := Tryz.checked) (os := os) (X := fun w _ => laidMetH Tryz.prog laid2 w) false (World.laidAll Tryz.prog os laid2) #[.slice none 0 0, .int .u8 0] 8 (World.laidAll_os _ _ _)
   (World.shaped_of_ZipB (by kernel_rfl) (by kernel_rfl)) (by kernel_rfl) (by kernel_rfl) (by kernel_rfl) (door_met os _)) ?_
 intro W base args ds gs before hval0 hW _ hsz hL hsh _;have hval : ∀ (j : Nat) t v, Tryz.f4.params[j]? = some t → args[j]? = some v → Value.okWide Tryz.prog W .any base t v := hval0;have hW' := hW;obtain ⟨p, q, hA0, hV, rfl, _, _⟩ := hW;have hA : DataW.TrodAll enc Tryz.prog W 0 (fun _ => true) true Tryz.f4.params.toList args.toList ds p := hA0;rw [Tryz.params4] at hA hval;obtain ⟨v0, v1, d0, d1, p0, p1, rfl, rfl, rfl, h0, h1⟩ := trodAll_two hA;obtain ⟨rfl, rfl⟩ := trodVars_none hV;obtain ⟨xs, e0, f0, _⟩ := arg_slice Tryz.underlying46 sh25 (by kernel_rfl) (hval 0 46 v0 rfl rfl) h0;obtain ⟨a0, rfl⟩ := list_of fun c hc => is_S115 (e0 c hc);obtain ⟨a1, f1, rfl, hr0, hr1⟩ := arg_rng Tryz.underlying5 (hval 1 5 v1 rfl rfl) h1;obtain ⟨m, hgl⟩ := glOk_of_laid hL hsh;have hc := c6004 (g := glM m) a0 a1 (by simpa [IntKind.min, IntKind.signed] using hr0) (by simpa [IntKind.max, IntKind.signed, IntKind.bits] using hr1) W (fun _ => False) [v0, .int .u8 a1] (fun _ h => h.elim) hgl ⟨f0, f1, trivial⟩;refine hc.mono fun e W' => ?_;rintro ⟨v, rfl, hg, hv⟩;have hv : v = .bool true := hv;subst hv;exact ⟨_, rfl, post_law laidOut Tryz.underlying4 hW' rfl rfl (by rw [Tryz.params4]; decide +kernel) rfl hg⟩
end Go.Proofs.YtlgimmdbgbofgaaGreatDoor
