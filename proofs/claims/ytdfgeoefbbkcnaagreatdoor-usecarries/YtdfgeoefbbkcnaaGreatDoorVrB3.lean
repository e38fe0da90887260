/-
  What is proved: lemmas and contracts of functions on the way to the law useCarries (part 12).
-/
import Derived.Test.YtdfgeoefbbkcnaaGreatDoorVrA8
import Derived.Test.YtdfgeoefbbkcnaaGreatDoorVrB2
set_option linter.unusedSectionVars false
set_option linter.unusedSimpArgs false
set_option linter.unusedVariables false
set_option linter.unnecessarySimpa false
set_option linter.deprecated false
namespace Go.Proofs.YtdfgeoefbbkcnaaGreatDoor
open Go.ChangeShapes Go.WideShapes Go.ChangeAt Go.WideMaps Go.WideElems Go.RowKit
open Go.Sim
theorem sh46 : shOf Tryz.prog 9 46 = some [.int, .int, .int] := by kernel_rfl
theorem sh68 : shOf Tryz.prog 9 68 = some [.int, .str] := by kernel_rfl
theorem qvj {gs : List G} (h : Is [.int, .int, .int] gs) : ∃ x : S45, gs = [G.int x.fFrom, G.int x.fTo, G.int x.Days] := by
 cases h with
 | int n1 h => cases h with
  | int n2 h => cases h with
   | int n3 h => cases h; exact ⟨⟨n1, n2, n3⟩, rfl⟩
theorem qvk {gs : List G} (h : Is [.int, .str] gs) : ∃ x : S67, gs = [G.int x.Year, G.str x.Kind] := by
 cases h with
 | int n1 h => cases h with
  | str n2 h => cases h; exact ⟨⟨n1, n2⟩, rfl⟩
set_option maxRecDepth 100000 in
theorem useCarries_lifted (os : Os) (started : os.Started) (H : Type) (enc : TypeId × Value → H) :
  ReturnsInHanded {} Tryz.checked os 12 .any (fun w args => (Rows.useCarriesSpec.pre enc Tryz.prog Tryz.f12 [] false w args ∧ laidMetH Tryz.prog laid2 w) ∧ sizedMet enc Tryz.prog Tryz.f12 (OpenSpec.ofChange Rows.useCarriesSpec) false w args)
   (Rows.useCarriesSpec.post enc Tryz.prog Tryz.f12 false true false false) := by
 refine returnsInHanded_of_change_and (C := Tryz.checked) (X := fun w _ => laidMetH Tryz.prog laid2 w) (fun _ _ _ hh h => h.of_heap hh) own started (by kernel_rfl) Tryz.func12
  (ChangeSpec.witness_shaped (enc := enc) (C := Tryz.checked) (os := os) (X := fun w _ => laidMetH Tryz.prog laid2 w) false (World.doorLaid Tryz.prog 400 os) #[.agg #[.int .i64 0, .int .i64 0, .int .i64 0], .agg #[.int .i64 0, .string ByteArray.empty]] 8 rfl (World.shaped_of_RefB (by kernel_rfl) (by kernel_rfl)) (by kernel_rfl) (by kernel_rfl) (by kernel_rfl) (qov os _)) ?_
 intro W base args ds gs before hval0 hW _ _ hL _;have hval : ∀ (j : Nat) t v, Tryz.f12.params[j]? = some t → args[j]? = some v → Value.okWide Tryz.prog W .any base t v := hval0;have hW' := hW;obtain ⟨p, q, hA0, hV, rfl, _, _⟩ := hW;have hA : DataW.TrodAll enc Tryz.prog W 0 (fun _ => true) true Tryz.f12.params.toList args.toList ds p := hA0;rw [Tryz.params12] at hA hval;obtain ⟨v0, v1, d0, d1, p0, p1, rfl, rfl, rfl, h0, h1⟩ := trodAll_two hA;obtain ⟨rfl, rfl⟩ := trodVars_none hV;obtain ⟨gs0, k0, f0⟩ := qdt Tryz.underlying46 sh46 (hval 0 46 v0 rfl rfl) h0;obtain ⟨gs1, k1, f1⟩ := qdt Tryz.underlying68 sh68 (hval 1 68 v1 rfl rfl) h1;obtain ⟨a0, rfl⟩ := qvj k0;obtain ⟨a1, rfl⟩ := qvk k1;have hc := c12 a0 a1 (qpp a0 a1) W (fun _ => False) [v0, v1] (fun _ h => h.elim) (qga hL) ⟨f0, f1, trivial⟩;refine hc.mono fun e W' => ?_;rintro ⟨v, rfl, hg, hv⟩;have hv : v = .bool true := hv;subst hv;exact ⟨_, rfl, qow qrm Tryz.underlying4 hW' rfl rfl (by rw [Tryz.params12]; decide +kernel) rfl hg⟩
end Go.Proofs.YtdfgeoefbbkcnaaGreatDoor
