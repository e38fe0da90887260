/-
  What is proved: lemmas and contracts of functions on the way to the law topBeaconHours (part 13).
-/
import Derived.Test.YtkeegnagpekgmaaGreatVrA5
import Derived.Test.YtkeegnagpekgmaaGreatVrB3
set_option linter.unusedSectionVars false
set_option linter.unusedSimpArgs false
set_option linter.unusedVariables false
set_option linter.unnecessarySimpa false
set_option linter.deprecated false
namespace Go.Proofs.YtkeegnagpekgmaaGreat
open Go.ChangeShapes Go.WideShapes Go.ChangeAt Go.WideMaps Go.WideElems Go.RowKit
open Go.Sim
theorem sh44 : shOf Tryz.prog 9 44 = some [.int, .str, .str, .int, .int, .int, .str] := by kernel_rfl
theorem is_S1079 {gs : List G} (h : Is [.int, .str, .str, .int, .int, .int, .str] gs) : ∃ x : S1079, gs = [G.int x.Moment, G.str x.Kind, G.str x.Terminal, G.int x.Seats, G.int x.Size, G.int x.Noise, G.str x.Name] := by
 cases h with
 | int n0 h =>
  cases h with
  | str n1 h =>
   cases h with
   | str n2 h =>
    cases h with
    | int n3 h =>
     cases h with
     | int n4 h =>
      cases h with
      | int n5 h =>
       cases h with
       | str n6 h =>
        cases h
        exact ⟨⟨n0, n1, n2, n3, n4, n5, n6⟩, rfl⟩
set_option maxRecDepth 100000 in
theorem topBeaconHours_lifted (os : Os) (started : os.Started) (H : Type) (enc : TypeId × Value → H) :
  ReturnsInHanded {} Tryz.checked os 4 .any (fun w args => (Rows.topBeaconHoursSpec.pre enc Tryz.prog Tryz.f4 [] false w args ∧ laidMetH Tryz.prog laid2 w) ∧ sizedMet enc Tryz.prog Tryz.f4 (OpenSpec.ofChange Rows.topBeaconHoursSpec) false w args)
   (Rows.topBeaconHoursSpec.post enc Tryz.prog Tryz.f4 false true false false) := by
 refine returnsInHanded_of_change_and (C := Tryz.checked) (X := fun w _ => laidMetH Tryz.prog laid2 w) (fun _ _ _ hh h => h.of_heap hh) own started (by kernel_rfl) Tryz.func4
  (ChangeSpec.witness_shaped (enc := enc) (C := Tryz.checked) (os := os) (X := fun w _ => laidMetH Tryz.prog laid2 w) false (World.doorLaid Tryz.prog 400 os) #[.slice none 0 0, .int .u8 0, .int .i64 0] 8 rfl (World.shaped_of_RefB (by kernel_rfl) (by kernel_rfl)) (by kernel_rfl) (by kernel_rfl) (by kernel_rfl) (door_met os _)) ?_
 intro W base args ds gs before hval0 hW _ hsz hL _;have hval : ∀ (j : Nat) t v, Tryz.f4.params[j]? = some t → args[j]? = some v → Value.okWide Tryz.prog W .any base t v := hval0;have hsz : (DataW.weightsEach Tryz.prog (Tryz.f4.params.toList ++ []) (ds ++ gs)).all (· ≤ reachBytes) = true := hsz;have hW' := hW;obtain ⟨p, q, hA0, hV, rfl, _, _⟩ := hW;have hA : DataW.TrodAll enc Tryz.prog W 0 (fun _ => true) true Tryz.f4.params.toList args.toList ds p := hA0;rw [Tryz.params4] at hA hval hsz;obtain ⟨v0, v1, v2, d0, d1, d2, p0, p1, p2, rfl, rfl, rfl, h0, h1, h2⟩ := trodAll_three hA;obtain ⟨rfl, rfl⟩ := trodVars_none hV;obtain ⟨xs0, k0, f0, e0⟩ := arg_slice Tryz.underlying25 sh44 (by kernel_rfl) (hval 0 25 v0 rfl rfl) h0;obtain ⟨a0, rfl⟩ := list_of fun c hc => is_S1079 (k0 c hc);obtain ⟨a1, f1, rfl, m1⟩ := arg_rng Tryz.underlying5 (hval 1 5 v1 rfl rfl) h1;obtain ⟨a2, f2, rfl⟩ := arg_int Tryz.underlying3 (hval 2 3 v2 rfl rfl) h2;have hc := c2004 a0 a1 a2 (s2004_true a0 a1 a2 m1.1 m1.2) W (fun _ => False) [v0, .int .u8 a1, .int .i64 a2] (fun _ h => h.elim) (glOk_of_laid hL) ⟨f0, f1, f2, trivial⟩;refine hc.mono fun e W' => ?_;rintro ⟨v, rfl, hg, hv⟩;have hv : v = .bool true := hv;subst hv;exact ⟨_, rfl, post_law laidOut Tryz.underlying4 hW' rfl rfl (by rw [Tryz.params4]; decide +kernel) rfl hg⟩
end Go.Proofs.YtkeegnagpekgmaaGreat
