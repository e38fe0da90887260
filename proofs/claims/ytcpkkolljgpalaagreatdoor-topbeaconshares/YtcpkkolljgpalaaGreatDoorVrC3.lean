/-
  What is proved: lemmas and contracts of functions on the way to the law topBeaconShares (part 21).
-/
import Derived.Test.YtcpkkolljgpalaaGreatDoorVrA5
import Derived.Test.YtcpkkolljgpalaaGreatDoorVrC2
set_option linter.unusedSectionVars false
set_option linter.unusedSimpArgs false
set_option linter.unusedVariables false
set_option linter.unnecessarySimpa false
set_option linter.deprecated false
namespace Go.Proofs.YtcpkkolljgpalaaGreatDoor
open Go.ChangeShapes Go.WideShapes Go.ChangeAt Go.WideMaps Go.WideElems Go.RowKit
open Go.Sim
theorem sh23 : shOf Tryz.prog 9 23 = some [.int, .int, .int] := by kernel_rfl
theorem sh62 : shOf Tryz.prog 9 62 = some [.num .i8] := by kernel_rfl
theorem is_S45 {gs : List G} (h : Is [.int, .int, .int] gs) : ∃ x : S45, gs = [G.int x.fFrom, G.int x.fTo, G.int x.Days] := by
 cases h with
 | int n0 h =>
  cases h with
  | int n1 h =>
   cases h with
   | int n2 h =>
    cases h
    exact ⟨⟨n0, n1, n2⟩, rfl⟩
theorem is_i8 {gs : List G} (h : Is [.num .i8] gs) : ∃ n : Int, IntKind.i8.min ≤ n ∧ n ≤ IntKind.i8.max ∧ gs = [G.lit (.int .i8 n)] := by
 cases h with
 | num n h1 h2 h => cases h; exact ⟨n, h1, h2, rfl⟩
set_option maxRecDepth 100000 in
theorem topBeaconShares_lifted (os : Os) (started : os.Started) (H : Type) (enc : TypeId × Value → H) :
  ReturnsInHanded {} Tryz.checked os 4 .any (fun w args => (Rows.topBeaconSharesSpec.pre enc Tryz.prog Tryz.f4 [] false w args ∧ laidMetH Tryz.prog laid2 w) ∧ sizedMet enc Tryz.prog Tryz.f4 (OpenSpec.ofChange Rows.topBeaconSharesSpec) false w args)
   (Rows.topBeaconSharesSpec.post enc Tryz.prog Tryz.f4 false true false false) := by
 refine returnsInHanded_of_change_and (C := Tryz.checked) (X := fun w _ => laidMetH Tryz.prog laid2 w) (fun _ _ _ hh h => h.of_heap hh) own started (by kernel_rfl) Tryz.func4
  (ChangeSpec.witness_shaped (enc := enc) (C := Tryz.checked) (os := os) (X := fun w _ => laidMetH Tryz.prog laid2 w) false (World.doorLaid Tryz.prog 400 os) #[.agg #[.int .i64 0, .int .i64 0, .int .i64 0], .int .i64 0, .agg #[.int .i8 0, .int .i8 0]] 8 rfl (World.shaped_of_RefB (by kernel_rfl) (by kernel_rfl)) (by kernel_rfl) (by kernel_rfl) (by kernel_rfl) (door_met os _)) ?_
 intro W base args ds gs before hval0 hW _ hsz hL _;have hval : ∀ (j : Nat) t v, Tryz.f4.params[j]? = some t → args[j]? = some v → Value.okWide Tryz.prog W .any base t v := hval0;have hsz : (DataW.weightsEach Tryz.prog (Tryz.f4.params.toList ++ []) (ds ++ gs)).all (· ≤ reachBytes) = true := hsz;have hW' := hW;obtain ⟨p, q, hA0, hV, rfl, _, _⟩ := hW;have hA : DataW.TrodAll enc Tryz.prog W 0 (fun _ => true) true Tryz.f4.params.toList args.toList ds p := hA0;rw [Tryz.params4] at hA hval hsz;obtain ⟨v0, v1, v2, d0, d1, d2, p0, p1, p2, rfl, rfl, rfl, h0, h1, h2⟩ := trodAll_three hA;obtain ⟨rfl, rfl⟩ := trodVars_none hV;obtain ⟨gs0, k0, f0⟩ := arg_struct Tryz.underlying23 sh23 (hval 0 23 v0 rfl rfl) h0;obtain ⟨a0, rfl⟩ := is_S45 k0;obtain ⟨a1, f1, rfl⟩ := arg_int Tryz.underlying3 (hval 1 3 v1 rfl rfl) h1;obtain ⟨xs2, nn2, k2, f2⟩ := arg_array Tryz.underlying63 sh62 (by kernel_rfl) (by kernel_rfl) (hval 2 63 v2 rfl rfl) h2;obtain ⟨cx2, cy2, rfl⟩ := list_two nn2;obtain ⟨x2, bx2, bX2, rfl⟩ := is_i8 (k2 cx2 (by simp));obtain ⟨y2, by2, bY2, rfl⟩ := is_i8 (k2 cy2 (by simp));have hc := c2004 a0 a1 (x2, y2) (shares_true a0 a1 x2 y2 bx2 bX2 by2 bY2) W (fun _ => False) [v0, .int .i64 a1, v2] (fun _ h => h.elim) (glOk_of_laid hL) ⟨f0, f1, f2, trivial⟩;refine hc.mono fun e W' => ?_;rintro ⟨v, rfl, hg, hv⟩;have hv : v = .bool true := hv;subst hv;exact ⟨_, rfl, post_law laidOut Tryz.underlying4 hW' rfl rfl (by rw [Tryz.params4]; decide +kernel) rfl hg⟩
end Go.Proofs.YtcpkkolljgpalaaGreatDoor
