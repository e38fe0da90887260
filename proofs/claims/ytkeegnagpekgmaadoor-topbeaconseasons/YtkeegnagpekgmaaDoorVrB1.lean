/-
  What is proved: lemmas and contracts of functions on the way to the law topBeaconSeasons (part 10).
-/
import Derived.Test.YtkeegnagpekgmaaDoorVrA5
import Derived.Test.YtkeegnagpekgmaaDoorVrA9
set_option linter.unusedSectionVars false
set_option linter.unusedSimpArgs false
set_option linter.unusedVariables false
set_option linter.unnecessarySimpa false
set_option linter.deprecated false
namespace Go.Proofs.YtkeegnagpekgmaaDoor
open Go.ChangeShapes Go.WideShapes Go.ChangeAt Go.WideMaps Go.WideElems Go.RowKit
open Go.Sim
theorem sh23 : shOf Tryd.prog 9 23 = some [.int, .int, .int] := by kernel_rfl
theorem sh29 : shOf Tryd.prog 9 29 = some [.int, .int, .int, .str, .int, .int] := by kernel_rfl
theorem sh30 : shOf Tryd.prog 9 30 = some [.num .u16] := by kernel_rfl
theorem is_S45 {gs : List G} (h : Is [.int, .int, .int] gs) : ∃ x : S45, gs = [G.int x.fFrom, G.int x.fTo, G.int x.Days] := by
 cases h with
 | int n0 h =>
  cases h with
  | int n1 h =>
   cases h with
   | int n2 h =>
    cases h
    exact ⟨⟨n0, n1, n2⟩, rfl⟩
theorem is_S1089 {gs : List G} (h : Is [.int, .int, .int, .str, .int, .int] gs) : ∃ x : S1089, gs = [G.int x.Night.fFrom, G.int x.Night.fTo, G.int x.Season.Year, G.str x.Season.Kind, G.int x.Count, G.int x.Points] := by
 cases h with
 | int n0 h =>
  cases h with
  | int n1 h =>
   cases h with
   | int n2 h =>
    cases h with
    | str n3 h =>
     cases h with
     | int n4 h =>
      cases h with
      | int n5 h =>
       cases h
       exact ⟨⟨⟨n0, n1⟩, ⟨n2, n3⟩, n4, n5⟩, rfl⟩
theorem is_u16 {gs : List G} (h : Is [.num .u16] gs) : ∃ n : Int, IntKind.u16.min ≤ n ∧ n ≤ IntKind.u16.max ∧ gs = [G.lit (.int .u16 n)] := by
 cases h with
 | num n h1 h2 h => cases h; exact ⟨n, h1, h2, rfl⟩
set_option maxRecDepth 100000 in
theorem topBeaconSeasons_lifted (os : Os) (started : os.Started) (H : Type) (enc : TypeId × Value → H) :
  ReturnsInHanded {} Tryd.checked os 3 .any (fun w args => (Rows.topBeaconSeasonsSpec.pre enc Tryd.prog Tryd.f3 [] false w args ∧ laidMetH Tryd.prog laid2 w) ∧ sizedMet enc Tryd.prog Tryd.f3 (OpenSpec.ofChange Rows.topBeaconSeasonsSpec) false w args)
   (Rows.topBeaconSeasonsSpec.post enc Tryd.prog Tryd.f3 false true false false) := by
 refine returnsInHanded_of_change_and (C := Tryd.checked) (X := fun w _ => laidMetH Tryd.prog laid2 w) (fun _ _ _ hh h => h.of_heap hh) own started (by kernel_rfl) Tryd.func3
  (ChangeSpec.witness_shaped (enc := enc) (C := Tryd.checked) (os := os) (X := fun w _ => laidMetH Tryd.prog laid2 w) false (World.doorLaid Tryd.prog 400 os) #[.agg #[.int .i64 0, .int .i64 0, .int .i64 0], .agg #[.int .i64 0, .int .i64 0, .int .i64 0, .string ByteArray.empty, .int .i64 0, .int .i64 0], .agg #[.int .u16 0, .int .u16 0]] 8 rfl (World.shaped_of_RefB (by kernel_rfl) (by kernel_rfl)) (by kernel_rfl) (by kernel_rfl) (by kernel_rfl) (door_met os _)) ?_
 intro W base args ds gs before hval0 hW _ hsz hL _;have hval : ∀ (j : Nat) t v, Tryd.f3.params[j]? = some t → args[j]? = some v → Value.okWide Tryd.prog W .any base t v := hval0;have hsz : (DataW.weightsEach Tryd.prog (Tryd.f3.params.toList ++ []) (ds ++ gs)).all (· ≤ reachBytes) = true := hsz;have hW' := hW;obtain ⟨p, q, hA0, hV, rfl, _, _⟩ := hW;have hA : DataW.TrodAll enc Tryd.prog W 0 (fun _ => true) true Tryd.f3.params.toList args.toList ds p := hA0;rw [Tryd.params3] at hA hval hsz;obtain ⟨v0, v1, v2, d0, d1, d2, p0, p1, p2, rfl, rfl, rfl, h0, h1, h2⟩ := trodAll_three hA;obtain ⟨rfl, rfl⟩ := trodVars_none hV;obtain ⟨gs0, k0, f0⟩ := arg_struct Tryd.underlying23 sh23 (hval 0 23 v0 rfl rfl) h0;obtain ⟨a0, rfl⟩ := is_S45 k0;obtain ⟨gs1, k1, f1⟩ := arg_struct Tryd.underlying29 sh29 (hval 1 29 v1 rfl rfl) h1;obtain ⟨a1, rfl⟩ := is_S1089 k1;obtain ⟨xs2, nn2, k2, f2⟩ := arg_array Tryd.underlying31 sh30 (by kernel_rfl) (by kernel_rfl) (hval 2 31 v2 rfl rfl) h2;obtain ⟨cx2, cy2, rfl⟩ := list_two nn2;obtain ⟨x2, bx2, bX2, rfl⟩ := is_u16 (k2 cx2 (by simp));obtain ⟨y2, by2, bY2, rfl⟩ := is_u16 (k2 cy2 (by simp));have hc := c2003 a0 a1 (x2, y2) (s2003_true a0 a1 (x2, y2) bx2 bX2 by2 bY2) W (fun _ => False) [v0, v1, v2] (fun _ h => h.elim) (glOk_of_laid hL) ⟨f0, f1, f2, trivial⟩;refine hc.mono fun e W' => ?_;rintro ⟨v, rfl, hg, hv⟩;have hv : v = .bool true := hv;subst hv;exact ⟨_, rfl, post_law laidOut Tryd.underlying4 hW' rfl rfl (by rw [Tryd.params3]; decide +kernel) rfl hg⟩
end Go.Proofs.YtkeegnagpekgmaaDoor
