/-
  What is proved: lemmas and contracts of functions on the way to the law topBeaconReduced (part 22).
-/
import Derived.Test.YtcpkkolljgpalaaGreatDoorVrA5
import Derived.Test.YtcpkkolljgpalaaGreatDoorVrC3
set_option linter.unusedSectionVars false
set_option linter.unusedSimpArgs false
set_option linter.unusedVariables false
set_option linter.unnecessarySimpa false
set_option linter.deprecated false
namespace Go.Proofs.YtcpkkolljgpalaaGreatDoor
open Go.ChangeShapes Go.WideShapes Go.ChangeAt Go.WideMaps Go.WideElems Go.RowKit
open Go.Sim
theorem sh23 : shOf Tryz.prog 9 23 = some [.int, .int, .int] := by kernel_rfl
theorem sh28 : shOf Tryz.prog 9 28 = some [.sl [.str, .str, .int, .str, .int, .int, .str, .int], .int, .str] := by kernel_rfl
theorem q00 {gs : List G} (h : Is [.int, .int, .int] gs) : ∃ x : S45, gs = [G.int x.fFrom, G.int x.fTo, G.int x.Days] := by
 cases h with
 | int n0 h =>
  cases h with
  | int n1 h =>
   cases h with
   | int n2 h =>
    cases h
    exact ⟨⟨n0, n1, n2⟩, rfl⟩
theorem qxq {gs : List G} (h : Is [.str, .str, .int, .str, .int, .int, .str, .int] gs) : ∃ x : S104, gs = [G.str x.Kind, G.str x.Name, G.int x.Moment, G.str x.Move, G.int x.fFrom, G.int x.fTo, G.str x.Cause, G.int x.Told] := by
 cases h with
 | str n0 h =>
  cases h with
  | str n1 h =>
   cases h with
   | int n2 h =>
    cases h with
    | str n3 h =>
     cases h with
     | int n4 h =>
      cases h with
      | int n5 h =>
       cases h with
       | str n6 h =>
        cases h with
        | int n7 h =>
         cases h
         exact ⟨⟨n0, n1, n2, n3, n4, n5, n6, n7⟩, rfl⟩
theorem qs4 {gs : List G} (h : Is [.sl [.str, .str, .int, .str, .int, .int, .str, .int], .int, .str] gs) : ∃ x : S2027, gs = [G.sl 8 (List.map S104.c x.Notes), G.int x.Season.Year, G.str x.Season.Kind] := by
 cases h with
 | sl e0 x0 h =>
  cases h with
  | int n1 h =>
   cases h with
   | str n2 h =>
    cases h
    subst e0;obtain ⟨n0, rfl⟩ := qpw fun c hc => qxq (x0 c hc);exact ⟨⟨n0, ⟨n1, n2⟩⟩, rfl⟩
set_option maxRecDepth 100000 in
theorem topBeaconReduced_lifted (os : Os) (started : os.Started) (H : Type) (enc : TypeId × Value → H) :
  ReturnsInHanded {} Tryz.checked os 3 .any (fun w args => (Rows.topBeaconReducedSpec.pre enc Tryz.prog Tryz.f3 [] false w args ∧ laidMetH Tryz.prog laid2 w) ∧ sizedMet enc Tryz.prog Tryz.f3 (OpenSpec.ofChange Rows.topBeaconReducedSpec) false w args)
   (Rows.topBeaconReducedSpec.post enc Tryz.prog Tryz.f3 false true false false) := by
 refine returnsInHanded_of_change_and (C := Tryz.checked) (X := fun w _ => laidMetH Tryz.prog laid2 w) (fun _ _ _ hh h => h.of_heap hh) own started (by kernel_rfl) Tryz.func3
  (ChangeSpec.witness_shaped (enc := enc) (C := Tryz.checked) (os := os) (X := fun w _ => laidMetH Tryz.prog laid2 w) false (World.doorLaid Tryz.prog 400 os) #[.agg #[.int .i64 0, .int .i64 0, .int .i64 0], .int .i64 0, .agg #[.slice none 0 0, .int .i64 0, .string ByteArray.empty]] 8 rfl (World.shaped_of_RefB (by kernel_rfl) (by kernel_rfl)) (by kernel_rfl) (by kernel_rfl) (by kernel_rfl) (qs5 os _)) ?_
 intro W base args ds gs before hval0 hW _ hsz hL _;have hval : ∀ (j : Nat) t v, Tryz.f3.params[j]? = some t → args[j]? = some v → Value.okWide Tryz.prog W .any base t v := hval0;have hsz : (DataW.weightsEach Tryz.prog (Tryz.f3.params.toList ++ []) (ds ++ gs)).all (· ≤ reachBytes) = true := hsz;have hW' := hW;obtain ⟨p, q, hA0, hV, rfl, _, _⟩ := hW;have hA : DataW.TrodAll enc Tryz.prog W 0 (fun _ => true) true Tryz.f3.params.toList args.toList ds p := hA0;rw [Tryz.params3] at hA hval hsz;obtain ⟨v0, v1, v2, d0, d1, d2, p0, p1, p2, rfl, rfl, rfl, h0, h1, h2⟩ := trodAll_three hA;obtain ⟨rfl, rfl⟩ := trodVars_none hV;obtain ⟨gs0, k0, f0⟩ := qfh Tryz.underlying23 sh23 (hval 0 23 v0 rfl rfl) h0;obtain ⟨a0, rfl⟩ := q00 k0;obtain ⟨a1, f1, rfl⟩ := qxr Tryz.underlying3 (hval 1 3 v1 rfl rfl) h1;obtain ⟨gs2, k2, f2⟩ := qfh Tryz.underlying28 sh28 (hval 2 28 v2 rfl rfl) h2;obtain ⟨a2, rfl⟩ := qs4 k2;have hc := q29 a0 a1 a2 (qm9 a0 a1 a2) W (fun _ => False) [v0, .int .i64 a1, v2] (fun _ h => h.elim) (qij hL) ⟨f0, f1, f2, trivial⟩;refine hc.mono fun e W' => ?_;rintro ⟨v, rfl, hg, hv⟩;have hv : v = .bool true := hv;subst hv;exact ⟨_, rfl, qs6 qxs Tryz.underlying4 hW' rfl rfl (by rw [Tryz.params3]; decide +kernel) rfl hg⟩
end Go.Proofs.YtcpkkolljgpalaaGreatDoor
