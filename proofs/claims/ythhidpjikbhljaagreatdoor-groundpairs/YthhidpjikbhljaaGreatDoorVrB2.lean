/-
  What is proved: lemmas and contracts of functions on the way to the law groundPairs (part 11).
-/
import Derived.Test.YthhidpjikbhljaaGreatDoorVrA5
import Derived.Test.YthhidpjikbhljaaGreatDoorVrB1
set_option linter.unusedSectionVars false
set_option linter.unusedSimpArgs false
set_option linter.unusedVariables false
set_option linter.unnecessarySimpa false
set_option linter.deprecated false
namespace Go.Proofs.YthhidpjikbhljaaGreatDoor
open Go.ChangeShapes Go.WideShapes Go.ChangeAt Go.WideMaps Go.WideElems Go.RowKit
open Go.Sim
theorem sh129 : shOf Tryz.prog 9 129 = some [.int, .str, .str, .int, .int, .int, .str, .int, .str, .str, .int, .int, .int, .str, .int, .int] := by kernel_rfl
theorem sh123 : shOf Tryz.prog 9 123 = some [.str, .int, .str] := by kernel_rfl
theorem sh125 : shOf Tryz.prog 9 125 = some [.str, .int, .int, .int, .str] := by kernel_rfl
theorem is_S1128 {gs : List G} (h : Is [.int, .str, .str, .int, .int, .int, .str, .int, .str, .str, .int, .int, .int, .str, .int, .int] gs) : ∃ x : S1128, gs = [G.int x.Arrival.Moment, G.str x.Arrival.Kind, G.str x.Arrival.Terminal, G.int x.Arrival.Seats, G.int x.Arrival.Size, G.int x.Arrival.Noise, G.str x.Arrival.Name, G.int x.Departure.Moment, G.str x.Departure.Kind, G.str x.Departure.Terminal, G.int x.Departure.Seats, G.int x.Departure.Size, G.int x.Departure.Noise, G.str x.Departure.Name, G.int x.Least, G.int x.Most] := by
 cases h with
 | int n0 h =>
  cases h with
  | str n1 h =>
   cases h with
   | str n2 h =>
    cases h with
    | int n3 h =>
     cases h with
     | int n4 h =>
      cases h with
      | int n5 h =>
       cases h with
       | str n6 h =>
        cases h with
        | int n7 h =>
         cases h with
         | str n8 h =>
          cases h with
          | str n9 h =>
           cases h with
           | int n10 h =>
            cases h with
            | int n11 h =>
             cases h with
             | int n12 h =>
              cases h with
              | str n13 h =>
               cases h with
               | int n14 h =>
                cases h with
                | int n15 h =>
                 cases h
                 exact ⟨⟨⟨n0, n1, n2, n3, n4, n5, n6⟩, ⟨n7, n8, n9, n10, n11, n12, n13⟩, n14, n15⟩, rfl⟩
theorem is_S1122 {gs : List G} (h : Is [.str, .int, .str] gs) : ∃ x : S1122, gs = [G.str x.Name, G.int x.Size, G.str x.Terminal] := by
 cases h with
 | str n0 h =>
  cases h with
  | int n1 h =>
   cases h with
   | str n2 h =>
    cases h
    exact ⟨⟨n0, n1, n2⟩, rfl⟩
theorem is_S1124 {gs : List G} (h : Is [.str, .int, .int, .int, .str] gs) : ∃ x : S1124, gs = [G.str x.Name, G.int x.Start, G.int x.End, G.int x.Size, G.str x.Terminal] := by
 cases h with
 | str n0 h =>
  cases h with
  | int n1 h =>
   cases h with
   | int n2 h =>
    cases h with
    | int n3 h =>
     cases h with
     | str n4 h =>
      cases h
      exact ⟨⟨n0, n1, n2, n3, n4⟩, rfl⟩
set_option maxRecDepth 100000 in
theorem groundPairs_lifted (os : Os) (started : os.Started) (H : Type) (enc : TypeId × Value → H) :
  ReturnsInHanded {} Tryz.checked os 12 .any (fun w args => (Rows.groundPairsSpec.pre enc Tryz.prog Tryz.f12 [] false w args ∧ laidMetH Tryz.prog laid2 w) ∧ sizedMet enc Tryz.prog Tryz.f12 (OpenSpec.ofChange Rows.groundPairsSpec) false w args)
   (Rows.groundPairsSpec.post enc Tryz.prog Tryz.f12 false true false false) := by
 refine returnsInHanded_of_change_and (C := Tryz.checked) (X := fun w _ => laidMetH Tryz.prog laid2 w) (fun _ _ _ hh h => h.of_heap hh) own started (by kernel_rfl) Tryz.func12
  (ChangeSpec.witness_shaped (enc := enc) (C := Tryz.checked) (os := os) (X := fun w _ => laidMetH Tryz.prog laid2 w) false (World.doorLaid Tryz.prog 400 os) #[.agg #[.int .i64 0, .string ByteArray.empty, .string ByteArray.empty, .int .i64 0, .int .i64 0, .int .i64 0, .string ByteArray.empty, .int .i64 0, .string ByteArray.empty, .string ByteArray.empty, .int .i64 0, .int .i64 0, .int .i64 0, .string ByteArray.empty, .int .i64 0, .int .i64 0], .agg #[.string ByteArray.empty, .int .i64 0, .string ByteArray.empty], .agg #[.string ByteArray.empty, .int .i64 0, .int .i64 0, .int .i64 0, .string ByteArray.empty, .string ByteArray.empty, .int .i64 0, .int .i64 0, .int .i64 0, .string ByteArray.empty]] 8 rfl (World.shaped_of_RefB (by kernel_rfl) (by kernel_rfl)) (by kernel_rfl) (by kernel_rfl) (by kernel_rfl) (door_met os _)) ?_
 intro W base args ds gs before hval0 hW _ hsz hL _;have hval : ∀ (j : Nat) t v, Tryz.f12.params[j]? = some t → args[j]? = some v → Value.okWide Tryz.prog W .any base t v := hval0;have hsz : (DataW.weightsEach Tryz.prog (Tryz.f12.params.toList ++ []) (ds ++ gs)).all (· ≤ reachBytes) = true := hsz;have hW' := hW;obtain ⟨p, q, hA0, hV, rfl, _, _⟩ := hW;have hA : DataW.TrodAll enc Tryz.prog W 0 (fun _ => true) true Tryz.f12.params.toList args.toList ds p := hA0;rw [Tryz.params12] at hA hval hsz;obtain ⟨v0, v1, v2, d0, d1, d2, p0, p1, p2, rfl, rfl, rfl, h0, h1, h2⟩ := trodAll_three hA;obtain ⟨rfl, rfl⟩ := trodVars_none hV;obtain ⟨gs0, k0, f0⟩ := arg_struct Tryz.underlying129 sh129 (hval 0 129 v0 rfl rfl) h0;obtain ⟨a0, rfl⟩ := is_S1128 k0;obtain ⟨gs1, k1, f1⟩ := arg_struct Tryz.underlying123 sh123 (hval 1 123 v1 rfl rfl) h1;obtain ⟨a1, rfl⟩ := is_S1122 k1;obtain ⟨xs2, nn2, k2, f2⟩ := arg_array Tryz.underlying130 sh125 (by kernel_rfl) (by kernel_rfl) (hval 2 130 v2 rfl rfl) h2;obtain ⟨ll2, rfl⟩ := list_of fun c hc => is_S1124 (k2 c hc);rw [List.length_map] at nn2;obtain ⟨x2, y2, rfl⟩ := list_two nn2;have hc := c1012 a0 a1 (x2, y2) (s1012_true a0 a1 (x2, y2)) W (fun _ => False) [v0, v1, v2] (fun _ h => h.elim) (glOk_of_laid hL) ⟨f0, f1, f2, trivial⟩;refine hc.mono fun e W' => ?_;rintro ⟨v, rfl, hg, hv⟩;have hv : v = .bool true := hv;subst hv;exact ⟨_, rfl, post_law laidOut Tryz.underlying4 hW' rfl rfl (by rw [Tryz.params12]; decide +kernel) rfl hg⟩
end Go.Proofs.YthhidpjikbhljaaGreatDoor
