/-
  What is proved: lemmas and contracts of functions on the way to the law groundFills (part 11).
-/
import Derived.Test.YthhidpjikbhljaaGreatDoorVrA5
import Derived.Test.YthhidpjikbhljaaGreatDoorVrB1
set_option linter.unusedSectionVars false
set_option linter.unusedSimpArgs false
set_option linter.unusedVariables false
set_option linter.unnecessarySimpa false
set_option linter.deprecated false
namespace Go.Proofs.YthhidpjikbhljaaGreatDoor
open Go.ChangeShapes Go.WideShapes Go.ChangeAt Go.WideMaps Go.WideElems Go.RowKit
open Go.Sim
theorem sh27 : shOf Tryz.prog 9 27 = some [.sl [.str, .str, .int, .int, .int], .sl [.int, .str, .str, .int, .int, .int, .str]] := by kernel_rfl
theorem sh80 : shOf Tryz.prog 9 80 = some [.int, .str, .str, .int, .int, .int, .str] := by kernel_rfl
theorem is_S1063 {gs : List G} (h : Is [.str, .str, .int, .int, .int] gs) : ∃ x : S1063, gs = [G.str x.Terminal, G.str x.Kind, G.int x.Length, G.int x.Step, G.int x.Most] := by
 cases h with
 | str n0 h =>
  cases h with
  | str n1 h =>
   cases h with
   | int n2 h =>
    cases h with
    | int n3 h =>
     cases h with
     | int n4 h =>
      cases h
      exact ⟨⟨n0, n1, n2, n3, n4⟩, rfl⟩
theorem is_S1079 {gs : List G} (h : Is [.int, .str, .str, .int, .int, .int, .str] gs) : ∃ x : S1079, gs = [G.int x.Moment, G.str x.Kind, G.str x.Terminal, G.int x.Seats, G.int x.Size, G.int x.Noise, G.str x.Name] := by
 cases h with
 | int n0 h =>
  cases h with
  | str n1 h =>
   cases h with
   | str n2 h =>
    cases h with
    | int n3 h =>
     cases h with
     | int n4 h =>
      cases h with
      | int n5 h =>
       cases h with
       | str n6 h =>
        cases h
        exact ⟨⟨n0, n1, n2, n3, n4, n5, n6⟩, rfl⟩
theorem is_S1026 {gs : List G} (h : Is [.sl [.str, .str, .int, .int, .int], .sl [.int, .str, .str, .int, .int, .int, .str]] gs) : ∃ x : S1026, gs = [G.sl 5 (List.map S1063.c x.Limits), G.sl 7 (List.map S1079.c x.Movements)] := by
 cases h with
 | sl e0 x0 h =>
  cases h with
  | sl e1 x1 h =>
   cases h
   subst e0;obtain ⟨n0, rfl⟩ := list_of fun c hc => is_S1063 (x0 c hc);subst e1;obtain ⟨n1, rfl⟩ := list_of fun c hc => is_S1079 (x1 c hc);exact ⟨⟨n0, n1⟩, rfl⟩
set_option maxRecDepth 100000 in
theorem groundFills_lifted (os : Os) (started : os.Started) (H : Type) (enc : TypeId × Value → H) :
  ReturnsInHanded {} Tryz.checked os 8 .any (fun w args => (Rows.groundFillsSpec.pre enc Tryz.prog Tryz.f8 [] false w args ∧ laidMetH Tryz.prog laid2 w) ∧ sizedMet enc Tryz.prog Tryz.f8 (OpenSpec.ofChange Rows.groundFillsSpec) false w args)
   (Rows.groundFillsSpec.post enc Tryz.prog Tryz.f8 false true false false) := by
 refine returnsInHanded_of_change_and (C := Tryz.checked) (X := fun w _ => laidMetH Tryz.prog laid2 w) (fun _ _ _ hh h => h.of_heap hh) own started (by kernel_rfl) Tryz.func8
  (ChangeSpec.witness_shaped (enc := enc) (C := Tryz.checked) (os := os) (X := fun w _ => laidMetH Tryz.prog laid2 w) false (World.doorLaid Tryz.prog 400 os) #[.agg #[.slice none 0 0, .slice none 0 0], .agg #[.int .i64 0, .string ByteArray.empty, .string ByteArray.empty, .int .i64 0, .int .i64 0, .int .i64 0, .string ByteArray.empty]] 8 rfl (World.shaped_of_RefB (by kernel_rfl) (by kernel_rfl)) (by kernel_rfl) (by kernel_rfl) (by kernel_rfl) (door_met os _)) ?_
 intro W base args ds gs before hval0 hW _ hsz hL _;have hval : ∀ (j : Nat) t v, Tryz.f8.params[j]? = some t → args[j]? = some v → Value.okWide Tryz.prog W .any base t v := hval0;have hsz : (DataW.weightsEach Tryz.prog (Tryz.f8.params.toList ++ []) (ds ++ gs)).all (· ≤ reachBytes) = true := hsz;have hW' := hW;obtain ⟨p, q, hA0, hV, rfl, _, _⟩ := hW;have hA : DataW.TrodAll enc Tryz.prog W 0 (fun _ => true) true Tryz.f8.params.toList args.toList ds p := hA0;rw [Tryz.params8] at hA hval hsz;obtain ⟨v0, v1, d0, d1, p0, p1, rfl, rfl, rfl, h0, h1⟩ := trodAll_two hA;obtain ⟨rfl, rfl⟩ := trodVars_none hV;obtain ⟨gs0, k0, f0⟩ := arg_struct Tryz.underlying27 sh27 (hval 0 27 v0 rfl rfl) h0;obtain ⟨a0, rfl⟩ := is_S1026 k0;obtain ⟨gs1, k1, f1⟩ := arg_struct Tryz.underlying80 sh80 (hval 1 80 v1 rfl rfl) h1;obtain ⟨a1, rfl⟩ := is_S1079 k1;have g0 := f0;obtain ⟨cs0, rfl, hfit0⟩ := g0;obtain ⟨c0_0, c0_1, cr0, rfl, q0_0, q0_1⟩ := fits_two hfit0;obtain ⟨ad0_0, cap0_0, rfl, _⟩ := q0_0;obtain ⟨ad0_1, cap0_1, rfl, _⟩ := q0_1
 have hb0 : a0.Limits.length * 56 ≤ 140737488351232 := by
  have := sized_field Tryz.underlying27 h0 hsz (j := 0) rfl rfl (i := 0) (e := 64) rfl Tryz.underlying24 (by kernel_rfl) (a := ad0_0) (n := (List.map S1063.c a0.Limits).length) (cap := cap0_0) rfl;rw [show Tryz.prog.bytesOf 64 = 56 by kernel_rfl, List.length_map] at this;have h3 : reachBytes = 140737488351232 := rfl
  omega
 have hb1 : a0.Movements.length * 80 ≤ 140737488351232 := by
  have := sized_field Tryz.underlying27 h0 hsz (j := 0) rfl rfl (i := 1) (e := 80) rfl Tryz.underlying25 (by kernel_rfl) (a := ad0_1) (n := (List.map S1079.c a0.Movements).length) (cap := cap0_1) rfl;rw [show Tryz.prog.bytesOf 80 = 80 by kernel_rfl, List.length_map] at this;have h3 : reachBytes = 140737488351232 := rfl
  omega
 have hc := c1008 a0 a1 hb0 (s1008_true a0 a1) W (fun _ => False) [_, v1] (fun _ h => h.elim) (glOk_of_laid hL) ⟨f0, f1, trivial⟩;refine hc.mono fun e W' => ?_;rintro ⟨v, rfl, hg, hv⟩;have hv : v = .bool true := hv;subst hv;exact ⟨_, rfl, post_law laidOut Tryz.underlying4 hW' rfl rfl (by rw [Tryz.params8]; decide +kernel) rfl hg⟩
end Go.Proofs.YthhidpjikbhljaaGreatDoor
