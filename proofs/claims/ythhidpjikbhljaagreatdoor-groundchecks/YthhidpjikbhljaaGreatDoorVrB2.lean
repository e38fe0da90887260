/-
  What is proved: lemmas and contracts of functions on the way to the law groundChecks (part 11).
-/
import Derived.Test.YthhidpjikbhljaaGreatDoorVrA5
import Derived.Test.YthhidpjikbhljaaGreatDoorVrB1
set_option linter.unusedSectionVars false
set_option linter.unusedSimpArgs false
set_option linter.unusedVariables false
set_option linter.unnecessarySimpa false
set_option linter.deprecated false
namespace Go.Proofs.YthhidpjikbhljaaGreatDoor
open Go.ChangeShapes Go.WideShapes Go.ChangeAt Go.WideMaps Go.WideElems Go.RowKit
open Go.Sim
theorem sh123 : shOf Tryz.prog 9 123 = some [.str, .int, .str] := by kernel_rfl
theorem sh125 : shOf Tryz.prog 9 125 = some [.str, .int, .int, .int, .str] := by kernel_rfl
theorem sh27 : shOf Tryz.prog 9 27 = some [.sl [.str, .str, .int, .int, .int], .sl [.int, .str, .str, .int, .int, .int, .str]] := by kernel_rfl
theorem is_S1122 {gs : List G} (h : Is [.str, .int, .str] gs) : ∃ x : S1122, gs = [G.str x.Name, G.int x.Size, G.str x.Terminal] := by
 cases h with
 | str n0 h =>
  cases h with
  | int n1 h =>
   cases h with
   | str n2 h =>
    cases h
    exact ⟨⟨n0, n1, n2⟩, rfl⟩
theorem is_S1124 {gs : List G} (h : Is [.str, .int, .int, .int, .str] gs) : ∃ x : S1124, gs = [G.str x.Name, G.int x.Start, G.int x.End, G.int x.Size, G.str x.Terminal] := by
 cases h with
 | str n0 h =>
  cases h with
  | int n1 h =>
   cases h with
   | int n2 h =>
    cases h with
    | int n3 h =>
     cases h with
     | str n4 h =>
      cases h
      exact ⟨⟨n0, n1, n2, n3, n4⟩, rfl⟩
theorem is_S1063 {gs : List G} (h : Is [.str, .str, .int, .int, .int] gs) : ∃ x : S1063, gs = [G.str x.Terminal, G.str x.Kind, G.int x.Length, G.int x.Step, G.int x.Most] := by
 cases h with
 | str n0 h =>
  cases h with
  | str n1 h =>
   cases h with
   | int n2 h =>
    cases h with
    | int n3 h =>
     cases h with
     | int n4 h =>
      cases h
      exact ⟨⟨n0, n1, n2, n3, n4⟩, rfl⟩
theorem is_S1079 {gs : List G} (h : Is [.int, .str, .str, .int, .int, .int, .str] gs) : ∃ x : S1079, gs = [G.int x.Moment, G.str x.Kind, G.str x.Terminal, G.int x.Seats, G.int x.Size, G.int x.Noise, G.str x.Name] := by
 cases h with
 | int n0 h =>
  cases h with
  | str n1 h =>
   cases h with
   | str n2 h =>
    cases h with
    | int n3 h =>
     cases h with
     | int n4 h =>
      cases h with
      | int n5 h =>
       cases h with
       | str n6 h =>
        cases h
        exact ⟨⟨n0, n1, n2, n3, n4, n5, n6⟩, rfl⟩
theorem is_S1026 {gs : List G} (h : Is [.sl [.str, .str, .int, .int, .int], .sl [.int, .str, .str, .int, .int, .int, .str]] gs) : ∃ x : S1026, gs = [G.sl 5 (List.map S1063.c x.Limits), G.sl 7 (List.map S1079.c x.Movements)] := by
 cases h with
 | sl e0 x0 h =>
  cases h with
  | sl e1 x1 h =>
   cases h
   subst e0;obtain ⟨n0, rfl⟩ := list_of fun c hc => is_S1063 (x0 c hc);subst e1;obtain ⟨n1, rfl⟩ := list_of fun c hc => is_S1079 (x1 c hc);exact ⟨⟨n0, n1⟩, rfl⟩
set_option maxRecDepth 100000 in
theorem groundChecks_lifted (os : Os) (started : os.Started) (H : Type) (enc : TypeId × Value → H) :
  ReturnsInHanded {} Tryz.checked os 3 .any (fun w args => (Rows.groundChecksSpec.pre enc Tryz.prog Tryz.f3 [] false w args ∧ laidMetH Tryz.prog laid2 w) ∧ sizedMet enc Tryz.prog Tryz.f3 (OpenSpec.ofChange Rows.groundChecksSpec) false w args)
   (Rows.groundChecksSpec.post enc Tryz.prog Tryz.f3 false true false false) := by
 refine returnsInHanded_of_change_and (C := Tryz.checked) (X := fun w _ => laidMetH Tryz.prog laid2 w) (fun _ _ _ hh h => h.of_heap hh) own started (by kernel_rfl) Tryz.func3
  (ChangeSpec.witness_shaped (enc := enc) (C := Tryz.checked) (os := os) (X := fun w _ => laidMetH Tryz.prog laid2 w) false (World.doorLaid Tryz.prog 400 os) #[.slice none 0 0, .slice none 0 0, .agg #[.slice none 0 0, .slice none 0 0]] 8 rfl (World.shaped_of_RefB (by kernel_rfl) (by kernel_rfl)) (by kernel_rfl) (by kernel_rfl) (by kernel_rfl) (door_met os _)) ?_
 intro W base args ds gs before hval0 hW _ hsz hL _;have hval : ∀ (j : Nat) t v, Tryz.f3.params[j]? = some t → args[j]? = some v → Value.okWide Tryz.prog W .any base t v := hval0;have hsz : (DataW.weightsEach Tryz.prog (Tryz.f3.params.toList ++ []) (ds ++ gs)).all (· ≤ reachBytes) = true := hsz;have hW' := hW;obtain ⟨p, q, hA0, hV, rfl, _, _⟩ := hW;have hA : DataW.TrodAll enc Tryz.prog W 0 (fun _ => true) true Tryz.f3.params.toList args.toList ds p := hA0;rw [Tryz.params3] at hA hval hsz;obtain ⟨v0, v1, v2, d0, d1, d2, p0, p1, p2, rfl, rfl, rfl, h0, h1, h2⟩ := trodAll_three hA;obtain ⟨rfl, rfl⟩ := trodVars_none hV;obtain ⟨xs0, k0, f0, e0⟩ := arg_slice Tryz.underlying22 sh123 (by kernel_rfl) (hval 0 22 v0 rfl rfl) h0;obtain ⟨a0, rfl⟩ := list_of fun c hc => is_S1122 (k0 c hc);obtain ⟨xs1, k1, f1, e1⟩ := arg_slice Tryz.underlying23 sh125 (by kernel_rfl) (hval 1 23 v1 rfl rfl) h1;obtain ⟨a1, rfl⟩ := list_of fun c hc => is_S1124 (k1 c hc);obtain ⟨gs2, k2, f2⟩ := arg_struct Tryz.underlying27 sh27 (hval 2 27 v2 rfl rfl) h2;obtain ⟨a2, rfl⟩ := is_S1026 k2
 have hb0 : a0.length * 40 ≤ 140737488351232 := by
  rcases e0 with e | ⟨elems, rest, rfl, e⟩
  ·rw [List.map_eq_nil_iff.1 e]; exact Nat.le_of_ble_eq_true rfl
  ·have := sized_slice hsz (j := 0) (t := 22) (e := 123) (elems := elems) (spare := rest) rfl rfl Tryz.underlying22;rw [show Tryz.prog.bytesOf 123 = 40 by kernel_rfl] at this;rw [List.length_map] at e;have h3 : reachBytes = 140737488351232 := rfl
   omega
 have hb1 : a1.length * 56 ≤ 140737488351232 := by
  rcases e1 with e | ⟨elems, rest, rfl, e⟩
  ·rw [List.map_eq_nil_iff.1 e]; exact Nat.le_of_ble_eq_true rfl
  ·have := sized_slice hsz (j := 1) (t := 23) (e := 125) (elems := elems) (spare := rest) rfl rfl Tryz.underlying23;rw [show Tryz.prog.bytesOf 125 = 56 by kernel_rfl] at this;rw [List.length_map] at e;have h3 : reachBytes = 140737488351232 := rfl
   omega
 have g2 := f2;obtain ⟨cs2, rfl, hfit2⟩ := g2;obtain ⟨c2_0, c2_1, cr2, rfl, q2_0, q2_1⟩ := fits_two hfit2;obtain ⟨ad2_0, cap2_0, rfl, _⟩ := q2_0;obtain ⟨ad2_1, cap2_1, rfl, _⟩ := q2_1
 have hb2 : a2.Limits.length * 56 ≤ 140737488351232 := by
  have := sized_field Tryz.underlying27 h2 hsz (j := 2) rfl rfl (i := 0) (e := 64) rfl Tryz.underlying24 (by kernel_rfl) (a := ad2_0) (n := (List.map S1063.c a2.Limits).length) (cap := cap2_0) rfl;rw [show Tryz.prog.bytesOf 64 = 56 by kernel_rfl, List.length_map] at this;have h3 : reachBytes = 140737488351232 := rfl
  omega
 have hb3 : a2.Movements.length * 80 ≤ 140737488351232 := by
  have := sized_field Tryz.underlying27 h2 hsz (j := 2) rfl rfl (i := 1) (e := 80) rfl Tryz.underlying25 (by kernel_rfl) (a := ad2_1) (n := (List.map S1079.c a2.Movements).length) (cap := cap2_1) rfl;rw [show Tryz.prog.bytesOf 80 = 80 by kernel_rfl, List.length_map] at this;have h3 : reachBytes = 140737488351232 := rfl
  omega
 have hc := c1003 a0 a1 a2 hb0 hb1 hb2 (s1003_true a0 a1 a2) W (fun _ => False) [v0, v1, _] (fun _ h => h.elim) (glOk_of_laid hL) ⟨f0, f1, f2, trivial⟩;refine hc.mono fun e W' => ?_;rintro ⟨v, rfl, hg, hv⟩;have hv : v = .bool true := hv;subst hv;exact ⟨_, rfl, post_law laidOut Tryz.underlying4 hW' rfl rfl (by rw [Tryz.params3]; decide +kernel) rfl hg⟩
end Go.Proofs.YthhidpjikbhljaaGreatDoor
