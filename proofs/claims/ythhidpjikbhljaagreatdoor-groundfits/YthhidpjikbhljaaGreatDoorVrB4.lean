/-
  What is proved: lemmas and contracts of functions on the way to the law groundFits (part 13).
-/
import Derived.Test.YthhidpjikbhljaaGreatDoorVrA5
import Derived.Test.YthhidpjikbhljaaGreatDoorVrB3
set_option linter.unusedSectionVars false
set_option linter.unusedSimpArgs false
set_option linter.unusedVariables false
set_option linter.unnecessarySimpa false
set_option linter.deprecated false
namespace Go.Proofs.YthhidpjikbhljaaGreatDoor
open Go.ChangeShapes Go.WideShapes Go.ChangeAt Go.WideMaps Go.WideElems Go.RowKit
open Go.Sim
theorem sh50 : shOf Tryz.prog 9 50 = some [.sl [.str, .int, .str], .sl [.str, .int, .int, .int, .str], .int] := by kernel_rfl
theorem sh3 : shOf Tryz.prog 9 3 = some [.int] := by kernel_rfl
theorem is_S1122 {gs : List G} (h : Is [.str, .int, .str] gs) : ∃ x : S1122, gs = [G.str x.Name, G.int x.Size, G.str x.Terminal] := by
 cases h with
 | str n0 h =>
  cases h with
  | int n1 h =>
   cases h with
   | str n2 h =>
    cases h
    exact ⟨⟨n0, n1, n2⟩, rfl⟩
theorem is_S1124 {gs : List G} (h : Is [.str, .int, .int, .int, .str] gs) : ∃ x : S1124, gs = [G.str x.Name, G.int x.Start, G.int x.End, G.int x.Size, G.str x.Terminal] := by
 cases h with
 | str n0 h =>
  cases h with
  | int n1 h =>
   cases h with
   | int n2 h =>
    cases h with
    | int n3 h =>
     cases h with
     | str n4 h =>
      cases h
      exact ⟨⟨n0, n1, n2, n3, n4⟩, rfl⟩
theorem is_S1049 {gs : List G} (h : Is [.sl [.str, .int, .str], .sl [.str, .int, .int, .int, .str], .int] gs) : ∃ x : S1049, gs = [G.sl 3 (List.map S1122.c x.Stands), G.sl 5 (List.map S1124.c x.Turns), G.int x.Buffer] := by
 cases h with
 | sl e0 x0 h =>
  cases h with
  | sl e1 x1 h =>
   cases h with
   | int n2 h =>
    cases h
    subst e0;obtain ⟨n0, rfl⟩ := list_of fun c hc => is_S1122 (x0 c hc);subst e1;obtain ⟨n1, rfl⟩ := list_of fun c hc => is_S1124 (x1 c hc);exact ⟨⟨n0, n1, n2⟩, rfl⟩
theorem is_int {gs : List G} (h : Is [.int] gs) : ∃ n : Int, gs = cInt n := by
 cases h with
 | int n h => cases h; exact ⟨n, rfl⟩
set_option maxRecDepth 100000 in
theorem groundFits_lifted (os : Os) (started : os.Started) (H : Type) (enc : TypeId × Value → H) :
  ReturnsInHanded {} Tryz.checked os 11 .any (fun w args => (Rows.groundFitsSpec.pre enc Tryz.prog Tryz.f11 [] false w args ∧ laidMetH Tryz.prog laid2 w) ∧ sizedMet enc Tryz.prog Tryz.f11 (OpenSpec.ofChange Rows.groundFitsSpec) false w args)
   (Rows.groundFitsSpec.post enc Tryz.prog Tryz.f11 false true false false) := by
 refine returnsInHanded_of_change_and (C := Tryz.checked) (X := fun w _ => laidMetH Tryz.prog laid2 w) (fun _ _ _ hh h => h.of_heap hh) own started (by kernel_rfl) Tryz.func11
  (ChangeSpec.witness_shaped (enc := enc) (C := Tryz.checked) (os := os) (X := fun w _ => laidMetH Tryz.prog laid2 w) false (World.doorLaid Tryz.prog 400 os) #[.agg #[.slice none 0 0, .slice none 0 0, .int .i64 0], .slice none 0 0, .int .u8 0] 8 rfl (World.shaped_of_RefB (by kernel_rfl) (by kernel_rfl)) (by kernel_rfl) (by kernel_rfl) (by kernel_rfl) (door_met os _)) ?_
 intro W base args ds gs before hval0 hW _ hsz hL _;have hval : ∀ (j : Nat) t v, Tryz.f11.params[j]? = some t → args[j]? = some v → Value.okWide Tryz.prog W .any base t v := hval0;have hsz : (DataW.weightsEach Tryz.prog (Tryz.f11.params.toList ++ []) (ds ++ gs)).all (· ≤ reachBytes) = true := hsz;have hW' := hW;obtain ⟨p, q, hA0, hV, rfl, _, _⟩ := hW;have hA : DataW.TrodAll enc Tryz.prog W 0 (fun _ => true) true Tryz.f11.params.toList args.toList ds p := hA0;rw [Tryz.params11] at hA hval hsz;obtain ⟨v0, v1, v2, d0, d1, d2, p0, p1, p2, rfl, rfl, rfl, h0, h1, h2⟩ := trodAll_three hA;obtain ⟨rfl, rfl⟩ := trodVars_none hV;obtain ⟨gs0, k0, f0⟩ := arg_struct Tryz.underlying50 sh50 (hval 0 50 v0 rfl rfl) h0;obtain ⟨a0, rfl⟩ := is_S1049 k0;obtain ⟨xs1, k1, f1, e1⟩ := arg_slice Tryz.underlying51 sh3 (by kernel_rfl) (hval 1 51 v1 rfl rfl) h1;obtain ⟨a1, rfl⟩ := list_of fun c hc => is_int (k1 c hc);obtain ⟨a2, f2, rfl, m2⟩ := arg_rng Tryz.underlying5 (hval 2 5 v2 rfl rfl) h2;have g0 := f0;obtain ⟨cs0, rfl, hfit0⟩ := g0;obtain ⟨c0_0, c0_1, cr0, rfl, q0_0, q0_1⟩ := fits_two hfit0;obtain ⟨ad0_0, cap0_0, rfl, _⟩ := q0_0;obtain ⟨ad0_1, cap0_1, rfl, _⟩ := q0_1
 have hb0 : a0.Stands.length * 40 ≤ 140737488351232 := by
  have := sized_field Tryz.underlying50 h0 hsz (j := 0) rfl rfl (i := 0) (e := 123) rfl Tryz.underlying22 (by kernel_rfl) (a := ad0_0) (n := (List.map S1122.c a0.Stands).length) (cap := cap0_0) rfl;rw [show Tryz.prog.bytesOf 123 = 40 by kernel_rfl, List.length_map] at this;have h3 : reachBytes = 140737488351232 := rfl
  omega
 have hb1 : a0.Turns.length * 56 ≤ 140737488351232 := by
  have := sized_field Tryz.underlying50 h0 hsz (j := 0) rfl rfl (i := 1) (e := 125) rfl Tryz.underlying23 (by kernel_rfl) (a := ad0_1) (n := (List.map S1124.c a0.Turns).length) (cap := cap0_1) rfl;rw [show Tryz.prog.bytesOf 125 = 56 by kernel_rfl, List.length_map] at this;have h3 : reachBytes = 140737488351232 := rfl
  omega
 have hc := c1011 a0 a1 a2 hb0 hb1 (s1011_true a0 a1 a2 m2.1 m2.2) W (fun _ => False) [_, v1, .int .u8 a2] (fun _ h => h.elim) (glOk_of_laid hL) ⟨f0, f1, f2, trivial⟩;refine hc.mono fun e W' => ?_;rintro ⟨v, rfl, hg, hv⟩;have hv : v = .bool true := hv;subst hv;exact ⟨_, rfl, post_law laidOut Tryz.underlying4 hW' rfl rfl (by rw [Tryz.params11]; decide +kernel) rfl hg⟩
end Go.Proofs.YthhidpjikbhljaaGreatDoor
