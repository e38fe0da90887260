/-
  What is proved: lemmas and contracts of functions on the way to the law useRights (part 12).
-/
import Derived.Test.YtdfgeoefbbkcnaaGreatDoorVrA8
import Derived.Test.YtdfgeoefbbkcnaaGreatDoorVrB2
set_option linter.unusedSectionVars false
set_option linter.unusedSimpArgs false
set_option linter.unusedVariables false
set_option linter.unnecessarySimpa false
set_option linter.deprecated false
namespace Go.Proofs.YtdfgeoefbbkcnaaGreatDoor
open Go.ChangeShapes Go.WideShapes Go.ChangeAt Go.WideMaps Go.WideElems Go.RowKit
open Go.Sim
theorem qvb {gs : List G} (h : Is [.str, .str, .str, .str, .str, .str, .int, .int, .int, .int, .int, .int, .int] gs) : ∃ x : S115, gs = S115.c x := by
 cases h with
 | str v0 h =>
  cases h with
  | str v1 h =>
   cases h with
   | str v2 h =>
    cases h with
    | str v3 h =>
     cases h with
     | str v4 h =>
      cases h with
      | str v5 h =>
       cases h with
       | int v6 h =>
        cases h with
        | int v7 h =>
         cases h with
         | int v8 h =>
          cases h with
          | int v9 h =>
           cases h with
           | int v10 h =>
            cases h with
            | int v11 h =>
             cases h with
             | int v12 h =>
              cases h
              exact ⟨⟨v0, v1, v2, v3, v4, v5, ⟨v6, v7, v8⟩, v9, v10, v11, v12⟩, rfl⟩
theorem qy6 : shOf Tryz.prog 9 114 = some [.sl [.str, .str, .str, .str, .str, .str, .int, .int, .int, .int, .int, .int, .int], .int, .str] := by kernel_rfl
theorem qvc {gs : List G} (h : Is [.sl [.str, .str, .str, .str, .str, .str, .int, .int, .int, .int, .int, .int, .int], .int, .str] gs) : ∃ x : S113, gs = S113.c x := by
 cases h with
 | sl e0 x0 h =>
  cases h with
  | int n h =>
   cases h with
   | str s h =>
    cases h
    subst e0;obtain ⟨l0, rfl⟩ := qfv fun c hc => qvb (x0 c hc);exact ⟨⟨l0, ⟨n, s⟩⟩, rfl⟩
set_option maxRecDepth 100000 in
theorem useRights_lifted (os : Os) (started : os.Started) (H : Type) (enc : TypeId × Value → H) :
  ReturnsInHanded {} Tryz.checked os 11 .any (fun w args => (Rows.useRightsSpec.pre enc Tryz.prog Tryz.f11 [] false w args ∧ laidMetH Tryz.prog laid2 w) ∧ sizedMet enc Tryz.prog Tryz.f11 (OpenSpec.ofChange Rows.useRightsSpec) false w args)
   (Rows.useRightsSpec.post enc Tryz.prog Tryz.f11 false true false false) := by
 refine returnsInHanded_of_change_and (C := Tryz.checked) (X := fun w _ => laidMetH Tryz.prog laid2 w) (fun _ _ _ hh h => h.of_heap hh) own started (by kernel_rfl) Tryz.func11
  (ChangeSpec.witness_shaped (enc := enc) (C := Tryz.checked) (os := os) (X := fun w _ => laidMetH Tryz.prog laid2 w) false (World.doorLaid Tryz.prog 400 os) #[.agg #[.int .i64 0, .int .i64 0, .int .i64 0, .int .i64 0, .slice none 0 0, .int .i64 0, .int .i64 0], .agg #[.slice none 0 0, .int .i64 0, .string ByteArray.empty], .slice none 0 0] 8 rfl (World.shaped_of_RefB (by kernel_rfl) (by kernel_rfl)) (by kernel_rfl) (by kernel_rfl) (by kernel_rfl) (qqd os _)) ?_
 intro W base args ds gs before hval0 hW _ hsz hL _;have hval : ∀ (j : Nat) t v, Tryz.f11.params[j]? = some t → args[j]? = some v → Value.okWide Tryz.prog W .any base t v := hval0;have hsz : (DataW.weightsEach Tryz.prog (Tryz.f11.params.toList ++ []) (ds ++ gs)).all (· ≤ reachBytes) = true := hsz;have hW' := hW;obtain ⟨p, q, hA0, hV, rfl, _, _⟩ := hW;have hA : DataW.TrodAll enc Tryz.prog W 0 (fun _ => true) true Tryz.f11.params.toList args.toList ds p := hA0;rw [Tryz.params11] at hA hval hsz;obtain ⟨v0, v1, v2, d0, d1, d2, p0, p1, p2, rfl, rfl, rfl, h0, h1, h2⟩ := trodAll_three hA;obtain ⟨rfl, rfl⟩ := trodVars_none hV;obtain ⟨gs0, k0, f0⟩ := qen Tryz.underlying24 sh24 (hval 0 24 v0 rfl rfl) h0;obtain ⟨gs1, k1, f1⟩ := qen Tryz.underlying114 qy6 (hval 1 114 v1 rfl rfl) h1;obtain ⟨xs2, k2, f2, e2⟩ := qnx Tryz.underlying26 qyn (by kernel_rfl) (hval 2 26 v2 rfl rfl) h2;obtain ⟨a0, rfl⟩ := qv8 k0;obtain ⟨a1, rfl⟩ := qvc k1;obtain ⟨l2, rfl⟩ := qfv fun c hc => qtk (k2 c hc)
 have b2 : l2.length * 96 ≤ 140737488351232 := by
  rcases e2 with e2 | ⟨elems, rest, rfl, e2⟩
  ·rw [List.map_eq_nil_iff.1 e2]; decide
  ·have := sized_slice hsz (j := 2) (t := 26) (e := 105) (elems := elems) (spare := rest) rfl rfl Tryz.underlying26;rw [show Tryz.prog.bytesOf 105 = 96 by kernel_rfl] at this;rw [List.length_map] at e2;have h3 : reachBytes = 140737488351232 := rfl
   omega
 have hc := c11 a0 a1 l2 b2 (qrb a0 a1 l2) W (fun _ => False) [v0, v1, v2] (fun _ h => h.elim) (qhq hL) ⟨f0, f1, f2, trivial⟩;refine hc.mono fun e W' => ?_;rintro ⟨v, rfl, hg, hv⟩;have hv : v = .bool true := hv;subst hv;exact ⟨_, rfl, qqe qtj Tryz.underlying4 hW' rfl rfl (by rw [Tryz.params11]; decide +kernel) rfl hg⟩
end Go.Proofs.YtdfgeoefbbkcnaaGreatDoor
