/-
  What is proved: lemmas and contracts of functions on the way to the law topChockBack (part 13).
-/
import Derived.Test.YtfmnmoiaemejjaaGreatVrA3
import Derived.Test.YtfmnmoiaemejjaaGreatVrB3
set_option linter.unusedSectionVars false
set_option linter.unusedSimpArgs false
set_option linter.unusedVariables false
set_option linter.unnecessarySimpa false
set_option linter.deprecated false
namespace Go.Proofs.YtfmnmoiaemejjaaGreat
open Go.ChangeShapes Go.WideShapes Go.ChangeAt Go.WideMaps Go.WideElems Go.RowKit
open Go.Sim
theorem sh62 : shOf Tryz.prog 9 62 = some [.str, .str, .str, .int, .int, .int, .int, .int, .int, .int, .int] := by kernel_rfl
theorem sh26 : shOf Tryz.prog 9 26 = some [.sl [.str, .str, .str, .str, .str, .str, .int, .int, .int, .int, .int, .int, .int, .str, .sl [.str, .int, .int], .sl [.str]], .sl [.str, .str, .str, .str, .str, .str, .int, .int, .int, .int, .int, .int, .int, .int]] := by kernel_rfl
theorem sh5 : shOf Tryz.prog 9 5 = some [.num .u8] := by kernel_rfl
theorem q0r {gs : List G} (h : Is [.str, .str, .str, .int, .int, .int, .int, .int, .int, .int, .int] gs) : ∃ x : S2062, gs = (S2062.c x) := by
 cases h with
 | str n0 h =>
  cases h with
  | str n1 h =>
   cases h with
   | str n2 h =>
    cases h with
    | int n3 h =>
     cases h with
     | int n4 h =>
      cases h with
      | int n5 h =>
       cases h with
       | int n6 h =>
        cases h with
        | int n7 h =>
         cases h with
         | int n8 h =>
          cases h with
          | int n9 h =>
           cases h with
           | int n10 h =>
            cases h
            exact ⟨⟨n0, n1, n2, n3, n4, n5, n6, ⟨n7, n8, n9⟩, n10⟩, rfl⟩
theorem q0s {gs : List G} (h : Is [.str, .int, .int] gs) : ∃ x : S5102, gs = (S5102.c x) := by
 cases h with
 | str n0 h =>
  cases h with
  | int n1 h =>
   cases h with
   | int n2 h =>
    cases h
    exact ⟨⟨n0, n1, n2⟩, rfl⟩
theorem q73 {gs : List G} (h : Is [.str] gs) : ∃ n : ByteArray, gs = cStr n := by
 cases h with
 | str n h => cases h; exact ⟨n, rfl⟩
theorem q0t {gs : List G} (h : Is [.str, .str, .str, .str, .str, .str, .int, .int, .int, .int, .int, .int, .int, .str, .sl [.str, .int, .int], .sl [.str]] gs) : ∃ x : S5036, gs = [G.str x.Request.Name, G.str x.Request.Carrier, G.str x.Request.Kind, G.str x.Request.Terminal, G.str x.Request.Partner, G.str x.Request.Link, G.int x.Request.Period.fFrom, G.int x.Request.Period.fTo, G.int x.Request.Period.Days, G.int x.Request.Minute, G.int x.Request.Seats, G.int x.Request.Size, G.int x.Request.Noise, G.str x.Holder, G.sl 3 (List.map S5102.c x.Leases), G.sl 1 (List.map cStr x.Shares)] := by
 cases h with
 | str n0 h =>
  cases h with
  | str n1 h =>
   cases h with
   | str n2 h =>
    cases h with
    | str n3 h =>
     cases h with
     | str n4 h =>
      cases h with
      | str n5 h =>
       cases h with
       | int n6 h =>
        cases h with
        | int n7 h =>
         cases h with
         | int n8 h =>
          cases h with
          | int n9 h =>
           cases h with
           | int n10 h =>
            cases h with
            | int n11 h =>
             cases h with
             | int n12 h =>
              cases h with
              | str n13 h =>
               cases h with
               | sl e14 x14 h =>
                cases h with
                | sl e15 x15 h =>
                 cases h
                 subst e14;obtain ⟨n14, rfl⟩ := qhg fun c hc => q0s (x14 c hc);subst e15;obtain ⟨n15, rfl⟩ := qhg fun c hc => q73 (x15 c hc);exact ⟨⟨⟨n0, n1, n2, n3, n4, n5, ⟨n6, n7, n8⟩, n9, n10, n11, n12⟩, n13, n14, n15⟩, rfl⟩
theorem q0u {gs : List G} (h : Is [.str, .str, .str, .str, .str, .str, .int, .int, .int, .int, .int, .int, .int, .int] gs) : ∃ x : S5072, gs = (S5072.c x) := by
 cases h with
 | str n0 h =>
  cases h with
  | str n1 h =>
   cases h with
   | str n2 h =>
    cases h with
    | str n3 h =>
     cases h with
     | str n4 h =>
      cases h with
      | str n5 h =>
       cases h with
       | int n6 h =>
        cases h with
        | int n7 h =>
         cases h with
         | int n8 h =>
          cases h with
          | int n9 h =>
           cases h with
           | int n10 h =>
            cases h with
            | int n11 h =>
             cases h with
             | int n12 h =>
              cases h with
              | int n13 h =>
               cases h
               exact ⟨⟨⟨n0, n1, n2, n3, n4, n5, ⟨n6, n7, n8⟩, n9, n10, n11, n12⟩, n13⟩, rfl⟩
theorem q0v {gs : List G} (h : Is [.sl [.str, .str, .str, .str, .str, .str, .int, .int, .int, .int, .int, .int, .int, .str, .sl [.str, .int, .int], .sl [.str]], .sl [.str, .str, .str, .str, .str, .str, .int, .int, .int, .int, .int, .int, .int, .int]] gs) : ∃ x : S5025, gs = [G.sl 16 (List.map S5036.c x.Slots), G.sl 14 (List.map S5072.c x.Waiting)] := by
 cases h with
 | sl e0 x0 h =>
  cases h with
  | sl e1 x1 h =>
   cases h
   subst e0;obtain ⟨n0, rfl⟩ := qhg fun c hc => q0t (x0 c hc);subst e1;obtain ⟨n1, rfl⟩ := qhg fun c hc => q0u (x1 c hc);exact ⟨⟨n0, n1⟩, rfl⟩
theorem q74 {gs : List G} (h : Is [.num .u8] gs) : ∃ n : Int, IntKind.u8.min ≤ n ∧ n ≤ IntKind.u8.max ∧ gs = [G.lit (.int .u8 n)] := by
 cases h with
 | num n h1 h2 h => cases h; exact ⟨n, h1, h2, rfl⟩
set_option maxRecDepth 100000 in
theorem topChockBack_lifted (os : Os) (started : os.Started) (H : Type) (enc : TypeId × Value → H) :
  ReturnsInHanded {} Tryz.checked os 3 .any (fun w args => (Rows.topChockBackSpec.pre enc Tryz.prog Tryz.f3 [] false w args ∧ laidMetH Tryz.prog laid2 w) ∧ sizedMet enc Tryz.prog Tryz.f3 (OpenSpec.ofChange Rows.topChockBackSpec) false w args)
   (Rows.topChockBackSpec.post enc Tryz.prog Tryz.f3 false true false false) := by
 refine returnsInHanded_of_change_and (C := Tryz.checked) (X := fun w _ => laidMetH Tryz.prog laid2 w) (fun _ _ _ hh h => h.of_heap hh) own started (by kernel_rfl) Tryz.func3
  (ChangeSpec.witness_shaped (enc := enc) (C := Tryz.checked) (os := os) (X := fun w _ => laidMetH Tryz.prog laid2 w) false (World.doorLaid Tryz.prog 400 os) #[.slice none 0 0, .agg #[.slice none 0 0, .slice none 0 0], .agg #[.int .u8 0, .int .u8 0]] 8 rfl (World.shaped_of_RefB (by kernel_rfl) (by kernel_rfl)) (by kernel_rfl) (by kernel_rfl) (by kernel_rfl) (qza os _)) ?_
 intro W base args ds gs before hval0 hW _ hsz hL _;have hval : ∀ (j : Nat) t v, Tryz.f3.params[j]? = some t → args[j]? = some v → Value.okWide Tryz.prog W .any base t v := hval0;have hsz : (DataW.weightsEach Tryz.prog (Tryz.f3.params.toList ++ []) (ds ++ gs)).all (· ≤ reachBytes) = true := hsz;have hW' := hW;obtain ⟨p, q, hA0, hV, rfl, _, _⟩ := hW;have hA : DataW.TrodAll enc Tryz.prog W 0 (fun _ => true) true Tryz.f3.params.toList args.toList ds p := hA0;rw [Tryz.params3] at hA hval hsz;obtain ⟨v0, v1, v2, d0, d1, d2, p0, p1, p2, rfl, rfl, rfl, h0, h1, h2⟩ := trodAll_three hA;obtain ⟨rfl, rfl⟩ := trodVars_none hV;obtain ⟨xs0, k0, f0, e0⟩ := qvg Tryz.underlying22 sh62 (by kernel_rfl) (hval 0 22 v0 rfl rfl) h0;obtain ⟨a0, rfl⟩ := qhg fun c hc => q0r (k0 c hc);obtain ⟨gs1, k1, f1⟩ := qtj Tryz.underlying26 sh26 (hval 1 26 v1 rfl rfl) h1;obtain ⟨a1, rfl⟩ := q0v k1;obtain ⟨xs2, nn2, k2, f2⟩ := qve Tryz.underlying27 sh5 (by kernel_rfl) (by kernel_rfl) (hval 2 27 v2 rfl rfl) h2;obtain ⟨cx2, cy2, rfl⟩ := qy8 nn2;obtain ⟨x2, bx2, bX2, rfl⟩ := q74 (k2 cx2 (by simp));obtain ⟨y2, by2, bY2, rfl⟩ := q74 (k2 cy2 (by simp))
 have hb0 : a0.length * 112 ≤ 140737488351232 := by
  rcases e0 with e | ⟨elems, rest, rfl, e⟩
  ·rw [List.map_eq_nil_iff.1 e]; exact Nat.le_of_ble_eq_true rfl
  ·have := sized_slice hsz (j := 0) (t := 22) (e := 62) (elems := elems) (spare := rest) rfl rfl Tryz.underlying22;rw [show Tryz.prog.bytesOf 62 = 112 by kernel_rfl] at this;rw [List.length_map] at e;have h3 : reachBytes = 140737488351232 := rfl
   omega
 have hc := za9 a0 a1 (x2, y2) hb0 (qvd a0 a1 x2 y2 bx2 bX2 by2 bY2) W (fun _ => False) [v0, v1, v2] (fun _ h => h.elim) (qpc hL) ⟨f0, f1, f2, trivial⟩;refine hc.mono fun e W' => ?_;rintro ⟨v, rfl, hg, hv⟩;have hv : v = .bool true := hv;subst hv;exact ⟨_, rfl, qzb q3o Tryz.underlying4 hW' rfl rfl (by rw [Tryz.params3]; decide +kernel) rfl hg⟩
end Go.Proofs.YtfmnmoiaemejjaaGreat
