/-
  What is proved: lemmas and contracts of functions on the way to the law topChockLots (part 14).
-/
import Derived.Test.YtnknncfgbefpeaaGreatVrA5
import Derived.Test.YtnknncfgbefpeaaGreatVrB4
set_option linter.unusedSectionVars false
set_option linter.unusedSimpArgs false
set_option linter.unusedVariables false
set_option linter.unnecessarySimpa false
set_option linter.deprecated false
namespace Go.Proofs.YtnknncfgbefpeaaGreat
open Go.ChangeShapes Go.WideShapes Go.ChangeAt Go.WideMaps Go.WideElems Go.RowKit
open Go.Sim
theorem sh27 : shOf Tryz.prog 9 27 = some [.str, .str, .str, .str, .str, .str, .int, .int, .int, .int, .int, .int, .int, .bool, .bool, .bool, .bool, .int] := by kernel_rfl
theorem qpx {gs : List G} (h : Is [.str, .str, .str, .str, .str, .str, .int, .int, .int, .int, .int, .int, .int, .bool, .bool, .bool, .bool, .int] gs) : ∃ x : S4026, gs = [G.str x.Request.Name, G.str x.Request.Carrier, G.str x.Request.Kind, G.str x.Request.Terminal, G.str x.Request.Partner, G.str x.Request.Link, G.int x.Request.Period.fFrom, G.int x.Request.Period.fTo, G.int x.Request.Period.Days, G.int x.Request.Minute, G.int x.Request.Seats, G.int x.Request.Size, G.int x.Request.Noise, G.bool x.Historic, G.bool x.Retimed, G.bool x.Newcomer, G.bool x.Yearround, G.int x.Distance] := by
 cases h with
 | str n0 h =>
  cases h with
  | str n1 h =>
   cases h with
   | str n2 h =>
    cases h with
    | str n3 h =>
     cases h with
     | str n4 h =>
      cases h with
      | str n5 h =>
       cases h with
       | int n6 h =>
        cases h with
        | int n7 h =>
         cases h with
         | int n8 h =>
          cases h with
          | int n9 h =>
           cases h with
           | int n10 h =>
            cases h with
            | int n11 h =>
             cases h with
             | int n12 h =>
              cases h with
              | bool n13 h =>
               cases h with
               | bool n14 h =>
                cases h with
                | bool n15 h =>
                 cases h with
                 | bool n16 h =>
                  cases h with
                  | int n17 h =>
                   cases h
                   exact ⟨⟨⟨n0, n1, n2, n3, n4, n5, ⟨n6, n7, n8⟩, n9, n10, n11, n12⟩, n13, n14, n15, n16, n17⟩, rfl⟩
set_option maxRecDepth 100000 in
theorem topChockLots_lifted (os : Os) (started : os.Started) (H : Type) (enc : TypeId × Value → H) :
  ReturnsInHanded {} Tryz.checked os 3 .any (fun w args => (Rows.topChockLotsSpec.pre enc Tryz.prog Tryz.f3 [] false w args ∧ laidMetH Tryz.prog laid2 w) ∧ sizedMet enc Tryz.prog Tryz.f3 (OpenSpec.ofChange Rows.topChockLotsSpec) false w args)
   (Rows.topChockLotsSpec.post enc Tryz.prog Tryz.f3 false true false false) := by
 refine returnsInHanded_of_change_and (C := Tryz.checked) (X := fun w _ => laidMetH Tryz.prog laid2 w) (fun _ _ _ hh h => h.of_heap hh) own started (by kernel_rfl) Tryz.func3
  (ChangeSpec.witness_shaped (enc := enc) (C := Tryz.checked) (os := os) (X := fun w _ => laidMetH Tryz.prog laid2 w) false (World.doorLaid Tryz.prog 400 os) #[.agg #[.string ByteArray.empty, .string ByteArray.empty, .string ByteArray.empty, .string ByteArray.empty, .string ByteArray.empty, .string ByteArray.empty, .int .i64 0, .int .i64 0, .int .i64 0, .int .i64 0, .int .i64 0, .int .i64 0, .int .i64 0, .bool false, .bool false, .bool false, .bool false, .int .i64 0], .int .u8 0, .int .u8 0] 8 rfl (World.shaped_of_RefB (by kernel_rfl) (by kernel_rfl)) (by kernel_rfl) (by kernel_rfl) (by kernel_rfl) (qpy os _)) ?_
 intro W base args ds gs before hval0 hW _ hsz hL _;have hval : ∀ (j : Nat) t v, Tryz.f3.params[j]? = some t → args[j]? = some v → Value.okWide Tryz.prog W .any base t v := hval0;have hsz : (DataW.weightsEach Tryz.prog (Tryz.f3.params.toList ++ []) (ds ++ gs)).all (· ≤ reachBytes) = true := hsz;have hW' := hW;obtain ⟨p, q, hA0, hV, rfl, _, _⟩ := hW;have hA : DataW.TrodAll enc Tryz.prog W 0 (fun _ => true) true Tryz.f3.params.toList args.toList ds p := hA0;rw [Tryz.params3] at hA hval hsz;obtain ⟨v0, v1, v2, d0, d1, d2, p0, p1, p2, rfl, rfl, rfl, h0, h1, h2⟩ := trodAll_three hA;obtain ⟨rfl, rfl⟩ := trodVars_none hV;obtain ⟨gs0, k0, f0⟩ := qlj Tryz.underlying27 sh27 (hval 0 27 v0 rfl rfl) h0;obtain ⟨a0, rfl⟩ := qpx k0;obtain ⟨a1, f1, rfl, m1⟩ := qm9 Tryz.underlying5 (hval 1 5 v1 rfl rfl) h1;obtain ⟨a2, f2, rfl, m2⟩ := qm9 Tryz.underlying5 (hval 2 5 v2 rfl rfl) h2;have hc := qyp a0 a1 a2 (qlk a0 a1 a2 m1.1 m1.2 m2.1 m2.2) W (fun _ => False) [v0, .int .u8 a1, .int .u8 a2] (fun _ h => h.elim) (qg7 hL) ⟨f0, f1, f2, trivial⟩;refine hc.mono fun e W' => ?_;rintro ⟨v, rfl, hg, hv⟩;have hv : v = .bool true := hv;subst hv;exact ⟨_, rfl, qpz qsd Tryz.underlying4 hW' rfl rfl (by rw [Tryz.params3]; decide +kernel) rfl hg⟩
end Go.Proofs.YtnknncfgbefpeaaGreat
