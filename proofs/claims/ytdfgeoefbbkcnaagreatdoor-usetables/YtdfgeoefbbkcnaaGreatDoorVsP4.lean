/-
  What is proved: the card of UseTables holds: at every input the law returns true and leaves its arguments as they read; its conditions are the card's own.
-/
import Derived.Test.YtdfgeoefbbkcnaaGreatDoorVaB4
import Derived.Test.YtdfgeoefbbkcnaaGreatDoorVsP2
import Derived.Test.YtdfgeoefbbkcnaaGreatDoorVsP3
import Derived.Test.YtdfgeoefbbkcnaaGreatDoorCards
import Derived.SevenTiedAt
set_option linter.unusedSectionVars false
set_option linter.unusedSimpArgs false
set_option linter.unusedVariables false
set_option linter.unnecessarySimpa false
set_option linter.deprecated false
namespace Go.Proofs.YtdfgeoefbbkcnaaGreatDoor
open Go.ChangeShapes Go.WideShapes Go.ChangeAt Go.WideMaps Go.WideElems Go.RowKit
open Go.Sim
set_option maxRecDepth 100000 in
theorem useTables_lifted (os : Os) (started : os.Started) (H : Type) (enc : TypeId × Value → H) :
  ReturnsInHanded {} Tryz.checked os 13 .any (fun w args => (Rows.useTablesSpec.pre enc Tryz.prog Tryz.f13 [] false w args ∧ laidMetH Tryz.prog laid2 w) ∧ sizedMet enc Tryz.prog Tryz.f13 (OpenSpec.ofChange Rows.useTablesSpec) false w args)
   (Rows.useTablesSpec.post enc Tryz.prog Tryz.f13 false true false false) := by
 refine returnsInHanded_of_change_and (C := Tryz.checked) (X := fun w _ => laidMetH Tryz.prog laid2 w) (fun _ _ _ hh h => h.of_heap hh) own started (by kernel_rfl) Tryz.func13
  (ChangeSpec.witness_shaped (enc := enc) (C := Tryz.checked) (os := os) (X := fun w _ => laidMetH Tryz.prog laid2 w) false (World.doorLaid Tryz.prog 400 os) #[.agg #[.int .i64 0, .int .i64 0, .int .i64 0, .int .i64 0, .slice none 0 0, .int .i64 0, .int .i64 0], .slice none 0 0, .slice none 0 0] 8 rfl (World.shaped_of_RefB (by kernel_rfl) (by kernel_rfl)) (by kernel_rfl) (by kernel_rfl) (by kernel_rfl) (qpm os _)) ?_
 intro W base args ds gs before hval0 hW _ hsz hL _
 have hval : ∀ (j : Nat) t v, Tryz.f13.params[j]? = some t → args[j]? = some v → Value.okWide Tryz.prog W .any base t v := hval0
 have hsz : (DataW.weightsEach Tryz.prog (Tryz.f13.params.toList ++ []) (ds ++ gs)).all (· ≤ reachBytes) = true := hsz
 have hW' := hW
 obtain ⟨p, q, hA0, hV, rfl, _, _⟩ := hW
 have hA : DataW.TrodAll enc Tryz.prog W 0 (fun _ => true) true Tryz.f13.params.toList args.toList ds p := hA0
 rw [Tryz.params13] at hA hval hsz
 obtain ⟨v0, v1, v2, d0, d1, d2, p0, p1, p2, rfl, rfl, rfl, h0, h1, h2⟩ := trodAll_three hA
 obtain ⟨rfl, rfl⟩ := trodVars_none hV
 obtain ⟨gs0, k0, f0⟩ := qli Tryz.underlying24 sh24 (hval 0 24 v0 rfl rfl) h0
 obtain ⟨xs1, k1, f1, e1⟩ := qg5 Tryz.underlying25 qwv (by kernel_rfl) (hval 1 25 v1 rfl rfl) h1
 obtain ⟨xs2, k2, f2, e2⟩ := qg5 Tryz.underlying26 qww (by kernel_rfl) (hval 2 26 v2 rfl rfl) h2
 obtain ⟨a0, rfl⟩ := qvn k0
 obtain ⟨l1, rfl⟩ := qfd fun c hc => qs9 (k1 c hc)
 obtain ⟨l2, rfl⟩ := qfd fun c hc => qta (k2 c hc)
 have b1 : l1.length * 40 ≤ 140737488351232 := by
  rcases e1 with e1 | ⟨elems, rest, rfl, e1⟩
  ·rw [List.map_eq_nil_iff.1 e1]; decide
  ·have := sized_slice hsz (j := 1) (t := 25) (e := 152) (elems := elems) (spare := rest) rfl rfl Tryz.underlying25
   rw [show Tryz.prog.bytesOf 152 = 40 by kernel_rfl] at this
   rw [List.length_map] at e1
   have h3 : reachBytes = 140737488351232 := rfl
   omega
 have b2 : l2.length * 96 ≤ 140737488351232 := by
  rcases e2 with e2 | ⟨elems, rest, rfl, e2⟩
  ·rw [List.map_eq_nil_iff.1 e2]; decide
  ·have := sized_slice hsz (j := 2) (t := 26) (e := 105) (elems := elems) (spare := rest) rfl rfl Tryz.underlying26
   rw [show Tryz.prog.bytesOf 105 = 96 by kernel_rfl] at this
   rw [List.length_map] at e2
   have h3 : reachBytes = 140737488351232 := rfl
   omega
 have hc := c13 a0 l1 l2 b1 b2 (qpl a0 l1 l2) W (fun _ => False) [v0, v1, v2] (fun _ h => h.elim) (qhn hL) ⟨f0, f1, f2, trivial⟩
 refine hc.mono fun e W' => ?_
 rintro ⟨v, rfl, hg, hv⟩
 have hv : v = .bool true := hv
 subst hv
 exact ⟨_, rfl, qpn qs8 Tryz.underlying4 hW' rfl rfl (by rw [Tryz.params13]; decide +kernel) rfl hg⟩
end Go.Proofs.YtdfgeoefbbkcnaaGreatDoor
namespace Go.Proofs.YtdfgeoefbbkcnaaGreatDoor
theorem useTables_holds : Rows.UseTablesSaid :=
 OpenClaim.holds_of_wide 13 Tryz.f13 rfl rfl rfl rfl rfl rfl rfl ⟨rfl, rfl, rfl, rfl, rfl⟩ rfl rfl rfl rfl rfl named13 Tryz.func13 qpo qvo qvp
  (fun os started H enc _ => useTables_lifted os started H enc)
theorem qvq : false = Rows.useTablesRow.goesBy Tryz.prog := by kernel_rfl
theorem qtb : false = Tryz.prog.looks [] := by kernel_rfl
theorem qvr : Tryz.prog.mainIs = some (true, "53f62e1175aec5bbbb2f5a8fad07f2d835bf6bbac642c2d216bb8dfb64a17572".toList) := by kernel_rfl
theorem qtc : Tryz.prog.wantsStandIn 24 = false := by kernel_rfl
theorem qtd : Tryz.prog.wantsStandIn 25 = false := by kernel_rfl
theorem qte : Tryz.prog.wantsStandIn 26 = false := by kernel_rfl
theorem qpp : Rows.useTablesRow.wfByText (OpenSpec.ofChange Rows.useTablesSpec) = true := by kernel_rfl
theorem useTables_card_holds : Rows.UseTablesCardSaid :=
 Claim7.holds_tied_plain_at .later [] [.data, .data] true (true, "53f62e1175aec5bbbb2f5a8fad07f2d835bf6bbac642c2d216bb8dfb64a17572") false
  useTables_holds (fun _ h => by cases h) qpp (fun _ h => by cases h) useTables_row_tie rfl ⟨rfl, rfl⟩ qvr rfl
  (fun f fn hf hfn => by
   obtain rfl : f = 13 := Option.some.inj (named13.symm.trans hf) |>.symm
   obtain rfl : fn = Tryz.f13 := (Option.some.inj (Tryz.func13.symm.trans hfn)).symm
   exact ⟨qtb, fun j t ht => by
    rw [Tryz.params13] at ht
    rcases j with _ | _ | _ | j
    ·obtain rfl : t = 24 := by simpa using ht.symm
     exact qtc
    ·obtain rfl : t = 25 := by simpa using ht.symm
     exact qtd
    ·obtain rfl : t = 26 := by simpa using ht.symm
     exact qte
    ·simp at ht⟩)
  qvq
end Go.Proofs.YtdfgeoefbbkcnaaGreatDoor
