/-
  What is proved: the card of UseGreatest holds: at every input the law returns true and leaves its arguments as they read; its conditions are the card's own.
-/
import Derived.Test.YtdfgeoefbbkcnaaGreatDoorVaB4
import Derived.Test.YtdfgeoefbbkcnaaGreatDoorVsM1
import Derived.Test.YtdfgeoefbbkcnaaGreatDoorVsM3
import Derived.Test.YtdfgeoefbbkcnaaGreatDoorVsM4
import Derived.Test.YtdfgeoefbbkcnaaGreatDoorCards
import Derived.SevenTiedAt
set_option linter.unusedSectionVars false
set_option linter.unusedSimpArgs false
set_option linter.unusedVariables false
set_option linter.unnecessarySimpa false
set_option linter.deprecated false
namespace Go.Proofs.YtdfgeoefbbkcnaaGreatDoor
open Go.ChangeShapes Go.WideShapes Go.ChangeAt Go.WideMaps Go.WideElems Go.RowKit
open Go.Sim
theorem sh142 : shOf Tryz.prog 9 142 = some [.sl [.str, .int, .str], .sl [.str, .int, .str], .sl [.int, .int], .sl [.int], .sl [.int]] := by kernel_rfl
theorem is_int {gs : List G} (h : Is [.int] gs) : ∃ n : Int, gs = cInt n := by
  cases h with
  | int n h => cases h; exact ⟨n, rfl⟩
theorem is_S154 {gs : List G} (h : Is [.int, .int] gs) : ∃ x : S154, gs = S154.c x := by
  cases h with
  | int n1 h => cases h with
    | int n2 h => cases h; exact ⟨⟨n1, n2⟩, rfl⟩
theorem is_S141 {gs : List G} (h : Is [.sl [.str, .int, .str], .sl [.str, .int, .str], .sl [.int, .int], .sl [.int], .sl [.int]] gs) :
    ∃ x : S141, gs = [G.sl 3 (List.map S151.c x.Slots), G.sl 3 (List.map S151.c x.Records), G.sl 2 (List.map S154.c x.Pairs), G.sl 1 (List.map cInt x.Cover.Slots), G.sl 1 (List.map cInt x.Cover.Records)] := by
  cases h with
  | sl e0 x0 h => cases h with
    | sl e1 x1 h => cases h with
      | sl e2 x2 h => cases h with
        | sl e3 x3 h => cases h with
          | sl e4 x4 h =>
            cases h
            subst e0 e1 e2 e3 e4
            obtain ⟨l0, rfl⟩ := list_of fun c hc => is_S151 (x0 c hc)
            obtain ⟨l1, rfl⟩ := list_of fun c hc => is_S151 (x1 c hc)
            obtain ⟨l2, rfl⟩ := list_of fun c hc => is_S154 (x2 c hc)
            obtain ⟨l3, rfl⟩ := list_of fun c hc => is_int (x3 c hc)
            obtain ⟨l4, rfl⟩ := list_of fun c hc => is_int (x4 c hc)
            exact ⟨⟨l0, l1, l2, ⟨l3, l4⟩⟩, rfl⟩
set_option maxRecDepth 100000 in
theorem useGreatest_lifted (os : Os) (started : os.Started) (H : Type) (enc : TypeId × Value → H) :
    ReturnsInHanded {} Tryz.checked os 15 .any (fun w args => (Rows.useGreatestSpec.pre enc Tryz.prog Tryz.f15 [] false w args ∧ laidMetH Tryz.prog laid2 w) ∧ sizedMet enc Tryz.prog Tryz.f15 (OpenSpec.ofChange Rows.useGreatestSpec) false w args)
      (Rows.useGreatestSpec.post enc Tryz.prog Tryz.f15 false true false false) := by
  refine returnsInHanded_of_change_and (C := Tryz.checked) (X := fun w _ => laidMetH Tryz.prog laid2 w) (fun _ _ _ hh h => h.of_heap hh) own started (by kernel_rfl) Tryz.func15
    (ChangeSpec.witness_shaped (enc := enc) (C := Tryz.checked) (os := os) (X := fun w _ => laidMetH Tryz.prog laid2 w) false (World.doorLaid Tryz.prog 400 os) #[.agg #[.int .i64 0, .int .i64 0, .int .i64 0, .int .i64 0, .slice none 0 0, .int .i64 0, .int .i64 0], .agg #[.slice none 0 0, .slice none 0 0, .slice none 0 0, .slice none 0 0, .slice none 0 0]] 8 rfl (World.shaped_of_RefB (by kernel_rfl) (by kernel_rfl)) (by kernel_rfl) (by kernel_rfl) (by kernel_rfl) (door_met os _)) ?_
  intro W base args ds gs before hval0 hW _ hsz hL _
  have hval : ∀ (j : Nat) t v, Tryz.f15.params[j]? = some t → args[j]? = some v → Value.okWide Tryz.prog W .any base t v := hval0
  have hsz : (DataW.weightsEach Tryz.prog (Tryz.f15.params.toList ++ []) (ds ++ gs)).all (· ≤ reachBytes) = true := hsz
  have hW' := hW
  obtain ⟨p, q, hA0, hV, rfl, _, _⟩ := hW
  have hA : DataW.TrodAll enc Tryz.prog W 0 (fun _ => true) true Tryz.f15.params.toList args.toList ds p := hA0
  rw [Tryz.params15] at hA hval hsz
  obtain ⟨v0, v1, d0, d1, p0, p1, rfl, rfl, rfl, h0, h1⟩ := trodAll_two hA
  obtain ⟨rfl, rfl⟩ := trodVars_none hV
  obtain ⟨gs0, k0, f0⟩ := arg_struct Tryz.underlying24 sh24 (hval 0 24 v0 rfl rfl) h0
  obtain ⟨gs1, k1, f1⟩ := arg_struct Tryz.underlying142 sh142 (hval 1 142 v1 rfl rfl) h1
  obtain ⟨a0, rfl⟩ := is_S23 k0
  obtain ⟨a1, rfl⟩ := is_S141 k1
  have f1' := f1
  obtain ⟨cs, rfl, hfit⟩ := f1'
  obtain ⟨c0, c1, cr, rfl, q0, q1⟩ := fits_two hfit
  obtain ⟨ad0, cap0, rfl, _⟩ := q0
  obtain ⟨ad1, cap1, rfl, _⟩ := q1
  have h3 : reachBytes = 140737488351232 := rfl
  have b1 : a1.Slots.length * 40 ≤ 140737488351232 := by
    have := sized_field Tryz.underlying142 h1 hsz (j := 1) rfl rfl (i := 0) (e := 152) rfl Tryz.underlying25 (by kernel_rfl) (a := ad0) (n := (List.map S151.c a1.Slots).length) (cap := cap0) rfl
    rw [show Tryz.prog.bytesOf 152 = 40 by kernel_rfl, List.length_map] at this
    omega
  have b2 : a1.Records.length * 40 ≤ 140737488351232 := by
    have := sized_field Tryz.underlying142 h1 hsz (j := 1) rfl rfl (i := 1) (e := 152) rfl Tryz.underlying25 (by kernel_rfl) (a := ad1) (n := (List.map S151.c a1.Records).length) (cap := cap1) rfl
    rw [show Tryz.prog.bytesOf 152 = 40 by kernel_rfl, List.length_map] at this
    omega
  have hc := c15 a0 a1 b1 b2 (s15_true a0 a1) W (fun _ => False) [v0, _] (fun _ h => h.elim) (glOk_of_laid hL) ⟨f0, f1, trivial⟩
  refine hc.mono fun e W' => ?_
  rintro ⟨v, rfl, hg, hv⟩
  have hv : v = .bool true := hv
  subst hv
  exact ⟨_, rfl, post_law laidOut Tryz.underlying4 hW' rfl rfl (by rw [Tryz.params15]; decide +kernel) rfl hg⟩
end Go.Proofs.YtdfgeoefbbkcnaaGreatDoor

namespace Go.Proofs.YtdfgeoefbbkcnaaGreatDoor
theorem useGreatest_holds : Rows.UseGreatestSaid :=
  OpenClaim.holds_of_wide 15 Tryz.f15 rfl rfl rfl rfl rfl rfl rfl ⟨rfl, rfl, rfl, rfl, rfl⟩ rfl rfl rfl rfl rfl named15 Tryz.func15 closed15 inst15 wrap15
    (fun os started H enc _ => useGreatest_lifted os started H enc)
theorem goes15 : false = Rows.useGreatestRow.goesBy Tryz.prog := by kernel_rfl
theorem looks15 : false = Tryz.prog.looks [] := by kernel_rfl
theorem main15 : Tryz.prog.mainIs = some (true, "53f62e1175aec5bbbb2f5a8fad07f2d835bf6bbac642c2d216bb8dfb64a17572".toList) := by kernel_rfl
theorem stand24 : Tryz.prog.wantsStandIn 24 = false := by kernel_rfl
theorem stand142 : Tryz.prog.wantsStandIn 142 = false := by kernel_rfl
theorem wfText15 : Rows.useGreatestRow.wfByText (OpenSpec.ofChange Rows.useGreatestSpec) = true := by kernel_rfl
theorem useGreatest_card_holds : Rows.UseGreatestCardSaid :=
  Claim7.holds_tied_plain_at .later [] [.data, .data] true (true, "53f62e1175aec5bbbb2f5a8fad07f2d835bf6bbac642c2d216bb8dfb64a17572") false
    useGreatest_holds (fun _ h => by cases h) wfText15 (fun _ h => by cases h) useGreatest_row_tie rfl ⟨rfl, rfl⟩ main15 rfl
    (fun f fn hf hfn => by
      obtain rfl : f = 15 := Option.some.inj (named15.symm.trans hf) |>.symm
      obtain rfl : fn = Tryz.f15 := (Option.some.inj (Tryz.func15.symm.trans hfn)).symm
      exact ⟨looks15, fun j t ht => by
        rw [Tryz.params15] at ht
        rcases j with _ | _ | j
        · obtain rfl : t = 24 := by simpa using ht.symm
          exact stand24
        · obtain rfl : t = 142 := by simpa using ht.symm
          exact stand142
        · simp at ht⟩)
    goes15
end Go.Proofs.YtdfgeoefbbkcnaaGreatDoor

