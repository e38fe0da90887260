/-
  What is proved: UseOrders: its walk, and its law: it is true of every rule, all slots and all records.
-/
import Derived.Test.YtdfgeoefbbkcnaaGreatDoorVsJ2
import Derived.Test.YtdfgeoefbbkcnaaGreatDoorVsF7
import Derived.Test.YtdfgeoefbbkcnaaGreatDoorVaA9
import Derived.Test.YtdfgeoefbbkcnaaGreatDoorVsJ1
set_option linter.unusedSectionVars false
set_option linter.unusedSimpArgs false
set_option linter.unusedVariables false
set_option linter.unnecessarySimpa false
set_option linter.deprecated false
set_option linter.unusedSimpArgs false
set_option linter.unusedVariables false
set_option maxRecDepth 10000
namespace Go.Sim
open Go.Proofs


/-- turnroundlaw09.UseOrders -/
def s10_l3 (a0 : S23) (r2 : S55 × Int) (r15 : (List S110) × Int) : List S110 → Nat → Int → Int → Option Bool
 | [], k19, x17, x18 => some (eqAnd [decide (x17 = r2.1.Flown), decide (x18 = r2.1.Due)])
 | y20 :: t21, k19, x17, x18 => bindO (bif (!((decide ((s33 a0 (S55.mk y20.Ratio.Flown y20.Ratio.Due)).2 ≠ 0)) || (!(((s33 a0 (S55.mk y20.Ratio.Flown y20.Ratio.Due)).1) == y20.Kept)))) && (decide (0 < ((k19 : Nat) : Int))) then ixO r15.1 (IntKind.i64.wrap (((k19 : Nat) : Int) - 1)) else some default) fun y22 => (bif ((decide ((s33 a0 (S55.mk y20.Ratio.Flown y20.Ratio.Due)).2 ≠ 0)) || (!(((s33 a0 (S55.mk y20.Ratio.Flown y20.Ratio.Due)).1) == y20.Kept))) || ((decide (0 < ((k19 : Nat) : Int))) && (strLt y20.Name y22.Name || decide (y20.Name = y22.Name))) then some false else s10_l3 a0 r2 r15 t21 (k19 + 1) (IntKind.i64.wrap (x17 + y20.Ratio.Flown)) (IntKind.i64.wrap (x18 + y20.Ratio.Due)))
def s10_j1 (a0 : S23) (a1 : List S151) (a2 : List S104) (r2 : S55 × Int)  : Option Bool :=
 bindO (s63 a0 a1 a2) fun r15 => (bif (decide (r15.2 ≠ 0)) || (decide ((List.length a1 : Int) < (List.length r15.1 : Int))) then some false else s10_l3 a0 r2 r15 r15.1 0 0 0)
def s10_l2 (a0 : S23) (a1 : List S151) (a2 : List S104) (r2 : S55 × Int) : List ByteArray → Nat → (List (ByteArray × Int)) → Option Bool
 | [], k11, x10 => (bif ((decide (IntKind.i64.wrap ((IntKind.i64.wrap ((IntKind.i64.wrap ((mgetD x10 (⟨#[114, 101, 116, 117, 114, 110, 101, 100]⟩) 0) + (mgetD x10 (⟨#[102, 108, 111, 119, 110]⟩) 0))) + (mgetD x10 (⟨#[101, 120, 99, 117, 115, 101, 100]⟩) 0))) + (mgetD x10 (⟨#[109, 105, 115, 115, 101, 100]⟩) 0)) ≠ (List.length a1 : Int))) || (decide (r2.1.Flown ≠ IntKind.i64.wrap ((mgetD x10 (⟨#[102, 108, 111, 119, 110]⟩) 0) + (mgetD x10 (⟨#[101, 120, 99, 117, 115, 101, 100]⟩) 0))))) || (decide (r2.1.Due ≠ IntKind.i64.wrap ((List.length a1 : Int) - (mgetD x10 (⟨#[114, 101, 116, 117, 114, 110, 101, 100]⟩) 0)))) then some false else bindO (s58 a0 a1 (List.drop (Int.toNat 1) a2)) fun r14 => (bif decide (r14.2 ≠ 0) then some false else bindO (ixO a2 0) fun y23 => (bif decide (y23.Kind = (⟨#[98, 97, 99, 107]⟩)) then (bif decide (r14.1.Due < r2.1.Due) then some false else s10_j1 a0 a1 a2 r2) else (bif (decide (r14.1.Due ≠ r2.1.Due)) || (decide (r2.1.Flown < r14.1.Flown)) then some false else s10_j1 a0 a1 a2 r2))))
 | y12 :: t13, k11, x10 => s10_l2 a0 a1 a2 r2 t13 (k11 + 1) (mset x10 y12 (IntKind.i64.wrap ((mgetD x10 y12 0) + 1)))
def s10_l1 (a0 : S23) (a1 : List S151) (a2 : List S104) (r1 : (List ByteArray) × Int) (r2 : S55 × Int) : Nat → (List S104) → Int → Option Bool
 | 0, _, _ => none
 | k5 + 1, x3, x4 => (bif decide (0 ≤ x4) then bindO (ixO a2 x4) fun y6 => s10_l1 a0 a1 a2 r1 r2 k5 (x3 ++ [y6]) (IntKind.i64.wrap (x4 - 1)) else bindO (s57 a0 a1 x3) fun r7 => bindO (bif !((decide (IntKind.i64.wrap ((IntKind.i64.wrap (r1.2 + r2.2)) + r7.2) ≠ 0)) || (decide ((List.length r1.1 : Int) ≠ (List.length a1 : Int)))) then s60 r1.1 r7.1 else some default) fun r8 => (bif ((decide (IntKind.i64.wrap ((IntKind.i64.wrap (r1.2 + r2.2)) + r7.2) ≠ 0)) || (decide ((List.length r1.1 : Int) ≠ (List.length a1 : Int)))) || (!r8) then some false else s10_l2 a0 a1 a2 r2 r1.1 0 []))
noncomputable def s10 (a0 : S23) (a1 : List S151) (a2 : List S104) : Option Bool :=
 (bif (((((((!s16) || (!(s17 (s18 a0)))) || (decide (8 < (List.length a1 : Int)))) || (decide ((List.length a2 : Int) = 0))) || (decide (7 < (List.length a2 : Int)))) || (!(s19 (s20 a1) 8))) || (!(s21 (s22 a2) 7))) || (decide ((s35 [(s24 (s18 a0)), (s26 (s20 a1)), (s28 (s22 a2))]) ≠ 0)) then some s16 else bindO (s57 a0 a1 a2) fun r1 => bindO (s58 a0 a1 a2) fun r2 => s10_l1 a0 a1 a2 r1 r2 ((((IntKind.i64.wrap ((List.length a2 : Int) - 1)) + 1).toNat) + 1) [] (IntKind.i64.wrap ((List.length a2 : Int) - 1)))
set_option maxHeartbeats 4000000 in
theorem c10 (a0 : S23) (a1 : List S151) (a2 : List S104) {R : Bool}  (hb0 : a1.length * 40 ≤ 140737488351232) (hb1 : a2.length * 96 ≤ 140737488351232) (hR : s10 a0 a1 a2 = some R) : Con (EG glT) 10 [G.agg [G.int a0.Before, G.int a0.After, G.int a0.Notice, G.int a0.Share, G.sl 1 (List.map cStr a0.Causes), G.int a0.Off, G.int a0.Run], G.sl 3 (List.map S151.c a1), G.sl 8 (List.map S104.c a2)] (G.bool R) := by
 unfold s10 at hR
 refine con_of_aw Tryz.func10 rfl rfl fun w0 M0 => ?_
 refine len_sl (f := S151.c) (l := a1) 1 rfl fun hla1 => ?_
 refine len_sl (f := S104.c) (l := a2) 2 rfl fun hla2 => ?_
 refine aw_seq ?_
 refine aw_region [.p, .p] ?_
 refine st rfl rfl (eff_box rfl rfl) rfl ?_
 refine st rfl rfl (eff_assigng rfl rfl) rfl ?_
 refine st_nil ?_
 refine aw_seq ?_
 refine aw_seq ?_
 refine aw_region [.p, .p, .p, .p, .p, .p, .p, .p, .p, .p, .p, .p, .p, .p, .p, .p, .p, .p, .p, .p, .p, .p, .p, .p, .p, .p, .p, .p, .p, .p, .p, .p, .p, .p, .p, .p, .p, .p, .p, .p, .p, .p, .p, .p, .p, .p, .p, .p, .p] ?_
 refine st rfl rfl (eff_call rfl K16 rfl (c16) ag_nil) rfl ?_
 refine st rfl rfl (eff_not rfl rfl) rfl ?_
 refine st rfl rfl (eff_moveg rfl rfl) rfl ?_
 refine st_g rfl rfl rfl (gb_bool _ _) (fun h => eff_loadA rfl ty24 rfl rfl rfl) rfl ?_
 refine st_g rfl rfl rfl (gb_bool _ _) (fun h => eff_call rfl K18 rfl (c18 a0) (ag_cons (gd h rfl) ag_nil)) rfl ?_
 refine st_g rfl rfl rfl (gb_bool _ _) (fun h => eff_call rfl K17 rfl (c17 (s18 a0)) (ag_cons (gd h rfl) ag_nil)) rfl ?_
 refine st_g rfl rfl rfl (gb_bool _ _) (fun h => eff_not rfl (gd h rfl)) rfl ?_
 refine st rfl rfl (eff_or rfl rfl rfl rfl) rfl ?_
 refine st rfl rfl (eff_moveg rfl rfl) rfl ?_
 refine st_g rfl rfl rfl (gb_bool _ _) (fun h => eff_moveg rfl rfl) rfl ?_
 refine st_g rfl rfl rfl (gb_bool _ _) (fun h => eff_lenM (f := S151.c) (l := a1) rfl Tryz.underlying25 (gd h rfl)) rfl ?_
 refine st_g rfl rfl rfl (gb_bool _ _) (fun h => eff_gtr rfl (gd h rfl) rfl) rfl ?_
 refine st rfl rfl (eff_or rfl rfl rfl rfl) rfl ?_
 refine st rfl rfl (eff_moveg rfl rfl) rfl ?_
 refine st_g rfl rfl rfl (gb_bool _ _) (fun h => eff_moveg rfl rfl) rfl ?_
 refine st_g rfl rfl rfl (gb_bool _ _) (fun h => eff_lenM (f := S104.c) (l := a2) rfl Tryz.underlying26 (gd h rfl)) rfl ?_
 refine st_g rfl rfl rfl (gb_bool _ _) (fun h => eff_eql rfl (gd h rfl) rfl) rfl ?_
 refine st rfl rfl (eff_or rfl rfl rfl rfl) rfl ?_
 refine st rfl rfl (eff_moveg rfl rfl) rfl ?_
 refine st_g rfl rfl rfl (gb_bool _ _) (fun h => eff_moveg rfl rfl) rfl ?_
 refine st_g rfl rfl rfl (gb_bool _ _) (fun h => eff_lenM (f := S104.c) (l := a2) rfl Tryz.underlying26 (gd h rfl)) rfl ?_
 refine st_g rfl rfl rfl (gb_bool _ _) (fun h => eff_gtr rfl (gd h rfl) rfl) rfl ?_
 refine st rfl rfl (eff_or rfl rfl rfl rfl) rfl ?_
 refine st rfl rfl (eff_moveg rfl rfl) rfl ?_
 refine st_g rfl rfl rfl (gb_bool _ _) (fun h => eff_moveg rfl rfl) rfl ?_
 refine st_g rfl rfl rfl (gb_bool _ _) (fun h => eff_call rfl K20 rfl (c20 a1 (by omega)) (ag_cons (gd h rfl) ag_nil)) rfl ?_
 refine st_g rfl rfl rfl (gb_bool _ _) (fun h => eff_call rfl K19 rfl (c19 (s20 a1) 8) (ag_cons (gd h rfl) (ag_cons rfl ag_nil))) rfl ?_
 refine st_g rfl rfl rfl (gb_bool _ _) (fun h => eff_not rfl (gd h rfl)) rfl ?_
 refine st rfl rfl (eff_or rfl rfl rfl rfl) rfl ?_
 refine st rfl rfl (eff_moveg rfl rfl) rfl ?_
 refine st_g rfl rfl rfl (gb_bool _ _) (fun h => eff_moveg rfl rfl) rfl ?_
 refine st_g rfl rfl rfl (gb_bool _ _) (fun h => eff_call rfl K22 rfl (c22 a2 (by first | assumption | omega | (simp [copyL_len]; omega))) (ag_cons (gd h rfl) ag_nil)) rfl ?_
 refine st_g rfl rfl rfl (gb_bool _ _) (fun h => eff_call rfl K21 rfl (c21 (s22 a2) 7) (ag_cons (gd h rfl) (ag_cons rfl ag_nil))) rfl ?_
 refine st_g rfl rfl rfl (gb_bool _ _) (fun h => eff_not rfl (gd h rfl)) rfl ?_
 refine st rfl rfl (eff_or rfl rfl rfl rfl) rfl ?_
 refine st rfl rfl (eff_moveg rfl rfl) rfl ?_
 refine st_g rfl rfl rfl (gb_bool _ _) (fun h => eff_loadA rfl ty24 rfl rfl rfl) rfl ?_
 refine st_g rfl rfl rfl (gb_bool _ _) (fun h => eff_call rfl K18 rfl (c18 a0) (ag_cons (gd h rfl) ag_nil)) rfl ?_
 refine st_g rfl rfl rfl (gb_bool _ _) (fun h => eff_call rfl K24 rfl (c24 (s18 a0)) (ag_cons (gd h rfl) ag_nil)) rfl ?_
 refine st_g rfl rfl rfl (gb_bool _ _) (fun h => eff_moveg rfl rfl) rfl ?_
 refine st_g rfl rfl rfl (gb_bool _ _) (fun h => eff_call rfl K20 rfl (c20 a1 (by omega)) (ag_cons (gd h rfl) ag_nil)) rfl ?_
 refine st_g rfl rfl rfl (gb_bool _ _) (fun h => eff_call rfl K26 rfl (c26 (s20 a1)) (ag_cons (gd h rfl) ag_nil)) rfl ?_
 refine st_g rfl rfl rfl (gb_bool _ _) (fun h => eff_moveg rfl rfl) rfl ?_
 refine st_g rfl rfl rfl (gb_bool _ _) (fun h => eff_call rfl K22 rfl (c22 a2 (by first | assumption | omega | (simp [copyL_len]; omega))) (ag_cons (gd h rfl) ag_nil)) rfl ?_
 refine st_g rfl rfl rfl (gb_bool _ _) (fun h => eff_call rfl K28 rfl (c28 (s22 a2)) (ag_cons (gd h rfl) ag_nil)) rfl ?_
 refine st_g rfl rfl rfl (gb_bool _ _) (fun h => eff_buildSlice rfl Tryz.underlying82 ty3 z3 rfl (ps_cons (gd h rfl) (ps_cons (gd h rfl) (ps_cons (gd h rfl) ps_nil))) rfl (by simp []) (by decide)) rfl ?_
 refine st_g rfl rfl rfl (gb_bool _ _) (fun h => eff_call rfl K35 rfl (c35 [(s24 (s18 a0)), (s26 (s20 a1)), (s28 (s22 a2))]) (ag_cons (gd h rfl) ag_nil)) rfl ?_
 refine st_g rfl rfl rfl (gb_bool _ _) (fun h => eff_neq rfl (gd h rfl) rfl) rfl ?_
 refine st rfl rfl (eff_or rfl rfl rfl rfl) rfl ?_
 refine st_nil ?_
 refine aw_cond _ rfl (fun h1 => ?_) (fun h1 => ?_)
 ·replace h1 : ((((((((!s16) || (!(s17 (s18 a0)))) || (decide (8 < (List.length a1 : Int)))) || (decide ((List.length a2 : Int) = 0))) || (decide (7 < (List.length a2 : Int)))) || (!(s19 (s20 a1) 8))) || (!(s21 (s22 a2) 7))) || (decide ((s35 [(s24 (s18 a0)), (s26 (s20 a1)), (s28 (s22 a2))]) ≠ 0))) = true := h1
  replace hR := condT hR h1
  try simp only [Bool.or_eq_true, Bool.and_eq_true, Bool.or_eq_false_iff, Bool.and_eq_false_iff, Bool.not_eq_true', Bool.not_eq_false', decide_eq_true_eq, decide_eq_false_iff_not] at h1
  refine aw_seq ?_
  refine aw_region [.p, .p] ?_
  refine st rfl rfl (eff_call rfl K16 rfl (c16) ag_nil) rfl ?_
  refine st rfl rfl (eff_assigng rfl rfl) rfl ?_
  refine st_nil ?_
  refine aw_ret ?_
  exact res_e (res_c rfl (rv_g rfl)) (congrArg (fun R_ => G.bool R_) (Option.some.inj hR))
 ·replace h1 : ((((((((!s16) || (!(s17 (s18 a0)))) || (decide (8 < (List.length a1 : Int)))) || (decide ((List.length a2 : Int) = 0))) || (decide (7 < (List.length a2 : Int)))) || (!(s19 (s20 a1) 8))) || (!(s21 (s22 a2) 7))) || (decide ((s35 [(s24 (s18 a0)), (s26 (s20 a1)), (s28 (s22 a2))]) ≠ 0))) = false := h1
  replace hR := condF hR h1
  try simp only [Bool.or_eq_true, Bool.and_eq_true, Bool.or_eq_false_iff, Bool.and_eq_false_iff, Bool.not_eq_true', Bool.not_eq_false', decide_eq_true_eq, decide_eq_false_iff_not] at h1
  have hs1 := h1.1.1.1.1.1.2
  have hs2 := h1.1.1.1.1.2
  have hs3 := h1.1.1.1.2
  have hw0 := wrap_i64 (n := (List.length a2 : Int) - 1) ⟨by omega, by omega⟩
  refine aw_skip ?_
  refine aw_seq ?_
  refine Exists.elim (bindO_inv hR) (fun r1 hq_ => ?_)
  have br1 := hq_.1
  replace hR := hq_.2
  clear hq_
  refine aw_region [.p, .p, .p, .p, .p, .p, .p, .p, .p] ?_
  refine st rfl rfl (eff_loadA rfl ty24 rfl rfl rfl) rfl ?_
  refine st rfl rfl (eff_moveg rfl rfl) rfl ?_
  refine st rfl rfl (eff_moveg rfl rfl) rfl ?_
  refine st rfl rfl (eff_call rfl K57 rfl (c57 a0 a1 a2 (fun _ => ⟨by omega, (by first | omega | (simp; omega))⟩) (by omega) (by first | omega | (simp; omega)) br1) (ag_cons rfl (ag_cons rfl (ag_cons rfl ag_nil)))) rfl ?_
  refine st rfl rfl (eff_moveg rfl rfl) rfl ?_
  refine st rfl rfl (eff_extract rfl rfl rfl) rfl ?_
  refine st rfl rfl (eff_extract rfl rfl rfl) rfl ?_
  refine st rfl rfl (eff_assigng rfl rfl) rfl ?_
  refine st rfl rfl (eff_assigng rfl rfl) rfl ?_
  refine st_nil ?_
  refine aw_seq ?_
  refine Exists.elim (bindO_inv hR) (fun r2 hq_ => ?_)
  have br2 := hq_.1
  replace hR := hq_.2
  clear hq_
  refine aw_region [.p, .p, .p, .p, .p, .p, .p, .w, .w, .p] ?_
  refine st rfl rfl (eff_loadA rfl ty24 rfl rfl rfl) rfl ?_
  refine st rfl rfl (eff_moveg rfl rfl) rfl ?_
  refine st rfl rfl (eff_moveg rfl rfl) rfl ?_
  refine st rfl rfl (eff_call rfl K58 rfl (c58 a0 a1 a2 (fun _ => ⟨by omega, (by first | omega | (simp; omega))⟩) (by omega) (by first | omega | (simp; omega)) br2) (ag_cons rfl (ag_cons rfl (ag_cons rfl ag_nil)))) rfl ?_
  refine st rfl rfl (eff_moveg rfl rfl) rfl ?_
  refine st rfl rfl (eff_extract rfl rfl rfl) rfl ?_
  refine st rfl rfl (eff_extract rfl rfl rfl) rfl ?_
  refine st_w rfl rfl (eff_alloc 9 rfl z56 rfl rfl) rfl ?_
  refine st_wn rfl rfl (eff_store (tv := .g (G.agg [G.int r2.1.Flown, G.int r2.1.Due])) rfl ty56 rfl rfl rfl rfl rfl) ?_
  refine st rfl rfl (eff_assigng rfl rfl) rfl ?_
  refine st_nil ?_
  refine aw_seq ?_
  refine aw_region [.w] ?_
  refine st_w rfl rfl (eff_nilL 11 105 8 rfl rfl rfl) rfl ?_
  refine st_nil ?_
  refine aw_seq ?_
  refine aw_seq ?_
  refine aw_region [.p, .p, .p, .p] ?_
  refine st rfl rfl (eff_moveg rfl rfl) rfl ?_
  refine st rfl rfl (eff_lenM (f := S104.c) (l := a2) rfl Tryz.underlying26 rfl) rfl ?_
  refine st rfl rfl (eff_subw rfl rfl rfl) rfl ?_
  refine st rfl rfl (eff_assigng rfl rfl) rfl ?_
  refine st_nil ?_
  refine aw_block ?_
  refine aw_loop_g (γ := Nat × (List S104) × Int) (fun g => ([(1, .g (G.sl 3 (List.map S151.c a1))), (2, .g (G.sl 8 (List.map S104.c a2))), (3, .g (G.ref [G.int a0.Before, G.int a0.After, G.int a0.Notice, G.int a0.Share, G.sl 1 (List.map cStr a0.Causes), G.int a0.Off, G.int a0.Run])), (7, .g (G.sl 1 (List.map cStr r1.1))), (8, .g (G.int r1.2)), (9, .ptr 9 0), (10, .g (G.int r2.2)), (11, .osl 11 8 0 (List.length g.2.1)), (12, .g (G.int g.2.2))], [(9, .box [.g (G.int r2.1.Flown), .g (G.int r2.1.Due)]), (11, .arr 105 8 (List.map S104.c g.2.1))])) (fun g => (g.2.2 + 1).toNat < g.1 ∧ -1 ≤ g.2.2 ∧ (g.2.1.length : Int) + g.2.2 + 1 = (a2.length : Int) ∧ s10_l1 a0 a1 a2 r1 r2 g.1 g.2.1 g.2.2 = some R) (fun g => g.1) ⟨rfl, ((((IntKind.i64.wrap ((List.length a2 : Int) - 1)) + 1).toNat) + 1, [], IntKind.i64.wrap ((List.length a2 : Int) - 1)), ⟨rfl, rfl, rfl, rfl, rfl, rfl, rfl, rfl, rfl, trivial⟩, ⟨rfl, rfl, trivial⟩, rfl, ⟨Nat.lt_succ_self _, (by dsimp only; omega), (by simp only [List.length_nil]; omega), hR⟩, trivial⟩ ?_
  ·rintro ⟨k5, x3, x4⟩ ⟨hk1, iv1_0, iv1_1, hR⟩
   replace hk1 : (x4 + 1).toNat < k5 := hk1
   replace hR : s10_l1 a0 a1 a2 r1 r2 k5 x3 x4 = some R := hR
   replace iv1_0 : -1 ≤ x4 := iv1_0
   replace iv1_1 : (x3.length : Int) + x4 + 1 = (a2.length : Int) := iv1_1
   obtain ⟨k5, rfl⟩ : ∃ m, k5 = m + 1 := ⟨k5 - 1, by omega⟩
   rw [s10_l1] at hR
   try dsimp only at hR
   have hw := wrap_i64 (n := x4 - 1) ⟨by omega, by omega⟩
   refine aw_seq ?_
   refine aw_seq ?_
   refine aw_region [.p, .p] ?_
   refine st rfl rfl (eff_moveg rfl rfl) rfl ?_
   refine st rfl rfl (eff_geq rfl rfl rfl) rfl ?_
   refine st_nil ?_
   refine aw_cond _ rfl (fun h2 => ?_) (fun h2 => ?_)
   ·replace h2 : (decide (0 ≤ x4)) = true := h2
    replace hR := condT hR h2
    try simp only [decide_eq_true_eq] at h2
    refine aw_skip ?_
    refine aw_seq ?_
    refine aw_block ?_
    refine Exists.elim (bindO_inv hR) (fun y6 hq_ => ?_)
    have by6 := hq_.1
    replace hR := hq_.2
    clear hq_
    refine aw_region [.p, .p, .p, .p, .p, .p, .k, .p] ?_
    refine st rfl rfl (eff_moveO rfl rfl) rfl ?_
    refine st rfl rfl (eff_moveg rfl rfl) rfl ?_
    refine st rfl rfl (eff_moveg rfl rfl) rfl ?_
    refine st rfl rfl (eff_ix (f := S104.c) (l := a2) (a := y6) rfl Tryz.underlying26 ty105 rfl rfl (ixO_nn by6) (ixO_get by6)) rfl ?_
    refine st rfl rfl (eff_loadA rfl ty105 rfl rfl rfl) rfl ?_
    refine st rfl rfl (eff_buildSlice rfl Tryz.underlying26 ty105 z105 rfl (ps_cons rfl ps_nil) rfl (by simp [S104.c]) (by decide)) rfl ?_
    refine st_k rfl rfl (eff_appL (f := S104.c) (out := x3) (new := [y6]) rfl app26 rfl rfl (src_eq rfl (src_sl (by decide) (by simp [S104.c]))) (refsN rfl) (by simp; omega)) rfl ?_
    refine st rfl rfl (eff_assignO rfl rfl) rfl ?_
    refine st_nil ?_
    refine aw_region [.p, .p, .p] ?_
    refine st rfl rfl (eff_moveg rfl rfl) rfl ?_
    refine st rfl rfl (eff_subw rfl rfl rfl) rfl ?_
    refine st rfl rfl (eff_assigng rfl rfl) rfl ?_
    refine st_nil ?_
    exact ⟨rfl, (k5, x3 ++ [y6], IntKind.i64.wrap (x4 - 1)), ⟨rfl, rfl, rfl, rfl, rfl, rfl, rfl, rfl, rfl, trivial⟩, ⟨rfl, rfl, trivial⟩, rfl, ⟨(by first | omega | (dsimp only; omega) | (simp at *; omega)), (by first | omega | (dsimp only; omega) | (simp at *; omega)), (by first | omega | (dsimp only; omega) | (simp at *; omega)), hR⟩, by simp⟩
   ·replace h2 : (decide (0 ≤ x4)) = false := h2
    replace hR := condF hR h2
    try simp only [decide_eq_false_iff_not] at h2
    refine aw_exit ?_
    refine aw_seq ?_
    refine aw_freeze (l := [(1, .g (G.sl 3 (List.map S151.c a1))), (2, .g (G.sl 8 (List.map S104.c a2))), (3, .g (G.ref [G.int a0.Before, G.int a0.After, G.int a0.Notice, G.int a0.Share, G.sl 1 (List.map cStr a0.Causes), G.int a0.Off, G.int a0.Run])), (7, .g (G.sl 1 (List.map cStr r1.1))), (8, .g (G.int r1.2)), (9, .ptr 9 0), (10, .g (G.int r2.2)), (11, .g (G.sl 8 (List.map S104.c x3)))]) (m := [(9, .box [.g (G.int r2.1.Flown), .g (G.int r2.1.Due)])]) 11 rfl ⟨.inl ⟨rfl, rfl⟩, .inl ⟨rfl, rfl⟩, .inl ⟨rfl, rfl⟩, .inl ⟨rfl, rfl⟩, .inl ⟨rfl, rfl⟩, .inl ⟨rfl, rfl⟩, .inl ⟨rfl, rfl⟩, .inr (frz_arr rfl), trivial⟩ ⟨rfl, trivial⟩ rfl rfl ?_
    refine Exists.elim (bindO_inv hR) (fun r7 hq_ => ?_)
    have br7 := hq_.1
    replace hR := hq_.2
    clear hq_
    refine aw_region [.p, .p, .p, .p, .p, .p, .p, .p, .p] ?_
    refine st rfl rfl (eff_loadA rfl ty24 rfl rfl rfl) rfl ?_
    refine st rfl rfl (eff_moveg rfl rfl) rfl ?_
    refine st rfl rfl (eff_moveg rfl rfl) rfl ?_
    refine st rfl rfl (eff_call rfl K57 rfl (c57 a0 a1 x3 (fun _ => ⟨by omega, (by first | omega | (simp; omega))⟩) (by omega) (by first | omega | (simp; omega)) br7) (ag_cons rfl (ag_cons rfl (ag_cons rfl ag_nil)))) rfl ?_
    refine st rfl rfl (eff_moveg rfl rfl) rfl ?_
    refine st rfl rfl (eff_extract rfl rfl rfl) rfl ?_
    refine st rfl rfl (eff_extract rfl rfl rfl) rfl ?_
    refine st rfl rfl (eff_assigng rfl rfl) rfl ?_
    refine st rfl rfl (eff_assigng rfl rfl) rfl ?_
    refine st_nil ?_
    refine aw_seq ?_
    refine aw_seq ?_
    refine Exists.elim (bindO_inv hR) (fun r8 hq_ => ?_)
    have br8 := hq_.1
    replace hR := hq_.2
    clear hq_
    refine aw_region [.p, .p, .p, .p, .p, .p, .p, .p, .p, .p, .p, .p, .p, .p, .p, .p, .p, .p, .p] ?_
    refine st rfl rfl (eff_moveg rfl rfl) rfl ?_
    refine st rfl rfl (eff_moveg rfl rfl) rfl ?_
    refine st rfl rfl (eff_addw rfl rfl rfl) rfl ?_
    refine st rfl rfl (eff_moveg rfl rfl) rfl ?_
    refine st rfl rfl (eff_addw rfl rfl rfl) rfl ?_
    refine st rfl rfl (eff_neq rfl rfl rfl) rfl ?_
    refine st rfl rfl (eff_moveg rfl rfl) rfl ?_
    refine st_g rfl rfl rfl (gb_bool _ _) (fun h => eff_moveg rfl rfl) rfl ?_
    refine st_g rfl rfl rfl (gb_bool _ _) (fun h => eff_lenM (f := cStr) (l := r1.1) rfl Tryz.underlying22 (gd h rfl)) rfl ?_
    refine st_g rfl rfl rfl (gb_bool _ _) (fun h => eff_moveg rfl rfl) rfl ?_
    refine st_g rfl rfl rfl (gb_bool _ _) (fun h => eff_lenM (f := S151.c) (l := a1) rfl Tryz.underlying25 (gd h rfl)) rfl ?_
    refine st_g rfl rfl rfl (gb_bool _ _) (fun h => eff_neq rfl (gd h rfl) (gd h rfl)) rfl ?_
    refine st rfl rfl (eff_or rfl rfl rfl rfl) rfl ?_
    refine st rfl rfl (eff_moveg rfl rfl) rfl ?_
    refine st_g rfl rfl rfl (gb_bool _ _) (fun h => eff_moveg rfl rfl) rfl ?_
    refine st_g rfl rfl rfl (gb_bool _ _) (fun h => eff_moveg rfl rfl) rfl ?_
    refine st_g rfl rfl rfl (gb_bool _ _) (fun h => eff_call rfl K60 rfl (c60 r1.1 r7.1 (condF1 br8 h)) (ag_cons (gd h rfl) (ag_cons (gd h rfl) ag_nil))) rfl ?_
    refine st_g rfl rfl rfl (gb_bool _ _) (fun h => eff_not rfl (gd h rfl)) rfl ?_
    refine st rfl rfl (eff_or rfl rfl rfl rfl) rfl ?_
    refine st_nil ?_
    refine aw_cond _ rfl (fun h3 => ?_) (fun h3 => ?_)
    ·replace h3 : (((decide (IntKind.i64.wrap ((IntKind.i64.wrap (r1.2 + r2.2)) + r7.2) ≠ 0)) || (decide ((List.length r1.1 : Int) ≠ (List.length a1 : Int)))) || (!r8)) = true := h3
     replace hR := condT hR h3
     try simp only [Bool.or_eq_true, Bool.and_eq_true, Bool.or_eq_false_iff, Bool.and_eq_false_iff, Bool.not_eq_true', Bool.not_eq_false', decide_eq_true_eq, decide_eq_false_iff_not] at h3
     refine aw_seq ?_
     refine aw_region [.p] ?_
     refine st rfl rfl (eff_assigng rfl rfl) rfl ?_
     refine st_nil ?_
     refine aw_ret ?_
     exact res_e (res_c rfl (rv_g rfl)) (congrArg (fun R_ => G.bool R_) (Option.some.inj hR))
    ·replace h3 : (((decide (IntKind.i64.wrap ((IntKind.i64.wrap (r1.2 + r2.2)) + r7.2) ≠ 0)) || (decide ((List.length r1.1 : Int) ≠ (List.length a1 : Int)))) || (!r8)) = false := h3
     replace hR := condF hR h3
     try simp only [Bool.or_eq_true, Bool.and_eq_true, Bool.or_eq_false_iff, Bool.and_eq_false_iff, Bool.not_eq_true', Bool.not_eq_false', decide_eq_true_eq, decide_eq_false_iff_not] at h3
     refine aw_skip ?_
     refine aw_seq ?_
     refine aw_region [.w, .p] ?_
     refine st_w rfl rfl (eff_makeMap 131 rfl rfl) rfl ?_
     refine st rfl rfl (eff_assignM rfl rfl) rfl ?_
     refine st_nil ?_
     refine aw_seq ?_
     refine aw_seq ?_
     refine aw_region [.p, .p, .p] ?_
     refine st rfl rfl (eff_moveg rfl rfl) rfl ?_
     refine st rfl rfl (eff_lenM (f := cStr) (l := r1.1) rfl Tryz.underlying22 rfl) rfl ?_
     refine st rfl rfl (eff_moveg rfl rfl) rfl ?_
     refine st_nil ?_
     refine aw_block ?_
     refine aw_loop_g (γ := Nat × (List ByteArray) × (List (ByteArray × Int))) (fun g => ([(1, .g (G.sl 3 (List.map S151.c a1))), (2, .g (G.sl 8 (List.map S104.c a2))), (3, .g (G.ref [G.int a0.Before, G.int a0.After, G.int a0.Notice, G.int a0.Share, G.sl 1 (List.map cStr a0.Causes), G.int a0.Off, G.int a0.Run])), (9, .ptr 9 0), (15, .omap 131), (132, .g (G.sl 1 (List.map cStr r1.1))), (133, .g (G.int (List.length r1.1 : Int))), (134, .g (G.int ((g.1 : Nat) : Int)))], [(9, .box [.g (G.int r2.1.Flown), .g (G.int r2.1.Due)]), (131, mpB (K := ByteArray) (V := Int) (Value.string) (fun v => G.int v) g.2.2)])) (fun g => r1.1.drop g.1 = g.2.1 ∧ s10_l2 a0 a1 a2 r2 g.2.1 g.1 g.2.2 = some R) (fun g => List.length g.2.1) ⟨rfl, (0, r1.1, []), ⟨rfl, rfl, rfl, rfl, rfl, rfl, rfl, rfl, trivial⟩, ⟨rfl, rfl, trivial⟩, rfl, ⟨rfl, hR⟩, trivial⟩ ?_
     ·rintro ⟨k11, t13, x10⟩ ⟨hd, hR⟩
      replace hd : r1.1.drop k11 = t13 := hd
      replace hR : s10_l2 a0 a1 a2 r2 t13 k11 x10 = some R := hR
      refine aw_seq ?_
      refine aw_region [.p] ?_
      refine st rfl rfl (eff_lss rfl rfl rfl) rfl ?_
      refine st_nil ?_
      refine len_sl (f := cStr) (l := r1.1) 132 rfl fun hlz2 => ?_
      refine aw_seq ?_
      refine aw_cond _ rfl (fun h4 => ?_) (fun h4 => ?_)
      ·replace h4 : (decide (((k11 : Nat) : Int) < (List.length r1.1 : Int))) = true := h4
       obtain ⟨y12, t13, rfl, hx2, hd⟩ := drop_cons hd (decT h4)
       replace h4 := decT h4
       rw [s10_l2] at hR
       try dsimp only at hR
       refine aw_skip ?_
       refine aw_seq ?_
       refine aw_block ?_
       refine aw_seq ?_
       refine aw_region [.p, .p, .p] ?_
       refine st rfl rfl (eff_ix (f := cStr) (l := r1.1) (a := y12) rfl Tryz.underlying22 ty9 rfl rfl (Int.natCast_nonneg _) hx2) rfl ?_
       refine st rfl rfl (eff_load rfl ty9 rfl) rfl ?_
       refine st rfl rfl (eff_assigng rfl rfl) rfl ?_
       refine st_nil ?_
       refine aw_region [.p, .p, .r, .p, .w] ?_
       refine st rfl rfl (eff_moveM rfl rfl) rfl ?_
       refine st rfl rfl (eff_moveg rfl rfl) rfl ?_
       refine st_r rfl rfl (eff_lookup (kf := Value.string) (vf := (fun v => G.int v)) (m := x10) (k := y12) (z := 0) rfl Tryz.underlying106 Tryz.underlying9 zr3 (fun _ _ => rfl) rfl rfl rfl) rfl ?_
       refine st rfl rfl (eff_addw rfl rfl rfl) rfl ?_
       refine st_wn rfl rfl (eff_update (kf := Value.string) (vf := (fun v => G.int v)) (m := x10) (k := y12) (v := IntKind.i64.wrap ((mgetD x10 y12 0) + 1)) (ins := false) rfl Tryz.underlying106 Tryz.underlying9 rfl rfl rfl rfl) ?_
       refine st_nil ?_
       refine aw_region [.p, .p] ?_
       refine st rfl rfl (eff_add rfl rfl rfl (by unfold I64; omega)) rfl ?_
       refine st rfl rfl (eff_moveg rfl rfl) rfl ?_
       refine st_nil ?_
       exact ⟨rfl, (k11 + 1, t13, mset x10 y12 (IntKind.i64.wrap ((mgetD x10 y12 0) + 1))), ⟨rfl, rfl, rfl, rfl, rfl, rfl, rfl, rfl, trivial⟩, ⟨rfl, rfl, trivial⟩, rfl, ⟨hd, hR⟩, by simp⟩
      ·replace h4 : (decide (((k11 : Nat) : Int) < (List.length r1.1 : Int))) = false := h4
       obtain rfl := drop_nil hd (decF h4)
       rw [s10_l2] at hR
       refine aw_exit ?_
       refine aw_seq ?_
       refine aw_seq ?_
       refine aw_region [.p, .r, .p, .r, .p, .p, .r, .p, .p, .r, .p, .p, .p, .p, .p, .p, .r, .p, .r, .p, .r, .p, .p, .p, .p, .p, .r, .p, .p, .p, .r, .p, .p, .p] ?_
       refine st rfl rfl (eff_moveM rfl rfl) rfl ?_
       refine st_r rfl rfl (eff_lookup (kf := Value.string) (vf := (fun v => G.int v)) (m := x10) (k := ⟨#[114, 101, 116, 117, 114, 110, 101, 100]⟩) (z := 0) rfl Tryz.underlying106 Tryz.underlying9 zr3 (fun _ _ => rfl) rfl rfl rfl) rfl ?_
       refine st rfl rfl (eff_moveM rfl rfl) rfl ?_
       refine st_r rfl rfl (eff_lookup (kf := Value.string) (vf := (fun v => G.int v)) (m := x10) (k := ⟨#[102, 108, 111, 119, 110]⟩) (z := 0) rfl Tryz.underlying106 Tryz.underlying9 zr3 (fun _ _ => rfl) rfl rfl rfl) rfl ?_
       refine st rfl rfl (eff_addw rfl rfl rfl) rfl ?_
       refine st rfl rfl (eff_moveM rfl rfl) rfl ?_
       refine st_r rfl rfl (eff_lookup (kf := Value.string) (vf := (fun v => G.int v)) (m := x10) (k := ⟨#[101, 120, 99, 117, 115, 101, 100]⟩) (z := 0) rfl Tryz.underlying106 Tryz.underlying9 zr3 (fun _ _ => rfl) rfl rfl rfl) rfl ?_
       refine st rfl rfl (eff_addw rfl rfl rfl) rfl ?_
       refine st rfl rfl (eff_moveM rfl rfl) rfl ?_
       refine st_r rfl rfl (eff_lookup (kf := Value.string) (vf := (fun v => G.int v)) (m := x10) (k := ⟨#[109, 105, 115, 115, 101, 100]⟩) (z := 0) rfl Tryz.underlying106 Tryz.underlying9 zr3 (fun _ _ => rfl) rfl rfl rfl) rfl ?_
       refine st rfl rfl (eff_addw rfl rfl rfl) rfl ?_
       refine st rfl rfl (eff_moveg rfl rfl) rfl ?_
       refine st rfl rfl (eff_lenM (f := S151.c) (l := a1) rfl Tryz.underlying25 rfl) rfl ?_
       refine st rfl rfl (eff_neq rfl rfl rfl) rfl ?_
       refine st rfl rfl (eff_moveg rfl rfl) rfl ?_
       refine st_g rfl rfl rfl (gb_bool _ _) (fun h => eff_fieldO rfl fl56_0 rfl) rfl ?_
       refine st_gr rfl rfl rfl (gb_bool _ _) (fun h => eff_loadO rfl ty3 (gd h rfl) rfl rfl) rfl ?_
       refine st_g rfl rfl rfl (gb_bool _ _) (fun h => eff_moveM rfl rfl) rfl ?_
       refine st_gr rfl rfl rfl (gb_bool _ _) (fun h => eff_lookup (kf := Value.string) (vf := (fun v => G.int v)) (m := x10) (k := ⟨#[102, 108, 111, 119, 110]⟩) (z := 0) rfl Tryz.underlying106 Tryz.underlying9 zr3 (fun _ _ => rfl) (gd h rfl) rfl rfl) rfl ?_
       refine st_g rfl rfl rfl (gb_bool _ _) (fun h => eff_moveM rfl rfl) rfl ?_
       refine st_gr rfl rfl rfl (gb_bool _ _) (fun h => eff_lookup (kf := Value.string) (vf := (fun v => G.int v)) (m := x10) (k := ⟨#[101, 120, 99, 117, 115, 101, 100]⟩) (z := 0) rfl Tryz.underlying106 Tryz.underlying9 zr3 (fun _ _ => rfl) (gd h rfl) rfl rfl) rfl ?_
       refine st_g rfl rfl rfl (gb_bool _ _) (fun h => eff_addw rfl (gd h rfl) (gd h rfl)) rfl ?_
       refine st_g rfl rfl rfl (gb_bool _ _) (fun h => eff_neq rfl (gd h rfl) (gd h rfl)) rfl ?_
       refine st rfl rfl (eff_or rfl rfl rfl rfl) rfl ?_
       refine st rfl rfl (eff_moveg rfl rfl) rfl ?_
       refine st_g rfl rfl rfl (gb_bool _ _) (fun h => eff_fieldO rfl fl56_1 rfl) rfl ?_
       refine st_gr rfl rfl rfl (gb_bool _ _) (fun h => eff_loadO rfl ty3 (gd h rfl) rfl rfl) rfl ?_
       refine st_g rfl rfl rfl (gb_bool _ _) (fun h => eff_moveg rfl rfl) rfl ?_
       refine st_g rfl rfl rfl (gb_bool _ _) (fun h => eff_lenM (f := S151.c) (l := a1) rfl Tryz.underlying25 (gd h rfl)) rfl ?_
       refine st_g rfl rfl rfl (gb_bool _ _) (fun h => eff_moveM rfl rfl) rfl ?_
       refine st_gr rfl rfl rfl (gb_bool _ _) (fun h => eff_lookup (kf := Value.string) (vf := (fun v => G.int v)) (m := x10) (k := ⟨#[114, 101, 116, 117, 114, 110, 101, 100]⟩) (z := 0) rfl Tryz.underlying106 Tryz.underlying9 zr3 (fun _ _ => rfl) (gd h rfl) rfl rfl) rfl ?_
       refine st_g rfl rfl rfl (gb_bool _ _) (fun h => eff_subw rfl (gd h rfl) (gd h rfl)) rfl ?_
       refine st_g rfl rfl rfl (gb_bool _ _) (fun h => eff_neq rfl (gd h rfl) (gd h rfl)) rfl ?_
       refine st rfl rfl (eff_or rfl rfl rfl rfl) rfl ?_
       refine st_nil ?_
       refine aw_cond _ rfl (fun h6 => ?_) (fun h6 => ?_)
       ·replace h6 : (((decide (IntKind.i64.wrap ((IntKind.i64.wrap ((IntKind.i64.wrap ((mgetD x10 (⟨#[114, 101, 116, 117, 114, 110, 101, 100]⟩) 0) + (mgetD x10 (⟨#[102, 108, 111, 119, 110]⟩) 0))) + (mgetD x10 (⟨#[101, 120, 99, 117, 115, 101, 100]⟩) 0))) + (mgetD x10 (⟨#[109, 105, 115, 115, 101, 100]⟩) 0)) ≠ (List.length a1 : Int))) || (decide (r2.1.Flown ≠ IntKind.i64.wrap ((mgetD x10 (⟨#[102, 108, 111, 119, 110]⟩) 0) + (mgetD x10 (⟨#[101, 120, 99, 117, 115, 101, 100]⟩) 0))))) || (decide (r2.1.Due ≠ IntKind.i64.wrap ((List.length a1 : Int) - (mgetD x10 (⟨#[114, 101, 116, 117, 114, 110, 101, 100]⟩) 0))))) = true := h6
        replace hR := condT hR h6
        try simp only [Bool.or_eq_true, Bool.and_eq_true, Bool.or_eq_false_iff, Bool.and_eq_false_iff, Bool.not_eq_true', Bool.not_eq_false', decide_eq_true_eq, decide_eq_false_iff_not] at h6
        refine aw_seq ?_
        refine aw_region [.p] ?_
        refine st rfl rfl (eff_assigng rfl rfl) rfl ?_
        refine st_nil ?_
        refine aw_ret ?_
        exact res_e (res_c rfl (rv_g rfl)) (congrArg (fun R_ => G.bool R_) (Option.some.inj hR))
       ·replace h6 : (((decide (IntKind.i64.wrap ((IntKind.i64.wrap ((IntKind.i64.wrap ((mgetD x10 (⟨#[114, 101, 116, 117, 114, 110, 101, 100]⟩) 0) + (mgetD x10 (⟨#[102, 108, 111, 119, 110]⟩) 0))) + (mgetD x10 (⟨#[101, 120, 99, 117, 115, 101, 100]⟩) 0))) + (mgetD x10 (⟨#[109, 105, 115, 115, 101, 100]⟩) 0)) ≠ (List.length a1 : Int))) || (decide (r2.1.Flown ≠ IntKind.i64.wrap ((mgetD x10 (⟨#[102, 108, 111, 119, 110]⟩) 0) + (mgetD x10 (⟨#[101, 120, 99, 117, 115, 101, 100]⟩) 0))))) || (decide (r2.1.Due ≠ IntKind.i64.wrap ((List.length a1 : Int) - (mgetD x10 (⟨#[114, 101, 116, 117, 114, 110, 101, 100]⟩) 0))))) = false := h6
        replace hR := condF hR h6
        try simp only [Bool.or_eq_true, Bool.and_eq_true, Bool.or_eq_false_iff, Bool.and_eq_false_iff, Bool.not_eq_true', Bool.not_eq_false', decide_eq_true_eq, decide_eq_false_iff_not] at h6
        refine aw_skip ?_
        refine aw_seq ?_
        refine Exists.elim (bindO_inv hR) (fun r14 hq_ => ?_)
        have br14 := hq_.1
        replace hR := hq_.2
        clear hq_
        refine aw_draw [.p, .p, .p, .p, .p, .p, .p, .p, .w, .w, .p] (by kernel_rfl) ?_
        refine st rfl rfl (eff_loadA rfl ty24 rfl rfl rfl) rfl ?_
        refine st rfl rfl (eff_moveg rfl rfl) rfl ?_
        refine st rfl rfl (eff_moveg rfl rfl) rfl ?_
        refine st rfl rfl (eff_slD (f := S104.c) (l := a2) rfl Tryz.underlying26 ty105 rfl (bnd_some rfl (by omega)) (by omega)) rfl ?_
        refine st rfl rfl (eff_call rfl K58 rfl (c58 a0 a1 (List.drop (Int.toNat 1) a2) (fun _ => ⟨by omega, (by first | omega | (simp; omega))⟩) (by omega) (by first | omega | (simp; omega)) br14) (ag_cons rfl (ag_cons rfl (ag_cons rfl ag_nil)))) rfl ?_
        refine st rfl rfl (eff_moveg rfl rfl) rfl ?_
        refine st rfl rfl (eff_extract rfl rfl rfl) rfl ?_
        refine st rfl rfl (eff_extract rfl rfl rfl) rfl ?_
        refine st_w rfl rfl (eff_alloc 18 rfl z56 rfl rfl) rfl ?_
        refine st_wn rfl rfl (eff_store (tv := .g (G.agg [G.int r14.1.Flown, G.int r14.1.Due])) rfl ty56 rfl rfl rfl rfl rfl) ?_
        refine st rfl rfl (eff_assigng rfl rfl) rfl ?_
        refine st_nil ?_
        refine aw_seq ?_
        refine aw_seq ?_
        refine aw_region [.p, .p] ?_
        refine st rfl rfl (eff_moveg rfl rfl) rfl ?_
        refine st rfl rfl (eff_neq rfl rfl rfl) rfl ?_
        refine st_nil ?_
        refine aw_cond _ rfl (fun h7 => ?_) (fun h7 => ?_)
        ·replace h7 : (decide (r14.2 ≠ 0)) = true := h7
         replace hR := condT hR h7
         try simp only [decide_eq_true_eq] at h7
         refine aw_seq ?_
         refine aw_region [.p] ?_
         refine st rfl rfl (eff_assigng rfl rfl) rfl ?_
         refine st_nil ?_
         refine aw_ret ?_
         exact res_e (res_c rfl (rv_g rfl)) (congrArg (fun R_ => G.bool R_) (Option.some.inj hR))
        ·replace h7 : (decide (r14.2 ≠ 0)) = false := h7
         replace hR := condF hR h7
         try simp only [decide_eq_false_iff_not] at h7
         refine aw_skip ?_
         refine aw_cut_g (γ := Unit) (fun g => ([(1, .g (G.sl 3 (List.map S151.c a1))), (2, .g (G.sl 8 (List.map S104.c a2))), (3, .g (G.ref [G.int a0.Before, G.int a0.After, G.int a0.Notice, G.int a0.Share, G.sl 1 (List.map cStr a0.Causes), G.int a0.Off, G.int a0.Run])), (9, .ptr 9 0)], [(9, .box [.g (G.int r2.1.Flown), .g (G.int r2.1.Due)])])) (fun g => s10_j1 a0 a1 a2 r2 = some R) ?_ ?_
         ·refine aw_seq ?_
          refine Exists.elim (bindO_inv hR) (fun y23 hq_ => ?_)
          have by23 := hq_.1
          replace hR := hq_.2
          clear hq_
          refine aw_region [.p, .p, .p, .p, .p] ?_
          refine st rfl rfl (eff_moveg rfl rfl) rfl ?_
          refine st rfl rfl (eff_ix (f := S104.c) (l := a2) (a := y23) rfl Tryz.underlying26 ty105 rfl rfl (ixO_nn by23) (ixO_get by23)) rfl ?_
          refine st rfl rfl (eff_fieldAddr rfl fl105_0 rfl) rfl ?_
          refine st rfl rfl (eff_load rfl ty9 rfl) rfl ?_
          refine st rfl rfl (eff_seq rfl rfl rfl) rfl ?_
          refine st_nil ?_
          refine aw_cond _ rfl (fun h12 => ?_) (fun h12 => ?_)
          ·replace h12 : (decide (y23.Kind = (⟨#[98, 97, 99, 107]⟩))) = true := h12
           replace hR := condT hR h12
           try simp only [decide_eq_true_eq] at h12
           refine aw_seq ?_
           refine aw_region [.p, .r, .p, .r, .p] ?_
           refine st rfl rfl (eff_fieldO rfl fl56_1 rfl) rfl ?_
           refine st_r rfl rfl (eff_loadO rfl ty3 rfl rfl rfl) rfl ?_
           refine st rfl rfl (eff_fieldO rfl fl56_1 rfl) rfl ?_
           refine st_r rfl rfl (eff_loadO rfl ty3 rfl rfl rfl) rfl ?_
           refine st rfl rfl (eff_lss rfl rfl rfl) rfl ?_
           refine st_nil ?_
           refine aw_cond _ rfl (fun h13 => ?_) (fun h13 => ?_)
           ·replace h13 : (decide (r14.1.Due < r2.1.Due)) = true := h13
            replace hR := condT hR h13
            try simp only [decide_eq_true_eq] at h13
            refine aw_seq ?_
            refine aw_region [.p] ?_
            refine st rfl rfl (eff_assigng rfl rfl) rfl ?_
            refine st_nil ?_
            refine aw_ret ?_
            exact res_e (res_c rfl (rv_g rfl)) (congrArg (fun R_ => G.bool R_) (Option.some.inj hR))
           ·replace h13 : (decide (r14.1.Due < r2.1.Due)) = false := h13
            replace hR := condF hR h13
            try simp only [decide_eq_false_iff_not] at h13
            refine aw_skip ?_
            exact ⟨rfl, (), ⟨rfl, rfl, rfl, rfl, trivial⟩, ⟨rfl, trivial⟩, rfl, hR, trivial⟩
          ·replace h12 : (decide (y23.Kind = (⟨#[98, 97, 99, 107]⟩))) = false := h12
           replace hR := condF hR h12
           try simp only [decide_eq_false_iff_not] at h12
           refine aw_seq ?_
           refine aw_region [.p, .r, .p, .r, .p, .p, .p, .r, .p, .r, .p, .p] ?_
           refine st rfl rfl (eff_fieldO rfl fl56_1 rfl) rfl ?_
           refine st_r rfl rfl (eff_loadO rfl ty3 rfl rfl rfl) rfl ?_
           refine st rfl rfl (eff_fieldO rfl fl56_1 rfl) rfl ?_
           refine st_r rfl rfl (eff_loadO rfl ty3 rfl rfl rfl) rfl ?_
           refine st rfl rfl (eff_neq rfl rfl rfl) rfl ?_
           refine st rfl rfl (eff_moveg rfl rfl) rfl ?_
           refine st_g rfl rfl rfl (gb_bool _ _) (fun h => eff_fieldO rfl fl56_0 rfl) rfl ?_
           refine st_gr rfl rfl rfl (gb_bool _ _) (fun h => eff_loadO rfl ty3 (gd h rfl) rfl rfl) rfl ?_
           refine st_g rfl rfl rfl (gb_bool _ _) (fun h => eff_fieldO rfl fl56_0 rfl) rfl ?_
           refine st_gr rfl rfl rfl (gb_bool _ _) (fun h => eff_loadO rfl ty3 (gd h rfl) rfl rfl) rfl ?_
           refine st_g rfl rfl rfl (gb_bool _ _) (fun h => eff_gtr rfl (gd h rfl) (gd h rfl)) rfl ?_
           refine st rfl rfl (eff_or rfl rfl rfl rfl) rfl ?_
           refine st_nil ?_
           refine aw_cond _ rfl (fun h14 => ?_) (fun h14 => ?_)
           ·replace h14 : ((decide (r14.1.Due ≠ r2.1.Due)) || (decide (r2.1.Flown < r14.1.Flown))) = true := h14
            replace hR := condT hR h14
            try simp only [Bool.or_eq_true, Bool.and_eq_true, Bool.or_eq_false_iff, Bool.and_eq_false_iff, Bool.not_eq_true', Bool.not_eq_false', decide_eq_true_eq, decide_eq_false_iff_not] at h14
            refine aw_seq ?_
            refine aw_region [.p] ?_
            refine st rfl rfl (eff_assigng rfl rfl) rfl ?_
            refine st_nil ?_
            refine aw_ret ?_
            exact res_e (res_c rfl (rv_g rfl)) (congrArg (fun R_ => G.bool R_) (Option.some.inj hR))
           ·replace h14 : ((decide (r14.1.Due ≠ r2.1.Due)) || (decide (r2.1.Flown < r14.1.Flown))) = false := h14
            replace hR := condF hR h14
            try simp only [Bool.or_eq_true, Bool.and_eq_true, Bool.or_eq_false_iff, Bool.and_eq_false_iff, Bool.not_eq_true', Bool.not_eq_false', decide_eq_true_eq, decide_eq_false_iff_not] at h14
            refine aw_skip ?_
            exact ⟨rfl, (), ⟨rfl, rfl, rfl, rfl, trivial⟩, ⟨rfl, trivial⟩, rfl, hR, trivial⟩
         ·rintro ⟨⟩ hR
          replace hR : s10_j1 a0 a1 a2 r2 = some R := hR
          unfold s10_j1 at hR
          refine aw_seq ?_
          refine Exists.elim (bindO_inv hR) (fun r15 hq_ => ?_)
          have br15 := hq_.1
          replace hR := hq_.2
          clear hq_
          refine aw_region [.p, .p, .p, .p, .p, .p, .p, .p, .p] ?_
          refine st rfl rfl (eff_loadA rfl ty24 rfl rfl rfl) rfl ?_
          refine st rfl rfl (eff_moveg rfl rfl) rfl ?_
          refine st rfl rfl (eff_moveg rfl rfl) rfl ?_
          refine st rfl rfl (eff_call rfl K63 rfl (c63 a0 a1 a2 (fun _ => ⟨by omega, by omega⟩) (by omega) (by omega) hpm63 br15) (ag_cons rfl (ag_cons rfl (ag_cons rfl ag_nil)))) rfl ?_
          refine st rfl rfl (eff_moveg rfl rfl) rfl ?_
          refine st rfl rfl (eff_extract rfl rfl rfl) rfl ?_
          refine st rfl rfl (eff_extract rfl rfl rfl) rfl ?_
          refine st rfl rfl (eff_assigng rfl rfl) rfl ?_
          refine st rfl rfl (eff_assigng rfl rfl) rfl ?_
          refine st_nil ?_
          refine aw_seq ?_
          refine aw_seq ?_
          refine aw_region [.p, .p, .p, .p, .p, .p, .p, .p, .p] ?_
          refine st rfl rfl (eff_moveg rfl rfl) rfl ?_
          refine st rfl rfl (eff_neq rfl rfl rfl) rfl ?_
          refine st rfl rfl (eff_moveg rfl rfl) rfl ?_
          refine st_g rfl rfl rfl (gb_bool _ _) (fun h => eff_moveg rfl rfl) rfl ?_
          refine st_g rfl rfl rfl (gb_bool _ _) (fun h => eff_lenM (f := S110.c) (l := r15.1) rfl Tryz.underlying107 (gd h rfl)) rfl ?_
          refine st_g rfl rfl rfl (gb_bool _ _) (fun h => eff_moveg rfl rfl) rfl ?_
          refine st_g rfl rfl rfl (gb_bool _ _) (fun h => eff_lenM (f := S151.c) (l := a1) rfl Tryz.underlying25 (gd h rfl)) rfl ?_
          refine st_g rfl rfl rfl (gb_bool _ _) (fun h => eff_gtr rfl (gd h rfl) (gd h rfl)) rfl ?_
          refine st rfl rfl (eff_or rfl rfl rfl rfl) rfl ?_
          refine st_nil ?_
          refine aw_cond _ rfl (fun h8 => ?_) (fun h8 => ?_)
          ·replace h8 : ((decide (r15.2 ≠ 0)) || (decide ((List.length a1 : Int) < (List.length r15.1 : Int)))) = true := h8
           replace hR := condT hR h8
           try simp only [Bool.or_eq_true, Bool.and_eq_true, Bool.or_eq_false_iff, Bool.and_eq_false_iff, Bool.not_eq_true', Bool.not_eq_false', decide_eq_true_eq, decide_eq_false_iff_not] at h8
           refine aw_seq ?_
           refine aw_region [.p] ?_
           refine st rfl rfl (eff_assigng rfl rfl) rfl ?_
           refine st_nil ?_
           refine aw_ret ?_
           exact res_e (res_c rfl (rv_g rfl)) (congrArg (fun R_ => G.bool R_) (Option.some.inj hR))
          ·replace h8 : ((decide (r15.2 ≠ 0)) || (decide ((List.length a1 : Int) < (List.length r15.1 : Int)))) = false := h8
           replace hR := condF hR h8
           try simp only [Bool.or_eq_true, Bool.and_eq_true, Bool.or_eq_false_iff, Bool.and_eq_false_iff, Bool.not_eq_true', Bool.not_eq_false', decide_eq_true_eq, decide_eq_false_iff_not] at h8
           refine aw_skip ?_
           refine aw_seq ?_
           refine aw_region [.p, .w, .w] ?_
           refine st rfl rfl (eff_build rfl z56 rfl pl56 pb_nil rfl) rfl ?_
           refine st_w rfl rfl (eff_alloc 22 rfl z56 rfl rfl) rfl ?_
           refine st_wn rfl rfl (eff_store (tv := .g (G.agg [G.int 0, G.int 0])) rfl ty56 rfl rfl rfl rfl rfl) ?_
           refine st_nil ?_
           refine aw_seq ?_
           refine aw_seq ?_
           refine aw_region [.p, .p, .p] ?_
           refine st rfl rfl (eff_moveg rfl rfl) rfl ?_
           refine st rfl rfl (eff_lenM (f := S110.c) (l := r15.1) rfl Tryz.underlying107 rfl) rfl ?_
           refine st rfl rfl (eff_moveg rfl rfl) rfl ?_
           refine st_nil ?_
           refine aw_block ?_
           refine aw_loop_g (γ := Nat × (List S110) × Int × Int) (fun g => ([(3, .g (G.ref [G.int a0.Before, G.int a0.After, G.int a0.Notice, G.int a0.Share, G.sl 1 (List.map cStr a0.Causes), G.int a0.Off, G.int a0.Run])), (9, .ptr 9 0), (20, .g (G.sl 4 (List.map S110.c r15.1))), (22, .ptr 22 0), (226, .g (G.sl 4 (List.map S110.c r15.1))), (227, .g (G.int (List.length r15.1 : Int))), (228, .g (G.int ((g.1 : Nat) : Int)))], [(9, .box [.g (G.int r2.1.Flown), .g (G.int r2.1.Due)]), (22, .box [.g (G.int g.2.2.1), .g (G.int g.2.2.2)])])) (fun g => r15.1.drop g.1 = g.2.1 ∧ s10_l3 a0 r2 r15 g.2.1 g.1 g.2.2.1 g.2.2.2 = some R) (fun g => List.length g.2.1) ⟨rfl, (0, r15.1, 0, 0), ⟨rfl, rfl, rfl, rfl, rfl, rfl, rfl, trivial⟩, ⟨rfl, rfl, trivial⟩, rfl, ⟨rfl, hR⟩, trivial⟩ ?_
           ·rintro ⟨k19, t21, x17, x18⟩ ⟨hd, hR⟩
            replace hd : r15.1.drop k19 = t21 := hd
            replace hR : s10_l3 a0 r2 r15 t21 k19 x17 x18 = some R := hR
            refine aw_seq ?_
            refine aw_region [.p] ?_
            refine st rfl rfl (eff_lss rfl rfl rfl) rfl ?_
            refine st_nil ?_
            refine len_sl (f := S110.c) (l := r15.1) 20 rfl fun hlz3 => ?_
            refine aw_seq ?_
            refine aw_cond _ rfl (fun h9 => ?_) (fun h9 => ?_)
            ·replace h9 : (decide (((k19 : Nat) : Int) < (List.length r15.1 : Int))) = true := h9
             obtain ⟨y20, t21, rfl, hx3, hd⟩ := drop_cons hd (decT h9)
             replace h9 := decT h9
             rw [s10_l3] at hR
             try dsimp only at hR
             refine aw_skip ?_
             refine aw_seq ?_
             refine aw_block ?_
             refine aw_seq ?_
             refine aw_region [.p, .p, .p, .w, .p, .w] ?_
             refine st rfl rfl (eff_moveg rfl rfl) rfl ?_
             refine st rfl rfl (eff_ix (f := S110.c) (l := r15.1) (a := y20) rfl Tryz.underlying107 ty111 rfl rfl (Int.natCast_nonneg _) hx3) rfl ?_
             refine st rfl rfl (eff_loadA rfl ty111 rfl rfl rfl) rfl ?_
             refine st_w rfl rfl (eff_alloc 24 rfl z111 rfl rfl) rfl ?_
             refine st rfl rfl (eff_assigng rfl rfl) rfl ?_
             refine st_wn rfl rfl (eff_store (tv := .g (G.agg [G.str y20.Name, G.int y20.Ratio.Flown, G.int y20.Ratio.Due, G.bool y20.Kept])) rfl ty111 rfl rfl rfl rfl rfl) ?_
             refine st_nil ?_
             refine aw_seq ?_
             refine aw_region [.p, .p, .r, .p, .p, .p, .p, .p, .p] ?_
             refine st rfl rfl (eff_loadA rfl ty24 rfl rfl rfl) rfl ?_
             refine st rfl rfl (eff_fieldO rfl fl111_1 rfl) rfl ?_
             refine st_r rfl rfl (eff_loadOA rfl ty56 rfl rfl rfl rfl) rfl ?_
             refine st rfl rfl (eff_call rfl K33 rfl (c33 a0 (S55.mk y20.Ratio.Flown y20.Ratio.Due)) (ag_cons rfl (ag_cons rfl ag_nil))) rfl ?_
             refine st rfl rfl (eff_moveg rfl rfl) rfl ?_
             refine st rfl rfl (eff_extract rfl rfl rfl) rfl ?_
             refine st rfl rfl (eff_extract rfl rfl rfl) rfl ?_
             refine st rfl rfl (eff_assigng rfl rfl) rfl ?_
             refine st rfl rfl (eff_assigng rfl rfl) rfl ?_
             refine st_nil ?_
             refine aw_seq ?_
             refine aw_seq ?_
             refine Exists.elim (bindO_inv hR) (fun y22 hq_ => ?_)
             have by22 := hq_.1
             replace hR := hq_.2
             clear hq_
             refine aw_draw [.p, .p, .p, .p, .p, .r, .p, .p, .p, .p, .p, .p, .p, .r, .p, .p, .p, .p, .p, .p, .p, .p, .p] (by kernel_rfl) ?_
             refine st rfl rfl (eff_moveg rfl rfl) rfl ?_
             refine st rfl rfl (eff_neq rfl rfl rfl) rfl ?_
             refine st rfl rfl (eff_moveg rfl rfl) rfl ?_
             refine st_g rfl rfl rfl (gb_bool _ _) (fun h => eff_moveg rfl rfl) rfl ?_
             refine st_g rfl rfl rfl (gb_bool _ _) (fun h => eff_fieldO rfl fl111_2 rfl) rfl ?_
             refine st_gr rfl rfl rfl (gb_bool _ _) (fun h => eff_loadO rfl ty4 (gd h rfl) rfl rfl) rfl ?_
             refine st_g rfl rfl rfl (gb_bool _ _) (fun h => eff_bneq rfl Tryz.underlying4 (gd h rfl) (gd h rfl)) rfl ?_
             refine st rfl rfl (eff_or rfl rfl rfl rfl) rfl ?_
             refine st rfl rfl (eff_moveg rfl rfl) rfl ?_
             refine st_g rfl rfl rfl (gb_bool _ _) (fun h => eff_moveg rfl rfl) rfl ?_
             refine st_g rfl rfl rfl (gb_bool _ _) (fun h => eff_gtr rfl (gd h rfl) rfl) rfl ?_
             refine st_g rfl rfl rfl (gb_bool _ _) (fun h => eff_moveg rfl (gd h rfl)) rfl ?_
             refine st_g rfl rfl rfl (gb_if _ _ _) (fun h => eff_fieldO rfl fl111_0 rfl) rfl ?_
             refine st_gr rfl rfl rfl (gb_if _ _ _) (fun h => eff_loadO rfl ty9 (gd h rfl) rfl rfl) rfl ?_
             refine st_g rfl rfl rfl (gb_if _ _ _) (fun h => eff_moveg rfl rfl) rfl ?_
             refine st_g rfl rfl rfl (gb_if _ _ _) (fun h => eff_moveg rfl rfl) rfl ?_
             refine st_g rfl rfl rfl (gb_if _ _ _) (fun h => eff_subw rfl (gd h rfl) rfl) rfl ?_
             refine st_g rfl rfl rfl (gb_if _ _ _) (fun h => eff_ix (f := S110.c) (l := r15.1) (a := y22) rfl Tryz.underlying107 ty111 (gd h rfl) (gd h rfl) (ixO_nn (condS by22 h)) (ixO_get (condS by22 h))) rfl ?_
             refine st_g rfl rfl rfl (gb_if _ _ _) (fun h => eff_fieldAddr rfl fl111_0 (gd h rfl)) rfl ?_
             refine st_g rfl rfl rfl (gb_if _ _ _) (fun h => eff_load rfl ty9 (gd h rfl)) rfl ?_
             refine st_g rfl rfl rfl (gb_if _ _ _) (fun h => eff_sle rfl (gd h rfl) (gd h rfl)) rfl ?_
             refine st_g rfl rfl rfl (gb_bool _ _) (fun h => eff_and rfl (gd h rfl) rfl (gd2 h rfl)) rfl ?_
             refine st rfl rfl (eff_or rfl rfl rfl rfl) rfl ?_
             refine st_nil ?_
             refine aw_cond _ rfl (fun h11 => ?_) (fun h11 => ?_)
             ·replace h11 : (((decide ((s33 a0 (S55.mk y20.Ratio.Flown y20.Ratio.Due)).2 ≠ 0)) || (!(((s33 a0 (S55.mk y20.Ratio.Flown y20.Ratio.Due)).1) == y20.Kept))) || ((decide (0 < ((k19 : Nat) : Int))) && (strLt y20.Name y22.Name || decide (y20.Name = y22.Name)))) = true := h11
              replace hR := condT hR h11
              try simp only [Bool.or_eq_true, Bool.and_eq_true, Bool.or_eq_false_iff, Bool.and_eq_false_iff, Bool.not_eq_true', Bool.not_eq_false', decide_eq_true_eq, decide_eq_false_iff_not] at h11
              refine aw_seq ?_
              refine aw_region [.p] ?_
              refine st rfl rfl (eff_assigng rfl rfl) rfl ?_
              refine st_nil ?_
              refine aw_ret ?_
              exact res_e (res_c rfl (rv_g rfl)) (congrArg (fun R_ => G.bool R_) (Option.some.inj hR))
             ·replace h11 : (((decide ((s33 a0 (S55.mk y20.Ratio.Flown y20.Ratio.Due)).2 ≠ 0)) || (!(((s33 a0 (S55.mk y20.Ratio.Flown y20.Ratio.Due)).1) == y20.Kept))) || ((decide (0 < ((k19 : Nat) : Int))) && (strLt y20.Name y22.Name || decide (y20.Name = y22.Name)))) = false := h11
              replace hR := condF hR h11
              try simp only [Bool.or_eq_true, Bool.and_eq_true, Bool.or_eq_false_iff, Bool.and_eq_false_iff, Bool.not_eq_true', Bool.not_eq_false', decide_eq_true_eq, decide_eq_false_iff_not] at h11
              refine aw_skip ?_
              refine aw_region [.p, .r, .p, .p, .r, .p, .p, .r, .p, .p, .r, .p, .p, .w] ?_
              refine st rfl rfl (eff_fieldO rfl fl56_0 rfl) rfl ?_
              refine st_r rfl rfl (eff_loadO rfl ty3 rfl rfl rfl) rfl ?_
              refine st rfl rfl (eff_fieldO rfl fl111_1 rfl) rfl ?_
              refine st rfl rfl (eff_fieldO rfl fl56_0 rfl) rfl ?_
              refine st_r rfl rfl (eff_loadO rfl ty3 rfl rfl rfl) rfl ?_
              refine st rfl rfl (eff_addw rfl rfl rfl) rfl ?_
              refine st rfl rfl (eff_fieldO rfl fl56_1 rfl) rfl ?_
              refine st_r rfl rfl (eff_loadO rfl ty3 rfl rfl rfl) rfl ?_
              refine st rfl rfl (eff_fieldO rfl fl111_1 rfl) rfl ?_
              refine st rfl rfl (eff_fieldO rfl fl56_1 rfl) rfl ?_
              refine st_r rfl rfl (eff_loadO rfl ty3 rfl rfl rfl) rfl ?_
              refine st rfl rfl (eff_addw rfl rfl rfl) rfl ?_
              refine st rfl rfl (eff_build rfl z56 rfl pl56 (pb_cons rfl (pb_cons rfl pb_nil)) rfl) rfl ?_
              refine st_wn rfl rfl (eff_store (tv := .g (G.agg [G.int (IntKind.i64.wrap (x17 + y20.Ratio.Flown)), G.int (IntKind.i64.wrap (x18 + y20.Ratio.Due))])) rfl ty56 rfl rfl rfl rfl rfl) ?_
              refine st_nil ?_
              refine aw_region [.p, .p] ?_
              refine st rfl rfl (eff_add rfl rfl rfl (by unfold I64; omega)) rfl ?_
              refine st rfl rfl (eff_moveg rfl rfl) rfl ?_
              refine st_nil ?_
              exact ⟨rfl, (k19 + 1, t21, IntKind.i64.wrap (x17 + y20.Ratio.Flown), IntKind.i64.wrap (x18 + y20.Ratio.Due)), ⟨rfl, rfl, rfl, rfl, rfl, rfl, rfl, trivial⟩, ⟨rfl, rfl, trivial⟩, rfl, ⟨hd, hR⟩, by simp⟩
            ·replace h9 : (decide (((k19 : Nat) : Int) < (List.length r15.1 : Int))) = false := h9
             obtain rfl := drop_nil hd (decF h9)
             rw [s10_l3] at hR
             refine aw_exit ?_
             refine aw_seq ?_
             refine aw_region [.r, .r, .p, .p] ?_
             refine st_r rfl rfl (eff_loadOA rfl ty56 rfl rfl rfl rfl) rfl ?_
             refine st_r rfl rfl (eff_loadOA rfl ty56 rfl rfl rfl rfl) rfl ?_
             refine st rfl rfl (eff_aeql [.int .i64 x17, .int .i64 x18] [.int .i64 r2.1.Flown, .int .i64 r2.1.Due] rfl flat56 rfl rfl rfl rfl rfl) rfl ?_
             refine st rfl rfl (eff_assigng rfl rfl) rfl ?_
             refine st_nil ?_
             refine aw_ret ?_
             exact res_e (res_c rfl (rv_g rfl)) (congrArg (fun R_ => G.bool R_) (Option.some.inj hR))
end Go.Sim

set_option linter.unusedSimpArgs false
namespace Go.Sim
/-! ## the table of the names, counted -/
section
variable {K V : Type} [DecidableEq K]
theorem mset_mem : ∀ {m : List (K × V)} {k : K} {v : V} {p : K × V}, p ∈ mset m k v → p = (k, v) ∨ p ∈ m
  | [], k, v, p, h => .inl (List.mem_singleton.1 h)
  | (a, b) :: r, k, v, p, h => by
    rw [mset] at h
    by_cases hk : a = k
    · rw [decide_eq_true hk, cond_true] at h
      rcases List.mem_cons.1 h with h | h
      · exact .inl h
      · exact .inr (List.mem_cons_of_mem _ h)
    · rw [decide_eq_false hk, cond_false] at h
      rcases List.mem_cons.1 h with h | h
      · exact .inr (h ▸ List.mem_cons_self)
      · rcases mset_mem h with h | h
        · exact .inl h
        · exact .inr (List.mem_cons_of_mem _ h)
theorem mset_keys : ∀ (m : List (K × V)) (k : K) (v : V), (mset m k v).map Prod.fst = if k ∈ m.map Prod.fst then m.map Prod.fst else m.map Prod.fst ++ [k]
  | [], k, v => by simp [mset]
  | (a, b) :: r, k, v => by
    rw [mset]
    by_cases hk : a = k
    · subst hk; simp
    · have hk' : ¬ k = a := fun e => hk e.symm
      rw [decide_eq_false hk, cond_false, List.map_cons, mset_keys r k v]
      by_cases h : k ∈ r.map Prod.fst
      · rw [if_pos h, if_pos (by simp only [List.map_cons]; exact List.mem_cons_of_mem _ h)]; rfl
      · rw [if_neg h, if_neg (by simp only [List.map_cons, List.mem_cons]; rintro (e | e); exact hk' e; exact h e)]; rfl
theorem mset_nodup {m : List (K × V)} (h : (m.map Prod.fst).Nodup) (k : K) (v : V) : ((mset m k v).map Prod.fst).Nodup := by
  rw [mset_keys]
  by_cases hk : k ∈ m.map Prod.fst
  · rw [if_pos hk]; exact h
  · rw [if_neg hk, List.nodup_append]
    exact ⟨h, by simp, fun a ha b hb => by rw [List.mem_singleton.1 hb]; intro e; exact hk (e ▸ ha)⟩
theorem mget_mem : ∀ {m : List (K × V)} {k : K} {v : V}, mget m k = some v → (k, v) ∈ m
  | [], _, _, h => by cases h
  | (a, b) :: r, k, v, h => by
    rw [mget] at h
    by_cases hk : a = k
    · rw [decide_eq_true hk, cond_true] at h
      cases h; subst hk; exact List.mem_cons_self
    · rw [decide_eq_false hk, cond_false] at h
      exact List.mem_cons_of_mem _ (mget_mem h)
def msum (f : V → Int) (m : List (K × V)) : Int := (m.map fun p => f p.2).sum
theorem msum_mset (f : V → Int) (z : V) (hz : f z = 0) : ∀ (m : List (K × V)) (k : K) (v : V), msum f (mset m k v) = msum f m + f v - f (mgetD m k z)
  | [], k, v => by simp [mset, msum, mgetD, mget, hz]
  | (a, b) :: r, k, v => by
    have ih := msum_mset f z hz r k v
    unfold msum at ih ⊢
    rw [mset]
    by_cases hk : a = k
    · subst hk; simp [mgetD, mget]; omega
    · have e : mgetD ((a, b) :: r) k z = mgetD r k z := by simp [mgetD, mget, hk]
      rw [decide_eq_false hk, cond_false, e, List.map_cons, List.map_cons, List.sum_cons, List.sum_cons, ih]
      omega
end
def tab (l : List (S151 × Int)) (m : List (ByteArray × S55)) : List (ByteArray × S55) := l.foldl (fun m p => mset m p.1.Name (s126 (mgetD m p.1.Name (S55.mk 0 0)) p.2)) m
theorem s63_run (a0 : S23) (a1 : List S151) : ∀ (cs : List Int) (k : Nat) (m : List (ByteArray × S55)), k + cs.length = a1.length → s63_l1 a0 a1 cs k m = s63_e2 (List.foldl (s63_b2 a0) [] (tab ((a1.drop k).zip cs) m))
  | [], k, m, _ => by rw [s63_l1]; simp [tab]
  | c :: cs, k, m, h => by
    rw [List.length_cons] at h
    have hk : k < a1.length := by omega
    have hi : ixO a1 ((k : Nat) : Int) = some a1[k] := ixO_nat (List.getElem?_eq_getElem hk)
    rw [s63_l1, hi]
    simp only [bindO]
    rw [s63_run a0 a1 cs (k + 1) _ (by omega), List.drop_eq_getElem_cons hk]
    rfl
def Bd (n : Int) (m : List (ByteArray × S55)) : Prop := ∀ p ∈ m, 0 ≤ p.2.Flown ∧ p.2.Flown ≤ p.2.Due ∧ p.2.Due ≤ n
theorem Bd.get {n : Int} {m : List (ByteArray × S55)} (h : Bd n m) (hn : 0 ≤ n) (k : ByteArray) : 0 ≤ (mgetD m k (S55.mk 0 0)).Flown ∧ (mgetD m k (S55.mk 0 0)).Flown ≤ (mgetD m k (S55.mk 0 0)).Due ∧ (mgetD m k (S55.mk 0 0)).Due ≤ n := by
  unfold mgetD
  cases hg : mget m k with
  | none => exact ⟨by simp, by simp, by simpa using hn⟩
  | some v => exact h _ (mget_mem hg)
theorem isF_D {c : Int} (h : isF c = true) : isD c = true := by
  unfold isF at h; unfold isD
  simp at h ⊢; omega
theorem tab_ok : ∀ (l : List (S151 × Int)) (m : List (ByteArray × S55)) (n : Int), 0 ≤ n → n + l.length ≤ 1000 → Bd n m → (m.map Prod.fst).Nodup →
    Bd (n + l.length) (tab l m) ∧ ((tab l m).map Prod.fst).Nodup ∧ (tab l m).length ≤ m.length + l.length ∧ msum S55.Flown (tab l m) = msum S55.Flown m + ((l.map Prod.snd).countP isF : Nat) ∧ msum S55.Due (tab l m) = msum S55.Due m + ((l.map Prod.snd).countP isD : Nat)
  | [], m, n, h0, h1, hb, hn => ⟨by simpa [tab] using hb, hn, by simp [tab], by simp [tab], by simp [tab]⟩
  | (s, c) :: l, m, n, h0, h1, hb, hn => by
    rw [List.length_cons] at h1
    obtain ⟨g1, g2, g3⟩ := hb.get h0 s.Name
    have hs : s126 (mgetD m s.Name (S55.mk 0 0)) c = S55.mk (bif isF c then (mgetD m s.Name (S55.mk 0 0)).Flown + 1 else (mgetD m s.Name (S55.mk 0 0)).Flown) (bif isD c then (mgetD m s.Name (S55.mk 0 0)).Due + 1 else (mgetD m s.Name (S55.mk 0 0)).Due) := by
      rw [← s126_eq (x := (mgetD m s.Name (S55.mk 0 0)).Flown) (y := (mgetD m s.Name (S55.mk 0 0)).Due) ⟨g1, by omega⟩ ⟨by omega, by omega⟩]
    have hb' : Bd (n + 1) (mset m s.Name (s126 (mgetD m s.Name (S55.mk 0 0)) c)) := by
      intro p hp
      rcases mset_mem hp with rfl | hp
      · rw [hs]
        cases hF : isF c
        · cases hD : isD c <;> simp <;> omega
        · rw [isF_D hF]; simp; omega
      · have := hb p hp; omega
    obtain ⟨k1, k2, k3, k4, k5⟩ := tab_ok l _ (n + 1) (by omega) (by omega) hb' (mset_nodup hn _ _)
    have ht : tab ((s, c) :: l) m = tab l (mset m s.Name (s126 (mgetD m s.Name (S55.mk 0 0)) c)) := rfl
    rw [ht]
    have hl := mset_len m s.Name (s126 (mgetD m s.Name (S55.mk 0 0)) c)
    refine ⟨?_, k2, by rw [List.length_cons]; omega, ?_, ?_⟩
    · rw [List.length_cons]
      have e : n + 1 + (l.length : Int) = n + ((l.length + 1 : Nat) : Int) := by omega
      rw [← e]; exact k1
    · rw [k4, msum_mset S55.Flown (S55.mk 0 0) rfl, hs, List.map_cons, List.countP_cons]
      cases isF c <;> simp <;> omega
    · rw [k5, msum_mset S55.Due (S55.mk 0 0) rfl, hs, List.map_cons, List.countP_cons]
      cases isD c <;> simp <;> omega

/-! ## the rows -/
def rows (a0 : S23) (m : List (ByteArray × S55)) : List S110 := isort ltR (m.map (rowOf a0))
theorem rows_perm (a0 : S23) (m : List (ByteArray × S55)) : (rows a0 m).Perm (m.map (rowOf a0)) := isort_perm _ _
theorem rows_lt (a0 : S23) {m : List (ByteArray × S55)} (hn : (m.map Prod.fst).Nodup) : (rows a0 m).Pairwise (fun a b => strLt a.Name b.Name = true) := by
  have h1 : ((rows a0 m).map S110.Name).Nodup := by
    rw [((rows_perm a0 m).map S110.Name).nodup_iff, List.map_map]
    exact hn
  have h2 : (rows a0 m).Pairwise (fun a b => a.Name ≠ b.Name) := List.pairwise_map.1 h1
  refine (isortR_sorted (m.map (rowOf a0))).imp₂ (fun a b h k => ?_) h2
  cases hc : strLt a.Name b.Name
  · exact absurd (sl_tri hc h) k
  · rfl
theorem s84_zeroA : ∀ {l : List Int}, (∀ x ∈ l, x = 0) → s84 l = 0 := by
  intro l h
  have key : ∀ (l : List Int) (k : Nat), (∀ x ∈ l, x = 0) → s84_l1 l k = 0 := by
    intro l
    induction l with
    | nil => intro k _; rfl
    | cons y l ih =>
      intro k h
      rw [s84_l1, decide_eq_false (by simpa using h y List.mem_cons_self), cond_false]
      exact ih _ fun x hx => h x (List.mem_cons_of_mem _ hx)
  exact key l 0 h
theorem s85_zeroA {a b c : Int} (h : b ≤ a) (h2 : a ≤ c) : s85 a b c = 0 := by
  unfold s85 s86
  rw [decide_eq_false (by omega), decide_eq_false (by omega)]
  rfl
theorem kept_ok {a0 : S23} (h0 : s23 a0 = 0) {x : S55} (h1 : 0 ≤ x.Flown) (h2 : x.Flown ≤ x.Due) (h3 : x.Due ≤ 512) : s33 a0 x = (s106 a0 x, 0) := by
  have h : s105 a0 x = 0 := by
    unfold s105
    refine s84_zeroA fun y hy => ?_
    simp only [List.mem_cons, List.not_mem_nil, or_false] at hy
    rcases hy with rfl | rfl | rfl | rfl
    · exact h0
    · exact s85_zeroA h1 (by omega)
    · exact s85_zeroA (by omega) h3
    · unfold s86; rw [decide_eq_false (by omega)]; rfl
  unfold s33
  rw [h]
  rfl
end Go.Sim

set_option linter.unusedSimpArgs false
namespace Go.Sim
/-! ## UseOrders: the law -/
theorem perm_sum {l l' : List Int} (h : l.Perm l') : l.sum = l'.sum := by
  induction h with
  | nil => rfl
  | cons x _ ih => rw [List.sum_cons, List.sum_cons, ih]
  | swap x y l => simp only [List.sum_cons]; omega
  | trans _ _ h1 h2 => exact h1.trans h2
theorem sum_nonneg : ∀ {l : List Int}, (∀ x ∈ l, 0 ≤ x) → 0 ≤ l.sum
  | [], _ => by simp
  | x :: l, h => by
    have h1 := h x List.mem_cons_self
    have h2 := sum_nonneg (l := l) fun y hy => h y (List.mem_cons_of_mem _ hy)
    rw [List.sum_cons]; omega
theorem l3_ok {a0 : S23} (h0 : s23 a0 = 0) {r2 : S55 × Int} {r15 : List S110 × Int} (hL : r15.1.Pairwise (fun a b => strLt a.Name b.Name = true)) (hK : ∀ y ∈ r15.1, y.Kept = s106 a0 y.Ratio ∧ 0 ≤ y.Ratio.Flown ∧ y.Ratio.Flown ≤ y.Ratio.Due ∧ y.Ratio.Due ≤ 512)
    (hlen : r15.1.length ≤ 1000) (hF : r2.1.Flown ≤ 1000) (hD : r2.1.Due ≤ 1000) : ∀ (rest : List S110) (k : Nat) (x y : Int), r15.1.drop k = rest → 0 ≤ x → 0 ≤ y → x + (rest.map fun z => z.Ratio.Flown).sum = r2.1.Flown → y + (rest.map fun z => z.Ratio.Due).sum = r2.1.Due → s10_l3 a0 r2 r15 rest k x y = some true
  | [], k, x, y, _, _, _, h1, h2 => by
    simp only [List.map_nil, List.sum_nil, Int.add_zero] at h1 h2
    rw [s10_l3, h1, h2]
    simp [eqAnd]
  | z :: rest, k, x, y, hd, hx, hy, h1, h2 => by
    have hk : r15.1[k]? = some z := by
      have : (r15.1.drop k)[0]? = some z := by rw [hd]; rfl
      simpa using this
    have hd' : r15.1.drop (k + 1) = rest := by
      have : r15.1.drop (k + 1) = (r15.1.drop k).drop 1 := by rw [List.drop_drop]
      rw [this, hd]; rfl
    have hm : ∀ q ∈ rest, q ∈ r15.1 := fun q hq => List.mem_of_mem_drop (i := k + 1) (by rw [hd']; exact hq)
    obtain ⟨k1, k2, k3, k4⟩ := hK z (List.mem_of_getElem? hk)
    have hs := kept_ok h0 (x := z.Ratio) k2 k3 k4
    have n1 : 0 ≤ (rest.map fun z => z.Ratio.Flown).sum := sum_nonneg fun q hq => by
      obtain ⟨w, hw, rfl⟩ := List.mem_map.1 hq; exact (hK w (hm w hw)).2.1
    have n2 : 0 ≤ (rest.map fun z => z.Ratio.Due).sum := sum_nonneg fun q hq => by
      obtain ⟨w, hw, rfl⟩ := List.mem_map.1 hq; have := hK w (hm w hw); omega
    rw [List.map_cons, List.sum_cons] at h1 h2
    have w1 : IntKind.i64.wrap (x + z.Ratio.Flown) = x + z.Ratio.Flown := wrap_i64 ⟨by omega, by omega⟩
    have w2 : IntKind.i64.wrap (y + z.Ratio.Due) = y + z.Ratio.Due := wrap_i64 ⟨by omega, by omega⟩
    have ih := l3_ok h0 hL hK hlen hF hD rest (k + 1) (x + z.Ratio.Flown) (y + z.Ratio.Due) hd' (by omega) (by omega) (by omega) (by omega)
    rw [s10_l3, show s33 a0 (S55.mk z.Ratio.Flown z.Ratio.Due) = (s106 a0 z.Ratio, 0) from hs, w1, w2, k1]
    have e1 : decide ((0 : Int) ≠ 0) = false := by decide
    have e2 : (s106 a0 z.Ratio == s106 a0 z.Ratio) = true := by simp
    simp only [e1, e2, Bool.not_true, Bool.false_or, Bool.not_false, Bool.true_and]
    cases k with
    | zero =>
      have e3 : decide ((0 : Int) < ((0 : Nat) : Int)) = false := by decide
      simp only [e3, cond_false, bindO, Bool.false_and]
      exact ih
    | succ j =>
      have e3 : decide ((0 : Int) < ((j + 1 : Nat) : Int)) = true := decide_eq_true (by omega)
      have hlt := (List.getElem?_eq_some_iff.1 hk).1
      have w3 : IntKind.i64.wrap (((j + 1 : Nat) : Int) - 1) = (j : Int) := by
        rw [wrap_i64 ⟨by omega, by omega⟩]; omega
      have hj : r15.1[j]? = some r15.1[j] := List.getElem?_eq_getElem (by omega)
      have hz : z = r15.1[j + 1] := by rw [List.getElem?_eq_getElem hlt] at hk; exact (Option.some.inj hk).symm
      have hlt2 := List.pairwise_iff_getElem.1 hL j (j + 1) (by omega) hlt (by omega)
      rw [← hz] at hlt2
      have e4 : strLt z.Name r15.1[j].Name = false := by
        cases hc : strLt z.Name r15.1[j].Name
        · rfl
        · exact (sl_as hlt2 hc).elim
      have e5 : decide (z.Name = r15.1[j].Name) = false := by
        refine decide_eq_false fun e => ?_
        rw [e, sl_irr] at hlt2; cases hlt2
      simp only [e3, cond_true, w3, ixO_nat hj, bindO, e4, e5, Bool.or_self, Bool.and_false, cond_false]
      exact ih
theorem map_sum {α : Type} (f : α → Int) {l l' : List α} (h : l.Perm l') : (l.map f).sum = (l'.map f).sum := perm_sum (h.map f)
theorem j1_ok {a0 : S23} {a1 : List S151} {a2 : List S104} {r : List Int} (h122 : s122 a0 a1 a2 = 0) (h124 : s124 a0 a1 a2 = some r) (hlen : r.length = a1.length) (hl : a1.length ≤ 12) (e : Int) :
    s10_j1 a0 a1 a2 (S55.mk (r.countP isF : Nat) (r.countP isD : Nat), e) = some true := by
  have h0 := (s122_ok h122).1
  have hz : ((a1.drop 0).zip r).length = a1.length := by simp [List.length_zip, hlen]
  have hsnd : ((a1.drop 0).zip r).map Prod.snd = r := by
    rw [List.drop_zero]; exact List.map_snd_zip (by omega)
  obtain ⟨t1, t2, t3, t4, t5⟩ := tab_ok ((a1.drop 0).zip r) [] 0 (Int.le_refl _) (by rw [hz]; omega) (fun p hp => by cases hp) List.nodup_nil
  rw [hz] at t1 t3
  rw [hsnd] at t4 t5
  have e63 : s63 a0 a1 a2 = some (rows a0 (tab ((a1.drop 0).zip r) []), 0) := by
    unfold s63
    rw [decide_eq_false (by simpa using h122), cond_false, h124]
    simp only [bindO]
    rw [s63_run a0 a1 r 0 [] (by omega), b2_map, e2_eq]
    rfl
  generalize hm : tab ((a1.drop 0).zip r) [] = m at *
  have hrl : (rows a0 m).length = m.length := by rw [(rows_perm a0 m).length_eq, List.length_map]
  have hcF : r.countP isF ≤ r.length := List.countP_le_length
  have hcD : r.countP isD ≤ r.length := List.countP_le_length
  have sF : ((rows a0 m).map fun z => z.Ratio.Flown).sum = (r.countP isF : Nat) := by
    rw [map_sum _ (rows_perm a0 m), List.map_map]
    have : msum S55.Flown m = (m.map ((fun z : S110 => z.Ratio.Flown) ∘ rowOf a0)).sum := rfl
    rw [← this, t4]
    simp [msum]
  have sD : ((rows a0 m).map fun z => z.Ratio.Due).sum = (r.countP isD : Nat) := by
    rw [map_sum _ (rows_perm a0 m), List.map_map]
    have : msum S55.Due m = (m.map ((fun z : S110 => z.Ratio.Due) ∘ rowOf a0)).sum := rfl
    rw [← this, t5]
    simp [msum]
  unfold s10_j1
  rw [e63]
  simp only [bindO]
  have c1 : decide ((0 : Int) ≠ 0) = false := by decide
  have c2 : decide ((List.length a1 : Int) < (List.length (rows a0 m) : Int)) = false := decide_eq_false (by rw [hrl]; simp at t3; omega)
  rw [c1, c2, Bool.or_self, cond_false]
  refine l3_ok h0 (rows_lt a0 t2) (fun y hy => ?_) (by rw [hrl]; simp at t3; omega) (by show ((r.countP isF : Nat) : Int) ≤ 1000; omega) (by show ((r.countP isD : Nat) : Int) ≤ 1000; omega) _ 0 0 0 rfl (Int.le_refl _) (Int.le_refl _) (by rw [Int.zero_add]; exact sF) (by rw [Int.zero_add]; exact sD)
  obtain ⟨p, hp, rfl⟩ := List.mem_map.1 ((rows_perm a0 m).mem_iff.1 hy)
  have := t1 p hp
  exact ⟨rfl, this.1, this.2.1, by show p.2.Due ≤ 512; omega⟩

/-! ### the numbers of the states -/
def cntM (l : List ByteArray) (m : List (ByteArray × Int)) : List (ByteArray × Int) := l.foldl (fun m y => mset m y (mgetD m y 0 + 1)) m
theorem cntM_get : ∀ (l : List ByteArray) (m : List (ByteArray × Int)) (w : ByteArray), mgetD (cntM l m) w 0 = mgetD m w 0 + ((l.countP fun y => decide (y = w) : Nat) : Int)
  | [], m, w => by simp [cntM]
  | y :: l, m, w => by
    have : cntM (y :: l) m = cntM l (mset m y (mgetD m y 0 + 1)) := rfl
    rw [this, cntM_get l, mgetD_mset, List.countP_cons]
    by_cases h : y = w
    · subst h; simp; omega
    · simp [h]
theorem l2_run (a0 : S23) (a1 : List S151) (a2 : List S104) (r2 : S55 × Int) : ∀ (l : List ByteArray) (k : Nat) (m : List (ByteArray × Int)), (∀ w, 0 ≤ mgetD m w 0 ∧ mgetD m w 0 + l.length ≤ 1000) → s10_l2 a0 a1 a2 r2 l k m = s10_l2 a0 a1 a2 r2 [] (k + l.length) (cntM l m)
  | [], k, m, _ => rfl
  | y :: l, k, m, h => by
    have hy := h y
    rw [List.length_cons] at hy
    conv => lhs; rw [s10_l2]
    rw [wrap_i64 (n := mgetD m y 0 + 1) ⟨by omega, by omega⟩, l2_run a0 a1 a2 r2 l (k + 1) _ fun w => ?_]
    · rw [List.length_cons, Nat.add_right_comm]; rfl
    · have hw := h w
      rw [List.length_cons] at hw
      rw [mgetD_mset]
      by_cases e : y = w
      · subst e; rw [if_pos rfl]; omega
      · rw [if_neg e]; omega
abbrev wRet : ByteArray := ⟨#[114, 101, 116, 117, 114, 110, 101, 100]⟩
abbrev wFly : ByteArray := ⟨#[102, 108, 111, 119, 110]⟩
abbrev wExc : ByteArray := ⟨#[101, 120, 99, 117, 115, 101, 100]⟩
abbrev wMis : ByteArray := ⟨#[109, 105, 115, 115, 101, 100]⟩
def cw (w : ByteArray) (cs : List Int) : Nat := (cs.map stW).countP fun y => decide (y = w)
theorem cw_sum : ∀ (cs : List Int), (∀ c ∈ cs, isC c) → cw wRet cs + cw wFly cs + cw wExc cs + cw wMis cs = cs.length ∧ cw wFly cs + cw wExc cs = cs.countP isF ∧ cs.length - cw wRet cs = cs.countP isD ∧ cw wRet cs ≤ cs.length
  | [], _ => by simp [cw]
  | c :: cs, h => by
    obtain ⟨h1, h2, h3, h4⟩ := cw_sum cs fun x hx => h x (List.mem_cons_of_mem _ hx)
    have e : ∀ w, cw w (c :: cs) = cw w cs + if stW c = w then 1 else 0 := fun w => by
      unfold cw; rw [List.map_cons, List.countP_cons]; simp
    rw [e, e, e, e, List.length_cons, List.countP_cons, List.countP_cons]
    rcases h c List.mem_cons_self with rfl | rfl | rfl | rfl
    · have : stW 0 = wRet := rfl
      rw [this, if_pos rfl, if_neg (by decide), if_neg (by decide), if_neg (by decide)]
      have f1 : isF 0 = false := rfl
      have f2 : isD 0 = false := rfl
      rw [f1, f2]; simp; omega
    · have : stW 1 = wFly := rfl
      rw [this, if_pos rfl, if_neg (by decide), if_neg (by decide), if_neg (by decide)]
      have f1 : isF 1 = true := rfl
      have f2 : isD 1 = true := rfl
      rw [f1, f2]; simp; omega
    · have : stW 2 = wExc := rfl
      rw [this, if_pos rfl, if_neg (by decide), if_neg (by decide), if_neg (by decide)]
      have f1 : isF 2 = true := rfl
      have f2 : isD 2 = true := rfl
      rw [f1, f2]; simp; omega
    · have : stW 3 = wMis := rfl
      rw [this, if_pos rfl, if_neg (by decide), if_neg (by decide), if_neg (by decide)]
      have f1 : isF 3 = false := rfl
      have f2 : isD 3 = true := rfl
      rw [f1, f2]; simp; omega

/-! ### one record more -/
theorem stF_cases {a0 : S23} {g x : S151 → Bool} {v a1 : List S151} {i : Nat} {c : Int} (h : (stF a0 g x v a1)[i]? = some c) : ∃ s, a1[i]? = some s ∧
    isD c = !g s ∧ (isF c = true ↔ i ∈ flownI (atF g a1 0) (mat a0 (a1.filter (fun s => !g s)) v) ∨ (g s = false ∧ x s = true)) := by
  have hlt := (List.getElem?_eq_some_iff.1 h).1
  rw [stF_len] at hlt
  refine ⟨a1[i], List.getElem?_eq_getElem hlt, ?_⟩
  have h2 := stF_get (a0 := a0) (g := g) (x := x) (v := v) (List.getElem?_eq_getElem hlt)
  rw [h] at h2
  by_cases hi : i ∈ flownI (atF g a1 0) (mat a0 (a1.filter (fun s => !g s)) v)
  · rw [if_pos hi] at h2
    cases h2
    obtain ⟨s, hs, hg⟩ := flownI_due (a0 := a0) (v := v) hi
    rw [List.getElem?_eq_getElem hlt] at hs
    cases hs
    rw [hg]
    exact ⟨rfl, fun _ => .inl hi, fun _ => rfl⟩
  · rw [if_neg hi] at h2
    cases h2
    unfold base
    cases hg : g a1[i]
    · cases hx : x a1[i]
      · exact ⟨rfl, fun h => (by cases h), fun h => h.elim (fun h => absurd h hi) (fun h => absurd h.2 (by decide))⟩
      · exact ⟨rfl, fun _ => .inr ⟨rfl, rfl⟩, fun _ => rfl⟩
    · exact ⟨rfl, fun h => (by cases h), fun h => h.elim (fun h => absurd h hi) (fun h => absurd h.1 (by decide))⟩
theorem gone_more {a0 : S23} {s : S151} {n0 : S104} {l : List S104} (h : s128 a0 s (n0 :: l) = false) : s128 a0 s l = false := by
  rw [s128_any] at h ⊢
  rw [List.any_cons, Bool.or_eq_false_iff] at h
  exact h.2
theorem gone_else {a0 : S23} {n0 : S104} {l : List S104} (h : ¬ n0.Kind = (⟨#[98, 97, 99, 107]⟩ : ByteArray)) : (fun s => s128 a0 s (n0 :: l)) = fun s => s128 a0 s l := by
  funext s
  rw [s128_any, s128_any, List.any_cons]
  have : s207 n0 s (IntKind.i64.wrap (Int.tdiv s.Moment 1440)) a0 = false := by
    unfold s207; rw [decide_eq_false h]; rfl
  rw [this, Bool.false_or]
theorem exc_more {a0 : S23} {s : S151} {n0 : S104} {l : List S104} (h : s129 a0 s l = true) : s129 a0 s (n0 :: l) = true := by
  rw [s129_any] at h ⊢
  rw [List.any_cons, h, Bool.or_true]
def stN (a0 : S23) (a1 : List S151) (a2 : List S104) : List Int := stF a0 (fun s => s128 a0 s a2) (fun s => s129 a0 s a2) (flyL a2) a1
theorem due_back (a0 : S23) (a1 : List S151) (n0 : S104) (l : List S104) : (stN a0 a1 (n0 :: l)).countP isD ≤ (stN a0 a1 l).countP isD := by
  refine count_le (by unfold stN; rw [stF_len, stF_len]) fun i x y hx hy h => ?_
  obtain ⟨s, hs, h1, _⟩ := stF_cases hx
  obtain ⟨s', hs', h2, _⟩ := stF_cases hy
  rw [hs] at hs'; cases hs'
  rw [h1] at h
  rw [h2, gone_more (by simpa using h)]
  rfl
theorem due_else (a0 : S23) (a1 : List S151) {n0 : S104} {l : List S104} (h : ¬ n0.Kind = (⟨#[98, 97, 99, 107]⟩ : ByteArray)) : (stN a0 a1 (n0 :: l)).countP isD = (stN a0 a1 l).countP isD := by
  refine Nat.le_antisymm (due_back a0 a1 n0 l) (count_le (by unfold stN; rw [stF_len, stF_len]) fun i x y hx hy hd => ?_)
  obtain ⟨s, hs, h1, _⟩ := stF_cases hx
  obtain ⟨s', hs', h2, _⟩ := stF_cases hy
  rw [hs] at hs'; cases hs'
  rw [h1] at hd
  rw [h2]
  have this : s128 a0 s (n0 :: l) = s128 a0 s l := congrFun (gone_else (a0 := a0) (l := l) h) s
  rw [this]; exact hd
theorem flown_else (a0 : S23) (a1 : List S151) {n0 : S104} {l : List S104} (h : ¬ n0.Kind = (⟨#[98, 97, 99, 107]⟩ : ByteArray)) : (stN a0 a1 l).countP isF ≤ (stN a0 a1 (n0 :: l)).countP isF := by
  refine count_le (by unfold stN; rw [stF_len, stF_len]) fun i x y hx hy hd => ?_
  have hst : stN a0 a1 (n0 :: l) = stF a0 (fun s => s128 a0 s l) (fun s => s129 a0 s (n0 :: l)) (flyL (n0 :: l)) a1 := by unfold stN; rw [gone_else h]
  rw [hst] at hy
  obtain ⟨s, hs, _, h1⟩ := stF_cases hx
  obtain ⟨s', hs', _, h2⟩ := stF_cases hy
  rw [hs] at hs'; cases hs'
  rw [h2]
  rcases h1.1 hd with h3 | ⟨h3, h4⟩
  · exact .inl (flown_more a0 _ _ n0 l i h3)
  · exact .inr ⟨h3, exc_more h4⟩
end Go.Sim

set_option linter.unusedSimpArgs false
namespace Go.Sim
/-! ## UseOrders: the law, put together -/
theorem l1_run (a0 : S23) (a1 : List S151) (a2 : List S104) (r1 : List ByteArray × Int) (r2 : S55 × Int) : ∀ (n k : Nat) (x : List S104), n ≤ a2.length → n < k → a2.length ≤ 100 → ∃ k', s10_l1 a0 a1 a2 r1 r2 k x ((n : Int) - 1) = s10_l1 a0 a1 a2 r1 r2 (k' + 1) (x ++ (a2.take n).reverse) (-1)
  | 0, k, x, _, hk, _ => by
    obtain ⟨k', rfl⟩ : ∃ k', k = k' + 1 := ⟨k - 1, by omega⟩
    exact ⟨k', by simp⟩
  | n + 1, k, x, hn, hk, hl => by
    obtain ⟨j, rfl⟩ : ∃ j, k = j + 1 := ⟨k - 1, by omega⟩
    have e : ((n + 1 : Nat) : Int) - 1 = ((n : Nat) : Int) := by omega
    have hi : a2[n]? = some a2[n] := List.getElem?_eq_getElem (by omega)
    obtain ⟨k', hk'⟩ := l1_run a0 a1 a2 r1 r2 n j (x ++ [a2[n]]) (by omega) (by omega) hl
    refine ⟨k', ?_⟩
    rw [e]
    conv => lhs; rw [s10_l1]
    rw [decide_eq_true (by omega : (0 : Int) ≤ (n : Int)), cond_true, ixO_nat hi]
    simp only [bindO]
    have ht : (a2.take (n + 1)).reverse = a2[n] :: (a2.take n).reverse := by
      rw [List.take_succ_eq_append_getElem (by omega)]; simp
    rw [wrap_i64 (n := (n : Int) - 1) ⟨by omega, by omega⟩, hk', ht]
    simp
theorem s98_map (l : List S104) (f : S104 → Int) : s98 l f = l.map f := by
  have key : ∀ (l : List S104) (k : Nat) (x : List Int), s98_l1 f l k x = x ++ l.map f := by
    intro l
    induction l with
    | nil => intro k x; simp [s98_l1]
    | cons y l ih => intro k x; rw [s98_l1, ih]; simp
  unfold s98; rw [key]; rfl
theorem s27_sub {l l' : List S104} (h : s27 l = 0) (hs : ∀ x ∈ l', x ∈ l) (hl : l'.length ≤ 512) : s27 l' = 0 := by
  have h1 := s27_len h
  unfold s27 at h ⊢
  rw [decide_eq_false (by omega), cond_false, s98_map] at h ⊢
  refine s84_zeroA fun x hx => ?_
  obtain ⟨n, hn, rfl⟩ := List.mem_map.1 hx
  exact s84_all h _ (List.mem_map_of_mem (hs n hn))
theorem s122_sub {a0 : S23} {a1 : List S151} {l l' : List S104} (h : s122 a0 a1 l = 0) (hs : ∀ x ∈ l', x ∈ l) (hl : l'.length ≤ 512) : s122 a0 a1 l' = 0 := by
  obtain ⟨h1, h2, h3⟩ := s122_ok h
  unfold s122
  refine s84_zeroA fun x hx => ?_
  simp only [List.mem_cons, List.not_mem_nil, or_false] at hx
  rcases hx with rfl | rfl | rfl
  · exact h1
  · exact h2
  · exact s27_sub h3 hs hl
theorem st_all {a0 : S23} {a1 : List S151} {a2 : List S104} : (∀ c ∈ stN a0 a1 a2, isC c) ∧ (stN a0 a1 a2).length = a1.length := by
  obtain ⟨r, g1, _, g3, g4⟩ := status_ok a0 a1 a2
  have : r = stN a0 a1 a2 := by rw [s124_eq] at g1; exact (Option.some.inj g1).symm
  subst this
  exact ⟨g4, g3⟩
theorem s57_eq {a0 : S23} {a1 : List S151} {a2 : List S104} (h : s122 a0 a1 a2 = 0) : s57 a0 a1 a2 = some ((stN a0 a1 a2).map stW, 0) := by
  unfold s57
  rw [decide_eq_false (by simpa using h), cond_false, s124_eq]
  simp only [bindO]
  rw [show stF a0 (fun s => s128 a0 s a2) (fun s => s129 a0 s a2) (flyL a2) a1 = stN a0 a1 a2 from rfl, s123_ok _ st_all.1]
theorem s58_eq {a0 : S23} {a1 : List S151} {a2 : List S104} (h : s122 a0 a1 a2 = 0) (hl : a1.length ≤ 512) : s58 a0 a1 a2 = some (S55.mk ((stN a0 a1 a2).countP isF : Nat) ((stN a0 a1 a2).countP isD : Nat), 0) := by
  have hn := (st_all (a0 := a0) (a1 := a1) (a2 := a2)).2
  unfold s58
  rw [decide_eq_false (by simpa using h), cond_false, s124_eq]
  simp only [bindO]
  rw [show stF a0 (fun s => s128 a0 s a2) (fun s => s129 a0 s a2) (flyL a2) a1 = stN a0 a1 a2 from rfl, s58_sum _ 0 0 0 (by omega) (by omega) (by omega) (by omega)]
  simp
theorem l2_end {a0 : S23} {a1 : List S151} {a2 : List S104} {k : Nat} {m : List (ByteArray × Int)} (h122 : s122 a0 a1 a2 = 0) (hl : a1.length ≤ 12) (hl2 : a2.length ≤ 12) (hne : a2.length ≠ 0)
    (hm : ∀ w, mgetD m w 0 = (cw w (stN a0 a1 a2) : Nat)) : s10_l2 a0 a1 a2 (S55.mk ((stN a0 a1 a2).countP isF : Nat) ((stN a0 a1 a2).countP isD : Nat), 0) [] k m = some true := by
  obtain ⟨hc, hn⟩ := st_all (a0 := a0) (a1 := a1) (a2 := a2)
  obtain ⟨c1, c2, c3, c4⟩ := cw_sum _ hc
  obtain ⟨n0, l, rfl⟩ : ∃ n0 l, a2 = n0 :: l := by
    cases a2 with
    | nil => exact absurd rfl hne
    | cons n0 l => exact ⟨n0, l, rfl⟩
  rw [s10_l2, hm, hm, hm, hm]
  generalize hr : cw wRet (stN a0 a1 (n0 :: l)) = cr at *
  generalize hf : cw wFly (stN a0 a1 (n0 :: l)) = cf at *
  generalize hx : cw wExc (stN a0 a1 (n0 :: l)) = ce at *
  generalize hq : cw wMis (stN a0 a1 (n0 :: l)) = cm at *
  have w1 : IntKind.i64.wrap ((cr : Int) + (cf : Int)) = (cr : Int) + (cf : Int) := wrap_i64 ⟨by omega, by omega⟩
  have w2 : IntKind.i64.wrap ((cr : Int) + (cf : Int) + (ce : Int)) = (cr : Int) + (cf : Int) + (ce : Int) := wrap_i64 ⟨by omega, by omega⟩
  have w3 : IntKind.i64.wrap ((cr : Int) + (cf : Int) + (ce : Int) + (cm : Int)) = (cr : Int) + (cf : Int) + (ce : Int) + (cm : Int) := wrap_i64 ⟨by omega, by omega⟩
  have w4 : IntKind.i64.wrap ((cf : Int) + (ce : Int)) = (cf : Int) + (ce : Int) := wrap_i64 ⟨by omega, by omega⟩
  have w5 : IntKind.i64.wrap ((a1.length : Int) - (cr : Int)) = (a1.length : Int) - (cr : Int) := wrap_i64 ⟨by omega, by omega⟩
  rw [w1, w2, w3, w4, w5]
  have d1 : decide ((cr : Int) + (cf : Int) + (ce : Int) + (cm : Int) ≠ (a1.length : Int)) = false := decide_eq_false (by omega)
  have d2 : decide ((((stN a0 a1 (n0 :: l)).countP isF : Nat) : Int) ≠ (cf : Int) + (ce : Int)) = false := decide_eq_false (by omega)
  have d3 : decide ((((stN a0 a1 (n0 :: l)).countP isD : Nat) : Int) ≠ (a1.length : Int) - (cr : Int)) = false := decide_eq_false (by omega)
  simp only [d1, d2, d3, Bool.or_self, cond_false]
  have hd : List.drop (Int.toNat 1) (n0 :: l) = l := rfl
  rw [hd, s58_eq (s122_sub h122 (fun x hx => List.mem_cons_of_mem _ hx) (by simp at hl2; omega)) (by omega)]
  have hi : ixO (n0 :: l) 0 = some n0 := rfl
  have d4 : decide ((0 : Int) ≠ 0) = false := by decide
  have hj := j1_ok h122 (s124_eq a0 a1 (n0 :: l)) (st_all (a0 := a0) (a1 := a1) (a2 := n0 :: l)).2 hl 0
  have hj : s10_j1 a0 a1 (n0 :: l) (S55.mk ((stN a0 a1 (n0 :: l)).countP isF : Nat) ((stN a0 a1 (n0 :: l)).countP isD : Nat), 0) = some true := hj
  simp only [bindO, d4, cond_false, hi, hj]
  by_cases hb : n0.Kind = (⟨#[98, 97, 99, 107]⟩ : ByteArray)
  · have := due_back a0 a1 n0 l
    rw [decide_eq_true hb, cond_true, decide_eq_false (by omega), cond_false]
  · have g1 := due_else a0 a1 (l := l) hb
    have g2 := flown_else a0 a1 (l := l) hb
    rw [decide_eq_false hb, cond_false, decide_eq_false (by omega), decide_eq_false (by omega)]
    rfl
theorem s10_true (a0 : S23) (a1 : List S151) (a2 : List S104) : s10 a0 a1 a2 = some true := by
  unfold s10
  rw [s16_eq]
  by_cases hl1 : 8 < (a1.length : Int)
  · rw [decide_eq_true hl1]; simp
  by_cases hl0 : (a2.length : Int) = 0
  · rw [decide_eq_true hl0]; simp
  by_cases hl2 : 7 < (a2.length : Int)
  · rw [decide_eq_true hl2]; simp
  by_cases hc : s35 [s24 (s18 a0), s26 (s20 a1), s28 (s22 a2)] = 0
  · have h122 : s122 a0 a1 a2 = 0 := by rw [both_eq9]; exact hc
    have h122r : s122 a0 a1 a2.reverse = 0 := s122_sub h122 (fun x hx => List.mem_reverse.1 hx) (by simp; omega)
    cases (((((((!true) || (!(s17 (s18 a0)))) || (decide (8 < (List.length a1 : Int)))) || (decide ((List.length a2 : Int) = 0))) || (decide (7 < (List.length a2 : Int)))) || (!(s19 (s20 a1) 8))) || (!(s21 (s22 a2) 7))) || (decide ((s35 [(s24 (s18 a0)), (s26 (s20 a1)), (s28 (s22 a2))]) ≠ 0))
    · rw [cond_false, s57_eq h122, s58_eq h122 (by omega)]
      simp only [bindO]
      have hw : IntKind.i64.wrap ((a2.length : Int) - 1) = (a2.length : Int) - 1 := wrap_i64 ⟨by omega, by omega⟩
      rw [hw]
      obtain ⟨k', hk'⟩ := l1_run a0 a1 a2 ((stN a0 a1 a2).map stW, 0) (S55.mk ((stN a0 a1 a2).countP isF : Nat) ((stN a0 a1 a2).countP isD : Nat), 0) a2.length (((a2.length : Int) - 1 + 1).toNat + 1) [] (Nat.le_refl _) (by omega) (by omega)
      rw [hk', List.take_length, List.nil_append, s10_l1]
      rw [decide_eq_false (by decide : ¬ (0 : Int) ≤ -1), cond_false, s57_eq h122r]
      have hrev : stN a0 a1 a2.reverse = stN a0 a1 a2 := by
        have := s124_perm a0 a1 (List.reverse_perm a2)
        rw [s124_eq, s124_eq] at this
        exact Option.some.inj this
      rw [hrev]
      have w : IntKind.i64.wrap ((0 : Int) + 0) = 0 := rfl
      have hlen : decide ((((stN a0 a1 a2).map stW).length : Int) ≠ (a1.length : Int)) = false := decide_eq_false (by rw [List.length_map, st_all.2]; simp)
      have d0 : decide ((0 : Int) ≠ 0) = false := by decide
      simp only [bindO, w, d0, hlen, Bool.or_self, Bool.not_false, cond_true, s60_self, Bool.not_true, cond_false]
      rw [l2_run _ _ _ _ _ 0 [] (fun w => by
        rw [List.length_map, st_all.2]
        simp [mgetD, mget]; omega)]
      exact l2_end h122 (by omega) (by omega) (by omega) fun w => by
        rw [cntM_get]; simp [mgetD, mget, cw]
    · rfl
  · rw [decide_eq_true (p := s35 [s24 (s18 a0), s26 (s20 a1), s28 (s22 a2)] ≠ 0) hc]; simp
end Go.Sim

