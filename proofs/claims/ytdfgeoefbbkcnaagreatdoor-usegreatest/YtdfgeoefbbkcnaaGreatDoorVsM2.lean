/-
  What is proved: the walk of UseGreatest.
-/
import Derived.Test.YtdfgeoefbbkcnaaGreatDoorVsM1
import Derived.Test.YtdfgeoefbbkcnaaGreatDoorVsJ1
set_option linter.unusedSectionVars false
set_option linter.unusedSimpArgs false
set_option linter.unusedVariables false
set_option linter.unnecessarySimpa false
set_option linter.deprecated false
set_option linter.unusedSimpArgs false
set_option linter.unusedVariables false
set_option maxRecDepth 10000
namespace Go.Sim
open Go.Proofs


/-- turnroundlaw09.UseGreatest -/
def s15_l3 (a1 : S141) : List S154 → Nat → Option Bool
 | [], k19 => some true
 | y20 :: t21, k19 => bindO (bif !((((decide (y20.Slot < 0)) || (decide ((List.length a1.Slots : Int) ≤ y20.Slot))) || (decide (y20.Record < 0))) || (decide ((List.length a1.Records : Int) ≤ y20.Record))) then ixO a1.Slots y20.Slot else some default) fun y22 => bindO (bif !((((decide (y20.Slot < 0)) || (decide ((List.length a1.Slots : Int) ≤ y20.Slot))) || (decide (y20.Record < 0))) || (decide ((List.length a1.Records : Int) ≤ y20.Record))) then ixO a1.Records y20.Record else some default) fun y23 => (bif ((((decide (y20.Slot < 0)) || (decide ((List.length a1.Slots : Int) ≤ y20.Slot))) || (decide (y20.Record < 0))) || (decide ((List.length a1.Records : Int) ≤ y20.Record))) || (!(eqAnd [decide (y22.Name = y23.Name), decide (y22.Moment = y23.Moment), decide (y22.Kind = y23.Kind)])) then some false else s15_l3 a1 t21 (k19 + 1))
def s15_l2 (a0 : S23) (a1 : S141) (r1 : (List S154) × Int) : Nat → (List S151) → Int → Option Bool
 | 0, _, _ => none
 | k13 + 1, x11, x12 => (bif decide (0 ≤ x12) then bindO (ixO a1.Slots x12) fun y14 => s15_l2 a0 a1 r1 k13 (x11 ++ [y14]) (IntKind.i64.wrap (x12 - 1)) else bindO (s44 a0 x11 a1.Records) fun r15 => bindO (s44 (S23.mk (min 720 (IntKind.i64.wrap (a0.Before + 7))) (min 720 (IntKind.i64.wrap (a0.After + 9))) a0.Notice a0.Share a0.Causes a0.Off a0.Run) a1.Slots a1.Records) fun r16 => bindO (s44 (S23.mk 0 0 a0.Notice a0.Share a0.Causes a0.Off a0.Run) a1.Slots a1.Records) fun r17 => (bif (((decide (IntKind.i64.wrap ((IntKind.i64.wrap (r15.2 + r16.2)) + r17.2) ≠ 0)) || (decide ((List.length r15.1 : Int) ≠ (List.length r1.1 : Int)))) || (decide ((List.length r16.1 : Int) < (List.length r1.1 : Int)))) || (decide ((List.length r1.1 : Int) < (List.length r17.1 : Int))) then some false else s15_l3 a1 r17.1 0))
def s15_l4 (rec1 : Nat → Option Bool) (a0 : S23) (r2 : S139 × Int) (k7 : Nat) (y8 : S151) : List S151 → Nat → Option Bool
 | [], k25 => rec1 (k7 + 1)
 | y26 :: t27, k25 => (bif (((((decide (y8.Name = y26.Name)) && (decide (y8.Kind = y26.Kind))) && (decide (IntKind.i64.wrap (y26.Moment - y8.Moment) ≤ a0.After))) && (decide (IntKind.i64.wrap (y8.Moment - y26.Moment) ≤ a0.Before))) && (!(s80 r2.1.Slots ((k7 : Nat) : Int)))) && (!(s80 r2.1.Records ((k25 : Nat) : Int))) then some false else s15_l4 rec1 a0 r2 k7 y8 t27 (k25 + 1))
def s15_l1 (a0 : S23) (a1 : S141) (r1 : (List S154) × Int) (r2 : S139 × Int) : List S151 → Nat → Option Bool
 | [], k7 => bindO (s75 a0 a1.Slots a1.Records a1.Pairs) fun r10 => (bif (decide (r10 = 0)) && (decide ((List.length r1.1 : Int) < (List.length a1.Pairs : Int))) then some false else s15_l2 a0 a1 r1 ((((IntKind.i64.wrap ((List.length a1.Slots : Int) - 1)) + 1).toNat) + 1) [] (IntKind.i64.wrap ((List.length a1.Slots : Int) - 1)))
 | y8 :: t9, k7 => s15_l4 (fun k_ => s15_l1 a0 a1 r1 r2 t9 k_) a0 r2 k7 y8 a1.Records 0
noncomputable def s15 (a0 : S23) (a1 : S141) : Option Bool :=
 (bif (((((((!s16) || (!(s17 (s18 a0)))) || (decide (7 < (List.length a1.Slots : Int)))) || (decide (7 < (List.length a1.Records : Int)))) || (!(s19 (s20 a1.Slots) 7))) || (!(s19 (s20 a1.Records) 7))) || (decide ((s48 a0 a1.Slots a1.Records) ≠ 0))) || (decide (7 < (List.length a1.Pairs : Int))) then some s16 else bindO (s44 a0 a1.Slots a1.Records) fun r1 => bindO (s77 a0 a1.Slots a1.Records) fun r2 => bindO (s45 a0 a1.Slots a1.Records) fun r3 => bindO (s46 a0 a1.Slots a1.Records) fun r4 => bindO (bif !(decide (IntKind.i64.wrap ((IntKind.i64.wrap ((IntKind.i64.wrap (r1.2 + r2.2)) + r3.2)) + r4.2) ≠ 0)) then s75 a0 a1.Slots a1.Records r1.1 else some default) fun r5 => (bif ((((decide (IntKind.i64.wrap ((IntKind.i64.wrap ((IntKind.i64.wrap (r1.2 + r2.2)) + r3.2)) + r4.2) ≠ 0)) || (decide (r5 ≠ 0))) || (decide (IntKind.i64.wrap ((List.length r2.1.Slots : Int) + (List.length r2.1.Records : Int)) ≠ (List.length r1.1 : Int)))) || (decide (IntKind.i64.wrap ((List.length r3.1 : Int) + (List.length r1.1 : Int)) ≠ (List.length a1.Slots : Int)))) || (decide (IntKind.i64.wrap ((List.length r4.1 : Int) + (List.length r1.1 : Int)) ≠ (List.length a1.Records : Int))) then some false else s15_l1 a0 a1 r1 r2 a1.Slots 0))
set_option maxHeartbeats 16000000 in
theorem c15 (a0 : S23) (a1 : S141) {R : Bool}  (hb0 : a1.Slots.length * 40 ≤ 140737488351232) (hb1 : a1.Records.length * 40 ≤ 140737488351232) (hR : s15 a0 a1 = some R) : Con (EG glT) 15 [G.agg [G.int a0.Before, G.int a0.After, G.int a0.Notice, G.int a0.Share, G.sl 1 (List.map cStr a0.Causes), G.int a0.Off, G.int a0.Run], G.agg [G.sl 3 (List.map S151.c a1.Slots), G.sl 3 (List.map S151.c a1.Records), G.sl 2 (List.map S154.c a1.Pairs), G.sl 1 (List.map cInt a1.Cover.Slots), G.sl 1 (List.map cInt a1.Cover.Records)]] (G.bool R) := by
 unfold s15 at hR
 refine con_of_aw Tryz.func15 rfl rfl fun w0 M0 => ?_
 refine aw_seq ?_
 refine aw_region [.p, .p, .p] ?_
 refine st rfl rfl (eff_box rfl rfl) rfl ?_
 refine st rfl rfl (eff_box rfl rfl) rfl ?_
 refine st rfl rfl (eff_assigng rfl rfl) rfl ?_
 refine st_nil ?_
 refine aw_seq ?_
 refine aw_draw [.p, .p, .p, .p, .p, .p] (by kernel_rfl) ?_
 refine st rfl rfl (eff_fieldAddr rfl fl142_0 rfl) rfl ?_
 refine st rfl rfl (eff_load rfl ty25 rfl) rfl ?_
 refine st rfl rfl (eff_fieldAddr rfl fl142_1 rfl) rfl ?_
 refine st rfl rfl (eff_load rfl ty25 rfl) rfl ?_
 refine st rfl rfl (eff_assigng rfl rfl) rfl ?_
 refine st rfl rfl (eff_assigng rfl rfl) rfl ?_
 refine st_nil ?_
 refine aw_seq ?_
 refine aw_seq ?_
 refine aw_region [.p, .p, .p, .p, .p, .p, .p, .p, .p, .p, .p, .p, .p, .p, .p, .p, .p, .p, .p, .p, .p, .p, .p, .p, .p, .p, .p, .p, .p, .p, .p, .p, .p, .p, .p, .p, .p, .p, .p, .p, .p, .p, .p] ?_
 refine st rfl rfl (eff_call rfl K16 rfl (c16) ag_nil) rfl ?_
 refine st rfl rfl (eff_not rfl rfl) rfl ?_
 refine st rfl rfl (eff_moveg rfl rfl) rfl ?_
 refine st_g rfl rfl rfl (gb_bool _ _) (fun h => eff_loadA rfl ty24 rfl rfl rfl) rfl ?_
 refine st_g rfl rfl rfl (gb_bool _ _) (fun h => eff_call rfl K18 rfl (c18 a0) (ag_cons (gd h rfl) ag_nil)) rfl ?_
 refine st_g rfl rfl rfl (gb_bool _ _) (fun h => eff_call rfl K17 rfl (c17 (s18 a0)) (ag_cons (gd h rfl) ag_nil)) rfl ?_
 refine st_g rfl rfl rfl (gb_bool _ _) (fun h => eff_not rfl (gd h rfl)) rfl ?_
 refine st rfl rfl (eff_or rfl rfl rfl rfl) rfl ?_
 refine st rfl rfl (eff_moveg rfl rfl) rfl ?_
 refine st_g rfl rfl rfl (gb_bool _ _) (fun h => eff_moveg rfl rfl) rfl ?_
 refine st_g rfl rfl rfl (gb_bool _ _) (fun h => eff_lenM (f := S151.c) (l := a1.Slots) rfl Tryz.underlying25 (gd h rfl)) rfl ?_
 refine st_g rfl rfl rfl (gb_bool _ _) (fun h => eff_gtr rfl (gd h rfl) rfl) rfl ?_
 refine st rfl rfl (eff_or rfl rfl rfl rfl) rfl ?_
 refine st rfl rfl (eff_moveg rfl rfl) rfl ?_
 refine st_g rfl rfl rfl (gb_bool _ _) (fun h => eff_moveg rfl rfl) rfl ?_
 refine st_g rfl rfl rfl (gb_bool _ _) (fun h => eff_lenM (f := S151.c) (l := a1.Records) rfl Tryz.underlying25 (gd h rfl)) rfl ?_
 refine st_g rfl rfl rfl (gb_bool _ _) (fun h => eff_gtr rfl (gd h rfl) rfl) rfl ?_
 refine st rfl rfl (eff_or rfl rfl rfl rfl) rfl ?_
 refine st rfl rfl (eff_moveg rfl rfl) rfl ?_
 refine st_g rfl rfl rfl (gb_bool _ _) (fun h => eff_moveg rfl rfl) rfl ?_
 refine st_g rfl rfl rfl (gb_bool _ _) (fun h => eff_call rfl K20 rfl (c20 a1.Slots (by omega)) (ag_cons (gd h rfl) ag_nil)) rfl ?_
 refine st_g rfl rfl rfl (gb_bool _ _) (fun h => eff_call rfl K19 rfl (c19 (s20 a1.Slots) 7) (ag_cons (gd h rfl) (ag_cons rfl ag_nil))) rfl ?_
 refine st_g rfl rfl rfl (gb_bool _ _) (fun h => eff_not rfl (gd h rfl)) rfl ?_
 refine st rfl rfl (eff_or rfl rfl rfl rfl) rfl ?_
 refine st rfl rfl (eff_moveg rfl rfl) rfl ?_
 refine st_g rfl rfl rfl (gb_bool _ _) (fun h => eff_moveg rfl rfl) rfl ?_
 refine st_g rfl rfl rfl (gb_bool _ _) (fun h => eff_call rfl K20 rfl (c20 a1.Records (by omega)) (ag_cons (gd h rfl) ag_nil)) rfl ?_
 refine st_g rfl rfl rfl (gb_bool _ _) (fun h => eff_call rfl K19 rfl (c19 (s20 a1.Records) 7) (ag_cons (gd h rfl) (ag_cons rfl ag_nil))) rfl ?_
 refine st_g rfl rfl rfl (gb_bool _ _) (fun h => eff_not rfl (gd h rfl)) rfl ?_
 refine st rfl rfl (eff_or rfl rfl rfl rfl) rfl ?_
 refine st rfl rfl (eff_moveg rfl rfl) rfl ?_
 refine st_g rfl rfl rfl (gb_bool _ _) (fun h => eff_loadA rfl ty24 rfl rfl rfl) rfl ?_
 refine st_g rfl rfl rfl (gb_bool _ _) (fun h => eff_moveg rfl rfl) rfl ?_
 refine st_g rfl rfl rfl (gb_bool _ _) (fun h => eff_moveg rfl rfl) rfl ?_
 refine st_g rfl rfl rfl (gb_bool _ _) (fun h => eff_call rfl K48 rfl (c48 a0 a1.Slots a1.Records (by first | assumption | omega | (simp [copyL_len]; omega)) (by first | assumption | omega | (simp [copyL_len]; omega))) (ag_cons (gd h rfl) (ag_cons (gd h rfl) (ag_cons (gd h rfl) ag_nil)))) rfl ?_
 refine st_g rfl rfl rfl (gb_bool _ _) (fun h => eff_neq rfl (gd h rfl) rfl) rfl ?_
 refine st rfl rfl (eff_or rfl rfl rfl rfl) rfl ?_
 refine st rfl rfl (eff_moveg rfl rfl) rfl ?_
 refine st_g rfl rfl rfl (gb_bool _ _) (fun h => eff_fieldAddr rfl fl142_2 rfl) rfl ?_
 refine st_g rfl rfl rfl (gb_bool _ _) (fun h => eff_load rfl ty79 (gd h rfl)) rfl ?_
 refine st_g rfl rfl rfl (gb_bool _ _) (fun h => eff_lenM (f := S154.c) (l := a1.Pairs) rfl Tryz.underlying79 (gd h rfl)) rfl ?_
 refine st_g rfl rfl rfl (gb_bool _ _) (fun h => eff_gtr rfl (gd h rfl) rfl) rfl ?_
 refine st rfl rfl (eff_or rfl rfl rfl rfl) rfl ?_
 refine st_nil ?_
 refine aw_cond _ rfl (fun h1 => ?_) (fun h1 => ?_)
 ·replace h1 : ((((((((!s16) || (!(s17 (s18 a0)))) || (decide (7 < (List.length a1.Slots : Int)))) || (decide (7 < (List.length a1.Records : Int)))) || (!(s19 (s20 a1.Slots) 7))) || (!(s19 (s20 a1.Records) 7))) || (decide ((s48 a0 a1.Slots a1.Records) ≠ 0))) || (decide (7 < (List.length a1.Pairs : Int)))) = true := h1
  replace hR := condT hR h1
  try simp only [Bool.or_eq_true, Bool.and_eq_true, Bool.or_eq_false_iff, Bool.and_eq_false_iff, Bool.not_eq_true', Bool.not_eq_false', decide_eq_true_eq, decide_eq_false_iff_not] at h1
  refine aw_seq ?_
  refine aw_region [.p, .p] ?_
  refine st rfl rfl (eff_call rfl K16 rfl (c16) ag_nil) rfl ?_
  refine st rfl rfl (eff_assigng rfl rfl) rfl ?_
  refine st_nil ?_
  refine aw_ret ?_
  exact res_e (res_c rfl (rv_g rfl)) (congrArg (fun R_ => G.bool R_) (Option.some.inj hR))
 ·replace h1 : ((((((((!s16) || (!(s17 (s18 a0)))) || (decide (7 < (List.length a1.Slots : Int)))) || (decide (7 < (List.length a1.Records : Int)))) || (!(s19 (s20 a1.Slots) 7))) || (!(s19 (s20 a1.Records) 7))) || (decide ((s48 a0 a1.Slots a1.Records) ≠ 0))) || (decide (7 < (List.length a1.Pairs : Int)))) = false := h1
  replace hR := condF hR h1
  try simp only [Bool.or_eq_true, Bool.and_eq_true, Bool.or_eq_false_iff, Bool.and_eq_false_iff, Bool.not_eq_true', Bool.not_eq_false', decide_eq_true_eq, decide_eq_false_iff_not] at h1
  have hu7 := h1.1.1.1.1.1.2
  have hv7 := h1.1.1.1.1.2
  have hq7 := h1.2
  have hw0 := wrap_i64 (n := (List.length a1.Slots : Int) - 1) ⟨by omega, by omega⟩
  refine aw_skip ?_
  refine aw_seq ?_
  refine Exists.elim (bindO_inv hR) (fun r1 hq_ => ?_)
  have br1 := hq_.1
  replace hR := hq_.2
  clear hq_
  refine aw_region [.p, .p, .p, .p, .p, .p, .p, .p, .p] ?_
  refine st rfl rfl (eff_loadA rfl ty24 rfl rfl rfl) rfl ?_
  refine st rfl rfl (eff_moveg rfl rfl) rfl ?_
  refine st rfl rfl (eff_moveg rfl rfl) rfl ?_
  refine st rfl rfl (eff_call rfl K44 rfl (c44 a0 a1.Slots a1.Records (fun _ => ⟨by omega, by omega⟩) br1) (ag_cons rfl (ag_cons rfl (ag_cons rfl ag_nil)))) rfl ?_
  refine st rfl rfl (eff_moveg rfl rfl) rfl ?_
  refine st rfl rfl (eff_extract rfl rfl rfl) rfl ?_
  refine st rfl rfl (eff_extract rfl rfl rfl) rfl ?_
  refine st rfl rfl (eff_assigng rfl rfl) rfl ?_
  refine st rfl rfl (eff_assigng rfl rfl) rfl ?_
  refine st_nil ?_
  refine aw_seq ?_
  refine Exists.elim (bindO_inv hR) (fun r2 hq_ => ?_)
  have br2 := hq_.1
  replace hR := hq_.2
  clear hq_
  refine aw_region [.p, .p, .p, .p, .p, .p, .p, .w, .w, .p] ?_
  refine st rfl rfl (eff_loadA rfl ty24 rfl rfl rfl) rfl ?_
  refine st rfl rfl (eff_moveg rfl rfl) rfl ?_
  refine st rfl rfl (eff_moveg rfl rfl) rfl ?_
  refine st rfl rfl (eff_call rfl K77 rfl (c77 a0 a1.Slots a1.Records (fun _ => ⟨by omega, by omega⟩) br2) (ag_cons rfl (ag_cons rfl (ag_cons rfl ag_nil)))) rfl ?_
  refine st rfl rfl (eff_moveg rfl rfl) rfl ?_
  refine st rfl rfl (eff_extract rfl rfl rfl) rfl ?_
  refine st rfl rfl (eff_extract rfl rfl rfl) rfl ?_
  refine st_w rfl rfl (eff_alloc 9 rfl z140 rfl rfl) rfl ?_
  refine st_wn rfl rfl (eff_store (tv := .g (G.agg [G.sl 1 (List.map cInt r2.1.Slots), G.sl 1 (List.map cInt r2.1.Records)])) rfl ty140 rfl rfl rfl rfl rfl) ?_
  refine st rfl rfl (eff_assigng rfl rfl) rfl ?_
  refine st_nil ?_
  refine aw_seq ?_
  refine Exists.elim (bindO_inv hR) (fun r3 hq_ => ?_)
  have br3 := hq_.1
  replace hR := hq_.2
  clear hq_
  refine aw_region [.p, .p, .p, .p, .p, .p, .p, .p, .p] ?_
  refine st rfl rfl (eff_loadA rfl ty24 rfl rfl rfl) rfl ?_
  refine st rfl rfl (eff_moveg rfl rfl) rfl ?_
  refine st rfl rfl (eff_moveg rfl rfl) rfl ?_
  refine st rfl rfl (eff_call rfl K45 rfl (c45 a0 a1.Slots a1.Records (fun _ => ⟨by omega, by omega⟩) br3) (ag_cons rfl (ag_cons rfl (ag_cons rfl ag_nil)))) rfl ?_
  refine st rfl rfl (eff_moveg rfl rfl) rfl ?_
  refine st rfl rfl (eff_extract rfl rfl rfl) rfl ?_
  refine st rfl rfl (eff_extract rfl rfl rfl) rfl ?_
  refine st rfl rfl (eff_assigng rfl rfl) rfl ?_
  refine st rfl rfl (eff_assigng rfl rfl) rfl ?_
  refine st_nil ?_
  refine aw_seq ?_
  refine Exists.elim (bindO_inv hR) (fun r4 hq_ => ?_)
  have br4 := hq_.1
  replace hR := hq_.2
  clear hq_
  refine aw_region [.p, .p, .p, .p, .p, .p, .p, .p, .p] ?_
  refine st rfl rfl (eff_loadA rfl ty24 rfl rfl rfl) rfl ?_
  refine st rfl rfl (eff_moveg rfl rfl) rfl ?_
  refine st rfl rfl (eff_moveg rfl rfl) rfl ?_
  refine st rfl rfl (eff_call rfl K46 rfl (c46 a0 a1.Slots a1.Records (fun _ => ⟨by omega, by omega⟩) br4) (ag_cons rfl (ag_cons rfl (ag_cons rfl ag_nil)))) rfl ?_
  refine st rfl rfl (eff_moveg rfl rfl) rfl ?_
  refine st rfl rfl (eff_extract rfl rfl rfl) rfl ?_
  refine st rfl rfl (eff_extract rfl rfl rfl) rfl ?_
  refine st rfl rfl (eff_assigng rfl rfl) rfl ?_
  refine st rfl rfl (eff_assigng rfl rfl) rfl ?_
  refine st_nil ?_
  refine aw_seq ?_
  refine aw_seq ?_
  refine Exists.elim (bindO_inv hR) (fun r5 hq_ => ?_)
  have br5 := hq_.1
  replace hR := hq_.2
  clear hq_
  refine aw_region [.p, .p, .p, .p, .p, .p, .p, .p, .p, .p, .p, .p, .p, .p, .p, .p, .p, .p, .r, .p, .p, .r, .p, .p, .p, .p, .p, .p, .p, .p, .p, .p, .p, .p, .p, .p, .p, .p, .p, .p, .p, .p, .p, .p, .p, .p, .p, .p] ?_
  refine st rfl rfl (eff_moveg rfl rfl) rfl ?_
  refine st rfl rfl (eff_moveg rfl rfl) rfl ?_
  refine st rfl rfl (eff_addw rfl rfl rfl) rfl ?_
  refine st rfl rfl (eff_moveg rfl rfl) rfl ?_
  refine st rfl rfl (eff_addw rfl rfl rfl) rfl ?_
  refine st rfl rfl (eff_moveg rfl rfl) rfl ?_
  refine st rfl rfl (eff_addw rfl rfl rfl) rfl ?_
  refine st rfl rfl (eff_neq rfl rfl rfl) rfl ?_
  refine st rfl rfl (eff_moveg rfl rfl) rfl ?_
  refine st_g rfl rfl rfl (gb_bool _ _) (fun h => eff_loadA rfl ty24 rfl rfl rfl) rfl ?_
  refine st_g rfl rfl rfl (gb_bool _ _) (fun h => eff_moveg rfl rfl) rfl ?_
  refine st_g rfl rfl rfl (gb_bool _ _) (fun h => eff_moveg rfl rfl) rfl ?_
  refine st_g rfl rfl rfl (gb_bool _ _) (fun h => eff_moveg rfl rfl) rfl ?_
  refine st_g rfl rfl rfl (gb_bool _ _) (fun h => eff_call rfl K75 rfl (c75 a0 a1.Slots a1.Records r1.1 (fun _ => ⟨by omega, by omega⟩) (condF1 br5 h)) (ag_cons (gd h rfl) (ag_cons (gd h rfl) (ag_cons (gd h rfl) (ag_cons (gd h rfl) ag_nil))))) rfl ?_
  refine st_g rfl rfl rfl (gb_bool _ _) (fun h => eff_neq rfl (gd h rfl) rfl) rfl ?_
  refine st rfl rfl (eff_or rfl rfl rfl rfl) rfl ?_
  refine st rfl rfl (eff_moveg rfl rfl) rfl ?_
  refine st_g rfl rfl rfl (gb_bool _ _) (fun h => eff_fieldO rfl fl140_0 rfl) rfl ?_
  refine st_gr rfl rfl rfl (gb_bool _ _) (fun h => eff_loadO rfl ty82 (gd h rfl) rfl rfl) rfl ?_
  refine st_g rfl rfl rfl (gb_bool _ _) (fun h => eff_lenM (f := cInt) (l := r2.1.Slots) rfl Tryz.underlying82 (gd h rfl)) rfl ?_
  refine st_g rfl rfl rfl (gb_bool _ _) (fun h => eff_fieldO rfl fl140_1 rfl) rfl ?_
  refine st_gr rfl rfl rfl (gb_bool _ _) (fun h => eff_loadO rfl ty82 (gd h rfl) rfl rfl) rfl ?_
  refine st_g rfl rfl rfl (gb_bool _ _) (fun h => eff_lenM (f := cInt) (l := r2.1.Records) rfl Tryz.underlying82 (gd h rfl)) rfl ?_
  refine st_g rfl rfl rfl (gb_bool _ _) (fun h => eff_addw rfl (gd h rfl) (gd h rfl)) rfl ?_
  refine st_g rfl rfl rfl (gb_bool _ _) (fun h => eff_moveg rfl rfl) rfl ?_
  refine st_g rfl rfl rfl (gb_bool _ _) (fun h => eff_lenM (f := S154.c) (l := r1.1) rfl Tryz.underlying79 (gd h rfl)) rfl ?_
  refine st_g rfl rfl rfl (gb_bool _ _) (fun h => eff_neq rfl (gd h rfl) (gd h rfl)) rfl ?_
  refine st rfl rfl (eff_or rfl rfl rfl rfl) rfl ?_
  refine st rfl rfl (eff_moveg rfl rfl) rfl ?_
  refine st_g rfl rfl rfl (gb_bool _ _) (fun h => eff_moveg rfl rfl) rfl ?_
  refine st_g rfl rfl rfl (gb_bool _ _) (fun h => eff_lenM (f := cInt) (l := r3.1) rfl Tryz.underlying82 (gd h rfl)) rfl ?_
  refine st_g rfl rfl rfl (gb_bool _ _) (fun h => eff_moveg rfl rfl) rfl ?_
  refine st_g rfl rfl rfl (gb_bool _ _) (fun h => eff_lenM (f := S154.c) (l := r1.1) rfl Tryz.underlying79 (gd h rfl)) rfl ?_
  refine st_g rfl rfl rfl (gb_bool _ _) (fun h => eff_addw rfl (gd h rfl) (gd h rfl)) rfl ?_
  refine st_g rfl rfl rfl (gb_bool _ _) (fun h => eff_moveg rfl rfl) rfl ?_
  refine st_g rfl rfl rfl (gb_bool _ _) (fun h => eff_lenM (f := S151.c) (l := a1.Slots) rfl Tryz.underlying25 (gd h rfl)) rfl ?_
  refine st_g rfl rfl rfl (gb_bool _ _) (fun h => eff_neq rfl (gd h rfl) (gd h rfl)) rfl ?_
  refine st rfl rfl (eff_or rfl rfl rfl rfl) rfl ?_
  refine st rfl rfl (eff_moveg rfl rfl) rfl ?_
  refine st_g rfl rfl rfl (gb_bool _ _) (fun h => eff_moveg rfl rfl) rfl ?_
  refine st_g rfl rfl rfl (gb_bool _ _) (fun h => eff_lenM (f := cInt) (l := r4.1) rfl Tryz.underlying82 (gd h rfl)) rfl ?_
  refine st_g rfl rfl rfl (gb_bool _ _) (fun h => eff_moveg rfl rfl) rfl ?_
  refine st_g rfl rfl rfl (gb_bool _ _) (fun h => eff_lenM (f := S154.c) (l := r1.1) rfl Tryz.underlying79 (gd h rfl)) rfl ?_
  refine st_g rfl rfl rfl (gb_bool _ _) (fun h => eff_addw rfl (gd h rfl) (gd h rfl)) rfl ?_
  refine st_g rfl rfl rfl (gb_bool _ _) (fun h => eff_moveg rfl rfl) rfl ?_
  refine st_g rfl rfl rfl (gb_bool _ _) (fun h => eff_lenM (f := S151.c) (l := a1.Records) rfl Tryz.underlying25 (gd h rfl)) rfl ?_
  refine st_g rfl rfl rfl (gb_bool _ _) (fun h => eff_neq rfl (gd h rfl) (gd h rfl)) rfl ?_
  refine st rfl rfl (eff_or rfl rfl rfl rfl) rfl ?_
  refine st_nil ?_
  refine aw_cond _ rfl (fun h2 => ?_) (fun h2 => ?_)
  ·replace h2 : (((((decide (IntKind.i64.wrap ((IntKind.i64.wrap ((IntKind.i64.wrap (r1.2 + r2.2)) + r3.2)) + r4.2) ≠ 0)) || (decide (r5 ≠ 0))) || (decide (IntKind.i64.wrap ((List.length r2.1.Slots : Int) + (List.length r2.1.Records : Int)) ≠ (List.length r1.1 : Int)))) || (decide (IntKind.i64.wrap ((List.length r3.1 : Int) + (List.length r1.1 : Int)) ≠ (List.length a1.Slots : Int)))) || (decide (IntKind.i64.wrap ((List.length r4.1 : Int) + (List.length r1.1 : Int)) ≠ (List.length a1.Records : Int)))) = true := h2
   replace hR := condT hR h2
   try simp only [Bool.or_eq_true, Bool.and_eq_true, Bool.or_eq_false_iff, Bool.and_eq_false_iff, Bool.not_eq_true', Bool.not_eq_false', decide_eq_true_eq, decide_eq_false_iff_not] at h2
   refine aw_seq ?_
   refine aw_region [.p] ?_
   refine st rfl rfl (eff_assigng rfl rfl) rfl ?_
   refine st_nil ?_
   refine aw_ret ?_
   exact res_e (res_c rfl (rv_g rfl)) (congrArg (fun R_ => G.bool R_) (Option.some.inj hR))
  ·replace h2 : (((((decide (IntKind.i64.wrap ((IntKind.i64.wrap ((IntKind.i64.wrap (r1.2 + r2.2)) + r3.2)) + r4.2) ≠ 0)) || (decide (r5 ≠ 0))) || (decide (IntKind.i64.wrap ((List.length r2.1.Slots : Int) + (List.length r2.1.Records : Int)) ≠ (List.length r1.1 : Int)))) || (decide (IntKind.i64.wrap ((List.length r3.1 : Int) + (List.length r1.1 : Int)) ≠ (List.length a1.Slots : Int)))) || (decide (IntKind.i64.wrap ((List.length r4.1 : Int) + (List.length r1.1 : Int)) ≠ (List.length a1.Records : Int)))) = false := h2
   replace hR := condF hR h2
   try simp only [Bool.or_eq_true, Bool.and_eq_true, Bool.or_eq_false_iff, Bool.and_eq_false_iff, Bool.not_eq_true', Bool.not_eq_false', decide_eq_true_eq, decide_eq_false_iff_not] at h2
   refine aw_skip ?_
   refine aw_seq ?_
   refine aw_seq ?_
   refine aw_region [.p, .p, .p] ?_
   refine st rfl rfl (eff_moveg rfl rfl) rfl ?_
   refine st rfl rfl (eff_lenM (f := S151.c) (l := a1.Slots) rfl Tryz.underlying25 rfl) rfl ?_
   refine st rfl rfl (eff_moveg rfl rfl) rfl ?_
   refine st_nil ?_
   refine aw_block ?_
   refine aw_loop_g (γ := Nat × (List S151)) (fun g => ([(2, .g (G.ref [G.int a0.Before, G.int a0.After, G.int a0.Notice, G.int a0.Share, G.sl 1 (List.map cStr a0.Causes), G.int a0.Off, G.int a0.Run])), (3, .g (G.ref [G.sl 3 (List.map S151.c a1.Slots), G.sl 3 (List.map S151.c a1.Records), G.sl 2 (List.map S154.c a1.Pairs), G.sl 1 (List.map cInt a1.Cover.Slots), G.sl 1 (List.map cInt a1.Cover.Records)])), (5, .g (G.sl 3 (List.map S151.c a1.Slots))), (6, .g (G.sl 3 (List.map S151.c a1.Records))), (7, .g (G.sl 2 (List.map S154.c r1.1))), (9, .ptr 9 0), (155, .g (G.sl 3 (List.map S151.c a1.Slots))), (156, .g (G.int (List.length a1.Slots : Int))), (157, .g (G.int ((g.1 : Nat) : Int)))], [(9, .box [.g (G.sl 1 (List.map cInt r2.1.Slots)), .g (G.sl 1 (List.map cInt r2.1.Records))])])) (fun g => a1.Slots.drop g.1 = g.2 ∧ s15_l1 a0 a1 r1 r2 g.2 g.1 = some R) (fun g => List.length g.2) ⟨rfl, (0, a1.Slots), ⟨rfl, rfl, rfl, rfl, rfl, rfl, rfl, rfl, rfl, trivial⟩, ⟨rfl, trivial⟩, rfl, ⟨rfl, hR⟩, trivial⟩ ?_
   ·rintro ⟨k7, u9⟩ ⟨hd, hR⟩
    replace hd : a1.Slots.drop k7 = u9 := hd
    replace hR : s15_l1 a0 a1 r1 r2 u9 k7 = some R := hR
    refine aw_seq ?_
    refine aw_region [.p] ?_
    refine st rfl rfl (eff_lss rfl rfl rfl) rfl ?_
    refine st_nil ?_
    refine len_sl (f := S151.c) (l := a1.Slots) 5 rfl fun hlz1 => ?_
    refine aw_seq ?_
    refine aw_cond _ rfl (fun h3 => ?_) (fun h3 => ?_)
    ·replace h3 : (decide (((k7 : Nat) : Int) < (List.length a1.Slots : Int))) = true := h3
     refine Exists.elim (drop_cons hd (decT h3)) (fun y8 hq_ => ?_)
     refine Exists.elim hq_ (fun t9 hqq_ => ?_)
     have et9 := hqq_.1
     have hx1 := hqq_.2.1
     replace hd := hqq_.2.2
     clear hqq_ hq_
     rw [et9] at hR
     replace h3 := decT h3
     rw [s15_l1] at hR
     try dsimp only at hR
     refine aw_skip ?_
     refine aw_seq ?_
     refine aw_block ?_
     refine aw_seq ?_
     refine aw_region [.p, .p, .p, .w, .p, .w] ?_
     refine st rfl rfl (eff_moveg rfl rfl) rfl ?_
     refine st rfl rfl (eff_ix (f := S151.c) (l := a1.Slots) (a := y8) rfl Tryz.underlying25 ty152 rfl rfl (Int.natCast_nonneg _) hx1) rfl ?_
     refine st rfl rfl (eff_loadA rfl ty152 rfl rfl rfl) rfl ?_
     refine st_w rfl rfl (eff_alloc 16 rfl z152 rfl rfl) rfl ?_
     refine st rfl rfl (eff_assigng rfl rfl) rfl ?_
     refine st_wn rfl rfl (eff_store (tv := .g (G.agg [G.str y8.Name, G.int y8.Moment, G.str y8.Kind])) rfl ty152 rfl rfl rfl rfl rfl) ?_
     refine st_nil ?_
     refine aw_seq ?_
     refine aw_region [.p, .p, .p] ?_
     refine st rfl rfl (eff_moveg rfl rfl) rfl ?_
     refine st rfl rfl (eff_lenM (f := S151.c) (l := a1.Records) rfl Tryz.underlying25 rfl) rfl ?_
     refine st rfl rfl (eff_moveg rfl rfl) rfl ?_
     refine st_nil ?_
     refine aw_block ?_
     refine aw_loop_g (γ := Nat × (List S151)) (fun g => ([(2, .g (G.ref [G.int a0.Before, G.int a0.After, G.int a0.Notice, G.int a0.Share, G.sl 1 (List.map cStr a0.Causes), G.int a0.Off, G.int a0.Run])), (3, .g (G.ref [G.sl 3 (List.map S151.c a1.Slots), G.sl 3 (List.map S151.c a1.Records), G.sl 2 (List.map S154.c a1.Pairs), G.sl 1 (List.map cInt a1.Cover.Slots), G.sl 1 (List.map cInt a1.Cover.Records)])), (5, .g (G.sl 3 (List.map S151.c a1.Slots))), (6, .g (G.sl 3 (List.map S151.c a1.Records))), (7, .g (G.sl 2 (List.map S154.c r1.1))), (9, .ptr 9 0), (15, .g (G.int ((k7 : Nat) : Int))), (16, .ptr 16 0), (155, .g (G.sl 3 (List.map S151.c a1.Slots))), (156, .g (G.int (List.length a1.Slots : Int))), (157, .g (G.int ((k7 : Nat) : Int))), (162, .g (G.sl 3 (List.map S151.c a1.Records))), (163, .g (G.int (List.length a1.Records : Int))), (164, .g (G.int ((g.1 : Nat) : Int)))], [(9, .box [.g (G.sl 1 (List.map cInt r2.1.Slots)), .g (G.sl 1 (List.map cInt r2.1.Records))]), (16, .box [.g (G.str y8.Name), .g (G.int y8.Moment), .g (G.str y8.Kind)])])) (fun g => a1.Records.drop g.1 = g.2 ∧ s15_l4 (fun k_ => s15_l1 a0 a1 r1 r2 t9 k_) a0 r2 k7 y8 g.2 g.1 = some R) (fun g => List.length g.2) ⟨rfl, (0, a1.Records), ⟨rfl, rfl, rfl, rfl, rfl, rfl, rfl, rfl, rfl, rfl, rfl, rfl, rfl, rfl, trivial⟩, ⟨rfl, rfl, trivial⟩, rfl, ⟨rfl, hR⟩, trivial⟩ ?_
     ·rintro ⟨k25, u27⟩ ⟨hd4, hR⟩
      replace hd4 : a1.Records.drop k25 = u27 := hd4
      replace hR : s15_l4 (fun k_ => s15_l1 a0 a1 r1 r2 t9 k_) a0 r2 k7 y8 u27 k25 = some R := hR
      refine aw_seq ?_
      refine aw_region [.p] ?_
      refine st rfl rfl (eff_lss rfl rfl rfl) rfl ?_
      refine st_nil ?_
      refine len_sl (f := S151.c) (l := a1.Records) 6 rfl fun hlz4 => ?_
      refine aw_seq ?_
      refine aw_cond _ rfl (fun h11 => ?_) (fun h11 => ?_)
      ·replace h11 : (decide (((k25 : Nat) : Int) < (List.length a1.Records : Int))) = true := h11
       refine Exists.elim (drop_cons hd4 (decT h11)) (fun y26 hq_ => ?_)
       refine Exists.elim hq_ (fun t27 hqq_ => ?_)
       have et27 := hqq_.1
       have hx4 := hqq_.2.1
       replace hd4 := hqq_.2.2
       clear hqq_ hq_
       rw [et27] at hR
       replace h11 := decT h11
       rw [s15_l4] at hR
       try dsimp only at hR
       refine aw_skip ?_
       refine aw_seq ?_
       refine aw_block ?_
       refine aw_seq ?_
       refine aw_region [.p, .p, .p, .w, .p, .w] ?_
       refine st rfl rfl (eff_moveg rfl rfl) rfl ?_
       refine st rfl rfl (eff_ix (f := S151.c) (l := a1.Records) (a := y26) rfl Tryz.underlying25 ty152 rfl rfl (Int.natCast_nonneg _) hx4) rfl ?_
       refine st rfl rfl (eff_loadA rfl ty152 rfl rfl rfl) rfl ?_
       refine st_w rfl rfl (eff_alloc 18 rfl z152 rfl rfl) rfl ?_
       refine st rfl rfl (eff_assigng rfl rfl) rfl ?_
       refine st_wn rfl rfl (eff_store (tv := .g (G.agg [G.str y26.Name, G.int y26.Moment, G.str y26.Kind])) rfl ty152 rfl rfl rfl rfl rfl) ?_
       refine st_nil ?_
       refine aw_seq ?_
       refine aw_region [.p, .r, .p, .r, .p, .p, .p, .r, .p, .r, .p, .p, .p, .p, .r, .p, .r, .p, .p, .p, .p, .p, .p, .p, .r, .p, .r, .p, .p, .p, .p, .p, .p, .p, .r, .p, .p, .p, .p, .p, .p, .r, .p, .p, .p, .p] ?_
       refine st rfl rfl (eff_fieldO rfl fl152_0 rfl) rfl ?_
       refine st_r rfl rfl (eff_loadO rfl ty9 rfl rfl rfl) rfl ?_
       refine st rfl rfl (eff_fieldO rfl fl152_0 rfl) rfl ?_
       refine st_r rfl rfl (eff_loadO rfl ty9 rfl rfl rfl) rfl ?_
       refine st rfl rfl (eff_seq rfl rfl rfl) rfl ?_
       refine st rfl rfl (eff_moveg rfl rfl) rfl ?_
       refine st_g rfl rfl rfl (gb_bool _ _) (fun h => eff_fieldO rfl fl152_2 rfl) rfl ?_
       refine st_gr rfl rfl rfl (gb_bool _ _) (fun h => eff_loadO rfl ty9 (gd h rfl) rfl rfl) rfl ?_
       refine st_g rfl rfl rfl (gb_bool _ _) (fun h => eff_fieldO rfl fl152_2 rfl) rfl ?_
       refine st_gr rfl rfl rfl (gb_bool _ _) (fun h => eff_loadO rfl ty9 (gd h rfl) rfl rfl) rfl ?_
       refine st_g rfl rfl rfl (gb_bool _ _) (fun h => eff_seq rfl (gd h rfl) (gd h rfl)) rfl ?_
       refine st rfl rfl (eff_and rfl rfl rfl rfl) rfl ?_
       refine st rfl rfl (eff_moveg rfl rfl) rfl ?_
       refine st_g rfl rfl rfl (gb_bool _ _) (fun h => eff_fieldO rfl fl152_1 rfl) rfl ?_
       refine st_gr rfl rfl rfl (gb_bool _ _) (fun h => eff_loadO rfl ty3 (gd h rfl) rfl rfl) rfl ?_
       refine st_g rfl rfl rfl (gb_bool _ _) (fun h => eff_fieldO rfl fl152_1 rfl) rfl ?_
       refine st_gr rfl rfl rfl (gb_bool _ _) (fun h => eff_loadO rfl ty3 (gd h rfl) rfl rfl) rfl ?_
       refine st_g rfl rfl rfl (gb_bool _ _) (fun h => eff_subw rfl (gd h rfl) (gd h rfl)) rfl ?_
       refine st_g rfl rfl rfl (gb_bool _ _) (fun h => eff_fieldAddr rfl fl24_1 rfl) rfl ?_
       refine st_g rfl rfl rfl (gb_bool _ _) (fun h => eff_load rfl ty3 (gd h rfl)) rfl ?_
       refine st_g rfl rfl rfl (gb_bool _ _) (fun h => eff_leq rfl (gd h rfl) (gd h rfl)) rfl ?_
       refine st rfl rfl (eff_and rfl rfl rfl rfl) rfl ?_
       refine st rfl rfl (eff_moveg rfl rfl) rfl ?_
       refine st_g rfl rfl rfl (gb_bool _ _) (fun h => eff_fieldO rfl fl152_1 rfl) rfl ?_
       refine st_gr rfl rfl rfl (gb_bool _ _) (fun h => eff_loadO rfl ty3 (gd h rfl) rfl rfl) rfl ?_
       refine st_g rfl rfl rfl (gb_bool _ _) (fun h => eff_fieldO rfl fl152_1 rfl) rfl ?_
       refine st_gr rfl rfl rfl (gb_bool _ _) (fun h => eff_loadO rfl ty3 (gd h rfl) rfl rfl) rfl ?_
       refine st_g rfl rfl rfl (gb_bool _ _) (fun h => eff_subw rfl (gd h rfl) (gd h rfl)) rfl ?_
       refine st_g rfl rfl rfl (gb_bool _ _) (fun h => eff_fieldAddr rfl fl24_0 rfl) rfl ?_
       refine st_g rfl rfl rfl (gb_bool _ _) (fun h => eff_load rfl ty3 (gd h rfl)) rfl ?_
       refine st_g rfl rfl rfl (gb_bool _ _) (fun h => eff_leq rfl (gd h rfl) (gd h rfl)) rfl ?_
       refine st rfl rfl (eff_and rfl rfl rfl rfl) rfl ?_
       refine st rfl rfl (eff_moveg rfl rfl) rfl ?_
       refine st_g rfl rfl rfl (gb_bool _ _) (fun h => eff_fieldO rfl fl140_0 rfl) rfl ?_
       refine st_gr rfl rfl rfl (gb_bool _ _) (fun h => eff_loadO rfl ty82 (gd h rfl) rfl rfl) rfl ?_
       refine st_g rfl rfl rfl (gb_bool _ _) (fun h => eff_moveg rfl rfl) rfl ?_
       refine st_g rfl rfl rfl (gb_bool _ _) (fun h => eff_call rfl K80 rfl (c80 r2.1.Slots ((k7 : Nat) : Int)) (ag_cons (gd h rfl) (ag_cons (gd h rfl) ag_nil))) rfl ?_
       refine st_g rfl rfl rfl (gb_bool _ _) (fun h => eff_not rfl (gd h rfl)) rfl ?_
       refine st rfl rfl (eff_and rfl rfl rfl rfl) rfl ?_
       refine st rfl rfl (eff_moveg rfl rfl) rfl ?_
       refine st_g rfl rfl rfl (gb_bool _ _) (fun h => eff_fieldO rfl fl140_1 rfl) rfl ?_
       refine st_gr rfl rfl rfl (gb_bool _ _) (fun h => eff_loadO rfl ty82 (gd h rfl) rfl rfl) rfl ?_
       refine st_g rfl rfl rfl (gb_bool _ _) (fun h => eff_moveg rfl rfl) rfl ?_
       refine st_g rfl rfl rfl (gb_bool _ _) (fun h => eff_call rfl K80 rfl (c80 r2.1.Records ((k25 : Nat) : Int)) (ag_cons (gd h rfl) (ag_cons (gd h rfl) ag_nil))) rfl ?_
       refine st_g rfl rfl rfl (gb_bool _ _) (fun h => eff_not rfl (gd h rfl)) rfl ?_
       refine st rfl rfl (eff_and rfl rfl rfl rfl) rfl ?_
       refine st_nil ?_
       refine aw_cond _ rfl (fun h13 => ?_) (fun h13 => ?_)
       ·replace h13 : ((((((decide (y8.Name = y26.Name)) && (decide (y8.Kind = y26.Kind))) && (decide (IntKind.i64.wrap (y26.Moment - y8.Moment) ≤ a0.After))) && (decide (IntKind.i64.wrap (y8.Moment - y26.Moment) ≤ a0.Before))) && (!(s80 r2.1.Slots ((k7 : Nat) : Int)))) && (!(s80 r2.1.Records ((k25 : Nat) : Int)))) = true := h13
        replace hR := condT hR h13
        try simp only [Bool.or_eq_true, Bool.and_eq_true, Bool.or_eq_false_iff, Bool.and_eq_false_iff, Bool.not_eq_true', Bool.not_eq_false', decide_eq_true_eq, decide_eq_false_iff_not] at h13
        refine aw_seq ?_
        refine aw_region [.p] ?_
        refine st rfl rfl (eff_assigng rfl rfl) rfl ?_
        refine st_nil ?_
        refine aw_ret ?_
        exact res_e (res_c rfl (rv_g rfl)) (congrArg (fun R_ => G.bool R_) (Option.some.inj hR))
       ·replace h13 : ((((((decide (y8.Name = y26.Name)) && (decide (y8.Kind = y26.Kind))) && (decide (IntKind.i64.wrap (y26.Moment - y8.Moment) ≤ a0.After))) && (decide (IntKind.i64.wrap (y8.Moment - y26.Moment) ≤ a0.Before))) && (!(s80 r2.1.Slots ((k7 : Nat) : Int)))) && (!(s80 r2.1.Records ((k25 : Nat) : Int)))) = false := h13
        replace hR := condF hR h13
        try simp only [Bool.or_eq_true, Bool.and_eq_true, Bool.or_eq_false_iff, Bool.and_eq_false_iff, Bool.not_eq_true', Bool.not_eq_false', decide_eq_true_eq, decide_eq_false_iff_not] at h13
        refine aw_skip ?_
        refine aw_region [.p, .p] ?_
        refine st rfl rfl (eff_add rfl rfl rfl (by unfold I64; omega)) rfl ?_
        refine st rfl rfl (eff_moveg rfl rfl) rfl ?_
        refine st_nil ?_
        exact ⟨rfl, (k25 + 1, t27), ⟨rfl, rfl, rfl, rfl, rfl, rfl, rfl, rfl, rfl, rfl, rfl, rfl, rfl, rfl, trivial⟩, ⟨rfl, rfl, trivial⟩, rfl, ⟨hd4, hR⟩, by simp [et27]⟩
      ·replace h11 : (decide (((k25 : Nat) : Int) < (List.length a1.Records : Int))) = false := h11
       have hn_ := drop_nil hd4 (decF h11)
       rw [hn_] at hR
       rw [s15_l4] at hR
       refine aw_exit ?_
       refine aw_region [.p, .p] ?_
       refine st rfl rfl (eff_add rfl rfl rfl (by unfold I64; omega)) rfl ?_
       refine st rfl rfl (eff_moveg rfl rfl) rfl ?_
       refine st_nil ?_
       exact ⟨rfl, (k7 + 1, t9), ⟨rfl, rfl, rfl, rfl, rfl, rfl, rfl, rfl, rfl, trivial⟩, ⟨rfl, trivial⟩, rfl, ⟨hd, hR⟩, by simp [et9]⟩
    ·replace h3 : (decide (((k7 : Nat) : Int) < (List.length a1.Slots : Int))) = false := h3
     have hn_ := drop_nil hd (decF h3)
     rw [hn_] at hR
     rw [s15_l1] at hR
     refine aw_exit ?_
     refine aw_seq ?_
     refine aw_seq ?_
     refine Exists.elim (bindO_inv hR) (fun r10 hq_ => ?_)
     have br10 := hq_.1
     replace hR := hq_.2
     clear hq_
     refine aw_region [.p, .p, .p, .p, .p, .p, .p, .p, .p, .p, .p, .p, .p, .p, .p] ?_
     refine st rfl rfl (eff_loadA rfl ty24 rfl rfl rfl) rfl ?_
     refine st rfl rfl (eff_moveg rfl rfl) rfl ?_
     refine st rfl rfl (eff_moveg rfl rfl) rfl ?_
     refine st rfl rfl (eff_fieldAddr rfl fl142_2 rfl) rfl ?_
     refine st rfl rfl (eff_load rfl ty79 rfl) rfl ?_
     refine st rfl rfl (eff_call rfl K75 rfl (c75 a0 a1.Slots a1.Records a1.Pairs (fun _ => ⟨by omega, by omega⟩) br10) (ag_cons rfl (ag_cons rfl (ag_cons rfl (ag_cons rfl ag_nil))))) rfl ?_
     refine st rfl rfl (eff_eql rfl rfl rfl) rfl ?_
     refine st rfl rfl (eff_moveg rfl rfl) rfl ?_
     refine st_g rfl rfl rfl (gb_bool _ _) (fun h => eff_fieldAddr rfl fl142_2 rfl) rfl ?_
     refine st_g rfl rfl rfl (gb_bool _ _) (fun h => eff_load rfl ty79 (gd h rfl)) rfl ?_
     refine st_g rfl rfl rfl (gb_bool _ _) (fun h => eff_lenM (f := S154.c) (l := a1.Pairs) rfl Tryz.underlying79 (gd h rfl)) rfl ?_
     refine st_g rfl rfl rfl (gb_bool _ _) (fun h => eff_moveg rfl rfl) rfl ?_
     refine st_g rfl rfl rfl (gb_bool _ _) (fun h => eff_lenM (f := S154.c) (l := r1.1) rfl Tryz.underlying79 (gd h rfl)) rfl ?_
     refine st_g rfl rfl rfl (gb_bool _ _) (fun h => eff_gtr rfl (gd h rfl) (gd h rfl)) rfl ?_
     refine st rfl rfl (eff_and rfl rfl rfl rfl) rfl ?_
     refine st_nil ?_
     refine aw_cond _ rfl (fun h5 => ?_) (fun h5 => ?_)
     ·replace h5 : ((decide (r10 = 0)) && (decide ((List.length r1.1 : Int) < (List.length a1.Pairs : Int)))) = true := h5
      replace hR := condT hR h5
      try simp only [Bool.or_eq_true, Bool.and_eq_true, Bool.or_eq_false_iff, Bool.and_eq_false_iff, Bool.not_eq_true', Bool.not_eq_false', decide_eq_true_eq, decide_eq_false_iff_not] at h5
      refine aw_seq ?_
      refine aw_region [.p] ?_
      refine st rfl rfl (eff_assigng rfl rfl) rfl ?_
      refine st_nil ?_
      refine aw_ret ?_
      exact res_e (res_c rfl (rv_g rfl)) (congrArg (fun R_ => G.bool R_) (Option.some.inj hR))
     ·replace h5 : ((decide (r10 = 0)) && (decide ((List.length r1.1 : Int) < (List.length a1.Pairs : Int)))) = false := h5
      replace hR := condF hR h5
      try simp only [Bool.or_eq_true, Bool.and_eq_true, Bool.or_eq_false_iff, Bool.and_eq_false_iff, Bool.not_eq_true', Bool.not_eq_false', decide_eq_true_eq, decide_eq_false_iff_not] at h5
      refine aw_skip ?_
      refine aw_seq ?_
      refine aw_region [.w] ?_
      refine st_w rfl rfl (eff_nilL 19 152 3 rfl rfl rfl) rfl ?_
      refine st_nil ?_
      refine aw_seq ?_
      refine aw_seq ?_
      refine aw_region [.p, .p, .p, .p] ?_
      refine st rfl rfl (eff_moveg rfl rfl) rfl ?_
      refine st rfl rfl (eff_lenM (f := S151.c) (l := a1.Slots) rfl Tryz.underlying25 rfl) rfl ?_
      refine st rfl rfl (eff_subw rfl rfl rfl) rfl ?_
      refine st rfl rfl (eff_assigng rfl rfl) rfl ?_
      refine st_nil ?_
      refine aw_block ?_
      refine aw_loop_g (γ := Nat × (List S151) × Int) (fun g => ([(2, .g (G.ref [G.int a0.Before, G.int a0.After, G.int a0.Notice, G.int a0.Share, G.sl 1 (List.map cStr a0.Causes), G.int a0.Off, G.int a0.Run])), (5, .g (G.sl 3 (List.map S151.c a1.Slots))), (6, .g (G.sl 3 (List.map S151.c a1.Records))), (7, .g (G.sl 2 (List.map S154.c r1.1))), (19, .osl 19 3 0 (List.length g.2.1)), (20, .g (G.int g.2.2))], [(19, .arr 152 3 (List.map S151.c g.2.1))])) (fun g => (g.2.2 + 1).toNat < g.1 ∧ -1 ≤ g.2.2 ∧ (g.2.1.length : Int) + g.2.2 + 1 = (a1.Slots.length : Int) ∧ s15_l2 a0 a1 r1 g.1 g.2.1 g.2.2 = some R) (fun g => g.1) ⟨rfl, ((((IntKind.i64.wrap ((List.length a1.Slots : Int) - 1)) + 1).toNat) + 1, [], IntKind.i64.wrap ((List.length a1.Slots : Int) - 1)), ⟨rfl, rfl, rfl, rfl, rfl, rfl, trivial⟩, ⟨rfl, trivial⟩, rfl, ⟨Nat.lt_succ_self _, (by dsimp only; omega), (by simp only [List.length_nil]; omega), hR⟩, trivial⟩ ?_
      ·rintro ⟨k13, x11, x12⟩ ⟨hk2, iv2_0, iv2_1, hR⟩
       replace hk2 : (x12 + 1).toNat < k13 := hk2
       replace hR : s15_l2 a0 a1 r1 k13 x11 x12 = some R := hR
       replace iv2_0 : -1 ≤ x12 := iv2_0
       replace iv2_1 : (x11.length : Int) + x12 + 1 = (a1.Slots.length : Int) := iv2_1
       obtain ⟨k13, rfl⟩ : ∃ m, k13 = m + 1 := ⟨k13 - 1, by omega⟩
       rw [s15_l2] at hR
       try dsimp only at hR
       have hw := wrap_i64 (n := x12 - 1) ⟨by omega, by omega⟩
       refine aw_seq ?_
       refine aw_seq ?_
       refine aw_region [.p, .p] ?_
       refine st rfl rfl (eff_moveg rfl rfl) rfl ?_
       refine st rfl rfl (eff_geq rfl rfl rfl) rfl ?_
       refine st_nil ?_
       refine aw_cond _ rfl (fun h6 => ?_) (fun h6 => ?_)
       ·replace h6 : (decide (0 ≤ x12)) = true := h6
        replace hR := condT hR h6
        try simp only [decide_eq_true_eq] at h6
        refine aw_skip ?_
        refine aw_seq ?_
        refine aw_block ?_
        refine Exists.elim (bindO_inv hR) (fun y14 hq_ => ?_)
        have by14 := hq_.1
        replace hR := hq_.2
        clear hq_
        refine aw_region [.p, .p, .p, .p, .p, .p, .k, .p] ?_
        refine st rfl rfl (eff_moveO rfl rfl) rfl ?_
        refine st rfl rfl (eff_moveg rfl rfl) rfl ?_
        refine st rfl rfl (eff_moveg rfl rfl) rfl ?_
        refine st rfl rfl (eff_ix (f := S151.c) (l := a1.Slots) (a := y14) rfl Tryz.underlying25 ty152 rfl rfl (ixO_nn by14) (ixO_get by14)) rfl ?_
        refine st rfl rfl (eff_loadA rfl ty152 rfl rfl rfl) rfl ?_
        refine st rfl rfl (eff_buildSlice rfl Tryz.underlying25 ty152 z152 rfl (ps_cons rfl ps_nil) rfl (by simp [S151.c]) (by decide)) rfl ?_
        refine st_k rfl rfl (eff_appL (f := S151.c) (out := x11) (new := [y14]) rfl app25 rfl rfl (src_eq rfl (src_sl (by decide) (by simp [S151.c]))) (refsN rfl) (by simp; omega)) rfl ?_
        refine st rfl rfl (eff_assignO rfl rfl) rfl ?_
        refine st_nil ?_
        refine aw_region [.p, .p, .p] ?_
        refine st rfl rfl (eff_moveg rfl rfl) rfl ?_
        refine st rfl rfl (eff_subw rfl rfl rfl) rfl ?_
        refine st rfl rfl (eff_assigng rfl rfl) rfl ?_
        refine st_nil ?_
        exact ⟨rfl, (k13, x11 ++ [y14], IntKind.i64.wrap (x12 - 1)), ⟨rfl, rfl, rfl, rfl, rfl, rfl, trivial⟩, ⟨rfl, trivial⟩, rfl, ⟨(by first | omega | (dsimp only; omega) | (simp at *; omega)), (by first | omega | (dsimp only; omega) | (simp at *; omega)), (by first | omega | (dsimp only; omega) | (simp at *; omega)), hR⟩, by simp⟩
       ·replace h6 : (decide (0 ≤ x12)) = false := h6
        replace hR := condF hR h6
        try simp only [decide_eq_false_iff_not] at h6
        refine aw_exit ?_
        refine aw_seq ?_
        refine aw_freeze (l := [(2, .g (G.ref [G.int a0.Before, G.int a0.After, G.int a0.Notice, G.int a0.Share, G.sl 1 (List.map cStr a0.Causes), G.int a0.Off, G.int a0.Run])), (5, .g (G.sl 3 (List.map S151.c a1.Slots))), (6, .g (G.sl 3 (List.map S151.c a1.Records))), (7, .g (G.sl 2 (List.map S154.c r1.1))), (19, .g (G.sl 3 (List.map S151.c x11)))]) (m := []) 19 rfl ⟨.inl ⟨rfl, rfl⟩, .inl ⟨rfl, rfl⟩, .inl ⟨rfl, rfl⟩, .inl ⟨rfl, rfl⟩, .inr (frz_arr rfl), trivial⟩ trivial rfl rfl ?_
        refine Exists.elim (bindO_inv hR) (fun r15 hq_ => ?_)
        have br15 := hq_.1
        replace hR := hq_.2
        clear hq_
        refine aw_region [.p, .p, .p, .p, .p, .p, .p, .p, .p] ?_
        refine st rfl rfl (eff_loadA rfl ty24 rfl rfl rfl) rfl ?_
        refine st rfl rfl (eff_moveg rfl rfl) rfl ?_
        refine st rfl rfl (eff_moveg rfl rfl) rfl ?_
        refine st rfl rfl (eff_call rfl K44 rfl (c44 a0 x11 a1.Records (fun _ => ⟨by omega, by omega⟩) br15) (ag_cons rfl (ag_cons rfl (ag_cons rfl ag_nil)))) rfl ?_
        refine st rfl rfl (eff_moveg rfl rfl) rfl ?_
        refine st rfl rfl (eff_extract rfl rfl rfl) rfl ?_
        refine st rfl rfl (eff_extract rfl rfl rfl) rfl ?_
        refine st rfl rfl (eff_assigng rfl rfl) rfl ?_
        refine st rfl rfl (eff_assigng rfl rfl) rfl ?_
        refine st_nil ?_
        refine aw_seq ?_
        refine aw_region [.p, .w, .w] ?_
        refine st rfl rfl (eff_loadA rfl ty24 rfl rfl rfl) rfl ?_
        refine st_w rfl rfl (eff_alloc 23 rfl z24 rfl rfl) rfl ?_
        refine st_wn rfl rfl (eff_store (tv := .g (G.agg [G.int a0.Before, G.int a0.After, G.int a0.Notice, G.int a0.Share, G.sl 1 (List.map cStr a0.Causes), G.int a0.Off, G.int a0.Run])) rfl ty24 rfl rfl rfl rfl rfl) ?_
        refine st_nil ?_
        refine aw_seq ?_
        refine aw_draw [.p, .p, .p, .p, .p, .p, .p, .p, .p, .w, .p, .w] (by kernel_rfl) ?_
        refine st rfl rfl (eff_fieldAddr rfl fl24_0 rfl) rfl ?_
        refine st rfl rfl (eff_load rfl ty3 rfl) rfl ?_
        refine st rfl rfl (eff_addw rfl rfl rfl) rfl ?_
        refine st rfl rfl (eff_min rfl rfl rfl) rfl ?_
        refine st rfl rfl (eff_fieldAddr rfl fl24_1 rfl) rfl ?_
        refine st rfl rfl (eff_load rfl ty3 rfl) rfl ?_
        refine st rfl rfl (eff_addw rfl rfl rfl) rfl ?_
        refine st rfl rfl (eff_min rfl rfl rfl) rfl ?_
        refine st rfl rfl (eff_fieldO rfl fl24_0 rfl) rfl ?_
        refine st_wn rfl rfl (eff_store (tv := .g (G.int (min 720 (IntKind.i64.wrap (a0.Before + 7))))) rfl ty3 rfl rfl rfl rfl rfl) ?_
        refine st rfl rfl (eff_fieldO rfl fl24_1 rfl) rfl ?_
        refine st_wn rfl rfl (eff_store (tv := .g (G.int (min 720 (IntKind.i64.wrap (a0.After + 9))))) rfl ty3 rfl rfl rfl rfl rfl) ?_
        refine st_nil ?_
        refine aw_seq ?_
        refine Exists.elim (bindO_inv hR) (fun r16 hq_ => ?_)
        have br16 := hq_.1
        replace hR := hq_.2
        clear hq_
        refine aw_region [.r, .p, .p, .p, .p, .p, .p, .p, .p] ?_
        refine st_r rfl rfl (eff_loadOA rfl ty24 rfl rfl rfl rfl) rfl ?_
        refine st rfl rfl (eff_moveg rfl rfl) rfl ?_
        refine st rfl rfl (eff_moveg rfl rfl) rfl ?_
        refine st rfl rfl (eff_call rfl K44 rfl (c44 (S23.mk (min 720 (IntKind.i64.wrap (a0.Before + 7))) (min 720 (IntKind.i64.wrap (a0.After + 9))) a0.Notice a0.Share a0.Causes a0.Off a0.Run) a1.Slots a1.Records (fun _ => ⟨by omega, by omega⟩) br16) (ag_cons rfl (ag_cons rfl (ag_cons rfl ag_nil)))) rfl ?_
        refine st rfl rfl (eff_moveg rfl rfl) rfl ?_
        refine st rfl rfl (eff_extract rfl rfl rfl) rfl ?_
        refine st rfl rfl (eff_extract rfl rfl rfl) rfl ?_
        refine st rfl rfl (eff_assigng rfl rfl) rfl ?_
        refine st rfl rfl (eff_assigng rfl rfl) rfl ?_
        refine st_nil ?_
        refine aw_seq ?_
        refine aw_region [.p, .w, .w] ?_
        refine st rfl rfl (eff_loadA rfl ty24 rfl rfl rfl) rfl ?_
        refine st_w rfl rfl (eff_alloc 26 rfl z24 rfl rfl) rfl ?_
        refine st_wn rfl rfl (eff_store (tv := .g (G.agg [G.int a0.Before, G.int a0.After, G.int a0.Notice, G.int a0.Share, G.sl 1 (List.map cStr a0.Causes), G.int a0.Off, G.int a0.Run])) rfl ty24 rfl rfl rfl rfl rfl) ?_
        refine st_nil ?_
        refine aw_seq ?_
        refine aw_region [.p, .w, .p, .w] ?_
        refine st rfl rfl (eff_fieldO rfl fl24_0 rfl) rfl ?_
        refine st_wn rfl rfl (eff_store (tv := .g (G.int 0)) rfl ty3 rfl rfl rfl rfl rfl) ?_
        refine st rfl rfl (eff_fieldO rfl fl24_1 rfl) rfl ?_
        refine st_wn rfl rfl (eff_store (tv := .g (G.int 0)) rfl ty3 rfl rfl rfl rfl rfl) ?_
        refine st_nil ?_
        refine aw_seq ?_
        refine Exists.elim (bindO_inv hR) (fun r17 hq_ => ?_)
        have br17 := hq_.1
        replace hR := hq_.2
        clear hq_
        refine aw_region [.r, .p, .p, .p, .p, .p, .p, .p, .p] ?_
        refine st_r rfl rfl (eff_loadOA rfl ty24 rfl rfl rfl rfl) rfl ?_
        refine st rfl rfl (eff_moveg rfl rfl) rfl ?_
        refine st rfl rfl (eff_moveg rfl rfl) rfl ?_
        refine st rfl rfl (eff_call rfl K44 rfl (c44 (S23.mk 0 0 a0.Notice a0.Share a0.Causes a0.Off a0.Run) a1.Slots a1.Records (fun _ => ⟨by omega, by omega⟩) br17) (ag_cons rfl (ag_cons rfl (ag_cons rfl ag_nil)))) rfl ?_
        refine st rfl rfl (eff_moveg rfl rfl) rfl ?_
        refine st rfl rfl (eff_extract rfl rfl rfl) rfl ?_
        refine st rfl rfl (eff_extract rfl rfl rfl) rfl ?_
        refine st rfl rfl (eff_assigng rfl rfl) rfl ?_
        refine st rfl rfl (eff_assigng rfl rfl) rfl ?_
        refine st_nil ?_
        refine aw_seq ?_
        refine aw_seq ?_
        refine aw_region [.p, .p, .p, .p, .p, .p, .p, .p, .p, .p, .p, .p, .p, .p, .p, .p, .p, .p, .p, .p, .p, .p, .p, .p, .p, .p, .p] ?_
        refine st rfl rfl (eff_moveg rfl rfl) rfl ?_
        refine st rfl rfl (eff_moveg rfl rfl) rfl ?_
        refine st rfl rfl (eff_addw rfl rfl rfl) rfl ?_
        refine st rfl rfl (eff_moveg rfl rfl) rfl ?_
        refine st rfl rfl (eff_addw rfl rfl rfl) rfl ?_
        refine st rfl rfl (eff_neq rfl rfl rfl) rfl ?_
        refine st rfl rfl (eff_moveg rfl rfl) rfl ?_
        refine st_g rfl rfl rfl (gb_bool _ _) (fun h => eff_moveg rfl rfl) rfl ?_
        refine st_g rfl rfl rfl (gb_bool _ _) (fun h => eff_lenM (f := S154.c) (l := r15.1) rfl Tryz.underlying79 (gd h rfl)) rfl ?_
        refine st_g rfl rfl rfl (gb_bool _ _) (fun h => eff_moveg rfl rfl) rfl ?_
        refine st_g rfl rfl rfl (gb_bool _ _) (fun h => eff_lenM (f := S154.c) (l := r1.1) rfl Tryz.underlying79 (gd h rfl)) rfl ?_
        refine st_g rfl rfl rfl (gb_bool _ _) (fun h => eff_neq rfl (gd h rfl) (gd h rfl)) rfl ?_
        refine st rfl rfl (eff_or rfl rfl rfl rfl) rfl ?_
        refine st rfl rfl (eff_moveg rfl rfl) rfl ?_
        refine st_g rfl rfl rfl (gb_bool _ _) (fun h => eff_moveg rfl rfl) rfl ?_
        refine st_g rfl rfl rfl (gb_bool _ _) (fun h => eff_lenM (f := S154.c) (l := r16.1) rfl Tryz.underlying79 (gd h rfl)) rfl ?_
        refine st_g rfl rfl rfl (gb_bool _ _) (fun h => eff_moveg rfl rfl) rfl ?_
        refine st_g rfl rfl rfl (gb_bool _ _) (fun h => eff_lenM (f := S154.c) (l := r1.1) rfl Tryz.underlying79 (gd h rfl)) rfl ?_
        refine st_g rfl rfl rfl (gb_bool _ _) (fun h => eff_lss rfl (gd h rfl) (gd h rfl)) rfl ?_
        refine st rfl rfl (eff_or rfl rfl rfl rfl) rfl ?_
        refine st rfl rfl (eff_moveg rfl rfl) rfl ?_
        refine st_g rfl rfl rfl (gb_bool _ _) (fun h => eff_moveg rfl rfl) rfl ?_
        refine st_g rfl rfl rfl (gb_bool _ _) (fun h => eff_lenM (f := S154.c) (l := r17.1) rfl Tryz.underlying79 (gd h rfl)) rfl ?_
        refine st_g rfl rfl rfl (gb_bool _ _) (fun h => eff_moveg rfl rfl) rfl ?_
        refine st_g rfl rfl rfl (gb_bool _ _) (fun h => eff_lenM (f := S154.c) (l := r1.1) rfl Tryz.underlying79 (gd h rfl)) rfl ?_
        refine st_g rfl rfl rfl (gb_bool _ _) (fun h => eff_gtr rfl (gd h rfl) (gd h rfl)) rfl ?_
        refine st rfl rfl (eff_or rfl rfl rfl rfl) rfl ?_
        refine st_nil ?_
        refine aw_cond _ rfl (fun h7 => ?_) (fun h7 => ?_)
        ·replace h7 : ((((decide (IntKind.i64.wrap ((IntKind.i64.wrap (r15.2 + r16.2)) + r17.2) ≠ 0)) || (decide ((List.length r15.1 : Int) ≠ (List.length r1.1 : Int)))) || (decide ((List.length r16.1 : Int) < (List.length r1.1 : Int)))) || (decide ((List.length r1.1 : Int) < (List.length r17.1 : Int)))) = true := h7
         replace hR := condT hR h7
         try simp only [Bool.or_eq_true, Bool.and_eq_true, Bool.or_eq_false_iff, Bool.and_eq_false_iff, Bool.not_eq_true', Bool.not_eq_false', decide_eq_true_eq, decide_eq_false_iff_not] at h7
         refine aw_seq ?_
         refine aw_region [.p] ?_
         refine st rfl rfl (eff_assigng rfl rfl) rfl ?_
         refine st_nil ?_
         refine aw_ret ?_
         exact res_e (res_c rfl (rv_g rfl)) (congrArg (fun R_ => G.bool R_) (Option.some.inj hR))
        ·replace h7 : ((((decide (IntKind.i64.wrap ((IntKind.i64.wrap (r15.2 + r16.2)) + r17.2) ≠ 0)) || (decide ((List.length r15.1 : Int) ≠ (List.length r1.1 : Int)))) || (decide ((List.length r16.1 : Int) < (List.length r1.1 : Int)))) || (decide ((List.length r1.1 : Int) < (List.length r17.1 : Int)))) = false := h7
         replace hR := condF hR h7
         try simp only [Bool.or_eq_true, Bool.and_eq_true, Bool.or_eq_false_iff, Bool.and_eq_false_iff, Bool.not_eq_true', Bool.not_eq_false', decide_eq_true_eq, decide_eq_false_iff_not] at h7
         refine aw_skip ?_
         refine aw_seq ?_
         refine aw_seq ?_
         refine aw_region [.p, .p, .p] ?_
         refine st rfl rfl (eff_moveg rfl rfl) rfl ?_
         refine st rfl rfl (eff_lenM (f := S154.c) (l := r17.1) rfl Tryz.underlying79 rfl) rfl ?_
         refine st rfl rfl (eff_moveg rfl rfl) rfl ?_
         refine st_nil ?_
         refine aw_block ?_
         refine aw_loop_g (γ := Nat × (List S154)) (fun g => ([(5, .g (G.sl 3 (List.map S151.c a1.Slots))), (6, .g (G.sl 3 (List.map S151.c a1.Records))), (308, .g (G.sl 2 (List.map S154.c r17.1))), (309, .g (G.int (List.length r17.1 : Int))), (310, .g (G.int ((g.1 : Nat) : Int)))], [])) (fun g => r17.1.drop g.1 = g.2 ∧ s15_l3 a1 g.2 g.1 = some R) (fun g => List.length g.2) ⟨rfl, (0, r17.1), ⟨rfl, rfl, rfl, rfl, rfl, trivial⟩, trivial, rfl, ⟨rfl, hR⟩, trivial⟩ ?_
         ·rintro ⟨k19, u21⟩ ⟨hd3, hR⟩
          replace hd3 : r17.1.drop k19 = u21 := hd3
          replace hR : s15_l3 a1 u21 k19 = some R := hR
          refine aw_seq ?_
          refine aw_region [.p] ?_
          refine st rfl rfl (eff_lss rfl rfl rfl) rfl ?_
          refine st_nil ?_
          refine len_sl (f := S154.c) (l := r17.1) 308 rfl fun hlz3 => ?_
          refine aw_seq ?_
          refine aw_cond _ rfl (fun h8 => ?_) (fun h8 => ?_)
          ·replace h8 : (decide (((k19 : Nat) : Int) < (List.length r17.1 : Int))) = true := h8
           refine Exists.elim (drop_cons hd3 (decT h8)) (fun y20 hq_ => ?_)
           refine Exists.elim hq_ (fun t21 hqq_ => ?_)
           have et21 := hqq_.1
           have hx3 := hqq_.2.1
           replace hd3 := hqq_.2.2
           clear hqq_ hq_
           rw [et21] at hR
           replace h8 := decT h8
           rw [s15_l3] at hR
           try dsimp only at hR
           refine aw_skip ?_
           refine aw_seq ?_
           refine aw_block ?_
           refine aw_seq ?_
           refine aw_region [.p, .p, .w, .w] ?_
           refine st rfl rfl (eff_ix (f := S154.c) (l := r17.1) (a := y20) rfl Tryz.underlying79 ty155 rfl rfl (Int.natCast_nonneg _) hx3) rfl ?_
           refine st rfl rfl (eff_loadA rfl ty155 rfl rfl rfl) rfl ?_
           refine st_w rfl rfl (eff_alloc 30 rfl z155 rfl rfl) rfl ?_
           refine st_wn rfl rfl (eff_store (tv := .g (G.agg [G.int y20.Slot, G.int y20.Record])) rfl ty155 rfl rfl rfl rfl rfl) ?_
           refine st_nil ?_
           refine aw_seq ?_
           refine Exists.elim (bindO_inv hR) (fun y22 hq_ => ?_)
           have by22 := hq_.1
           replace hR := hq_.2
           clear hq_
           refine Exists.elim (bindO_inv hR) (fun y23 hq_ => ?_)
           have by23 := hq_.1
           replace hR := hq_.2
           clear hq_
           refine aw_draw [.p, .r, .p, .p, .p, .r, .p, .p, .p, .p, .p, .p, .r, .p, .p, .p, .p, .r, .p, .p, .p, .p, .p, .p, .p, .r, .p, .p, .p, .p, .r, .p, .p, .p, .p] (by kernel_rfl) ?_
           refine st rfl rfl (eff_fieldO rfl fl155_0 rfl) rfl ?_
           refine st_r rfl rfl (eff_loadO rfl ty3 rfl rfl rfl) rfl ?_
           refine st rfl rfl (eff_lss rfl rfl rfl) rfl ?_
           refine st rfl rfl (eff_moveg rfl rfl) rfl ?_
           refine st_g rfl rfl rfl (gb_bool _ _) (fun h => eff_fieldO rfl fl155_0 rfl) rfl ?_
           refine st_gr rfl rfl rfl (gb_bool _ _) (fun h => eff_loadO rfl ty3 (gd h rfl) rfl rfl) rfl ?_
           refine st_g rfl rfl rfl (gb_bool _ _) (fun h => eff_moveg rfl rfl) rfl ?_
           refine st_g rfl rfl rfl (gb_bool _ _) (fun h => eff_lenM (f := S151.c) (l := a1.Slots) rfl Tryz.underlying25 (gd h rfl)) rfl ?_
           refine st_g rfl rfl rfl (gb_bool _ _) (fun h => eff_geq rfl (gd h rfl) (gd h rfl)) rfl ?_
           refine st rfl rfl (eff_or rfl rfl rfl rfl) rfl ?_
           refine st rfl rfl (eff_moveg rfl rfl) rfl ?_
           refine st_g rfl rfl rfl (gb_bool _ _) (fun h => eff_fieldO rfl fl155_1 rfl) rfl ?_
           refine st_gr rfl rfl rfl (gb_bool _ _) (fun h => eff_loadO rfl ty3 (gd h rfl) rfl rfl) rfl ?_
           refine st_g rfl rfl rfl (gb_bool _ _) (fun h => eff_lss rfl (gd h rfl) rfl) rfl ?_
           refine st rfl rfl (eff_or rfl rfl rfl rfl) rfl ?_
           refine st rfl rfl (eff_moveg rfl rfl) rfl ?_
           refine st_g rfl rfl rfl (gb_bool _ _) (fun h => eff_fieldO rfl fl155_1 rfl) rfl ?_
           refine st_gr rfl rfl rfl (gb_bool _ _) (fun h => eff_loadO rfl ty3 (gd h rfl) rfl rfl) rfl ?_
           refine st_g rfl rfl rfl (gb_bool _ _) (fun h => eff_moveg rfl rfl) rfl ?_
           refine st_g rfl rfl rfl (gb_bool _ _) (fun h => eff_lenM (f := S151.c) (l := a1.Records) rfl Tryz.underlying25 (gd h rfl)) rfl ?_
           refine st_g rfl rfl rfl (gb_bool _ _) (fun h => eff_geq rfl (gd h rfl) (gd h rfl)) rfl ?_
           refine st rfl rfl (eff_or rfl rfl rfl rfl) rfl ?_
           refine st rfl rfl (eff_moveg rfl rfl) rfl ?_
           refine st_g rfl rfl rfl (gb_bool _ _) (fun h => eff_moveg rfl rfl) rfl ?_
           refine st_g rfl rfl rfl (gb_bool _ _) (fun h => eff_fieldO rfl fl155_0 rfl) rfl ?_
           refine st_gr rfl rfl rfl (gb_bool _ _) (fun h => eff_loadO rfl ty3 (gd h rfl) rfl rfl) rfl ?_
           refine st_g rfl rfl rfl (gb_bool _ _) (fun h => eff_ix (f := S151.c) (l := a1.Slots) (a := y22) rfl Tryz.underlying25 ty152 (gd h rfl) (gd h rfl) (ixO_nn (condF1 by22 h)) (ixO_get (condF1 by22 h))) rfl ?_
           refine st_g rfl rfl rfl (gb_bool _ _) (fun h => eff_loadA rfl ty152 (gd h rfl) rfl rfl) rfl ?_
           refine st_g rfl rfl rfl (gb_bool _ _) (fun h => eff_moveg rfl rfl) rfl ?_
           refine st_g rfl rfl rfl (gb_bool _ _) (fun h => eff_fieldO rfl fl155_1 rfl) rfl ?_
           refine st_gr rfl rfl rfl (gb_bool _ _) (fun h => eff_loadO rfl ty3 (gd h rfl) rfl rfl) rfl ?_
           refine st_g rfl rfl rfl (gb_bool _ _) (fun h => eff_ix (f := S151.c) (l := a1.Records) (a := y23) rfl Tryz.underlying25 ty152 (gd h rfl) (gd h rfl) (ixO_nn (condF1 by23 h)) (ixO_get (condF1 by23 h))) rfl ?_
           refine st_g rfl rfl rfl (gb_bool _ _) (fun h => eff_loadA rfl ty152 (gd h rfl) rfl rfl) rfl ?_
           refine st_g rfl rfl rfl (gb_bool _ _) (fun h => eff_aneq [.string y22.Name, .int .i64 y22.Moment, .string y22.Kind] [.string y23.Name, .int .i64 y23.Moment, .string y23.Kind] rfl flat152 (gd h rfl) (gd h rfl) rfl rfl rfl) rfl ?_
           refine st rfl rfl (eff_or rfl rfl rfl rfl) rfl ?_
           refine st_nil ?_
           refine aw_cond _ rfl (fun h10 => ?_) (fun h10 => ?_)
           ·replace h10 : (((((decide (y20.Slot < 0)) || (decide ((List.length a1.Slots : Int) ≤ y20.Slot))) || (decide (y20.Record < 0))) || (decide ((List.length a1.Records : Int) ≤ y20.Record))) || (!(eqAnd [decide (y22.Name = y23.Name), decide (y22.Moment = y23.Moment), decide (y22.Kind = y23.Kind)]))) = true := h10
            replace hR := condT hR h10
            try simp only [Bool.or_eq_true, Bool.and_eq_true, Bool.or_eq_false_iff, Bool.and_eq_false_iff, Bool.not_eq_true', Bool.not_eq_false', decide_eq_true_eq, decide_eq_false_iff_not] at h10
            refine aw_seq ?_
            refine aw_region [.p] ?_
            refine st rfl rfl (eff_assigng rfl rfl) rfl ?_
            refine st_nil ?_
            refine aw_ret ?_
            exact res_e (res_c rfl (rv_g rfl)) (congrArg (fun R_ => G.bool R_) (Option.some.inj hR))
           ·replace h10 : (((((decide (y20.Slot < 0)) || (decide ((List.length a1.Slots : Int) ≤ y20.Slot))) || (decide (y20.Record < 0))) || (decide ((List.length a1.Records : Int) ≤ y20.Record))) || (!(eqAnd [decide (y22.Name = y23.Name), decide (y22.Moment = y23.Moment), decide (y22.Kind = y23.Kind)]))) = false := h10
            replace hR := condF hR h10
            try simp only [Bool.or_eq_true, Bool.and_eq_true, Bool.or_eq_false_iff, Bool.and_eq_false_iff, Bool.not_eq_true', Bool.not_eq_false', decide_eq_true_eq, decide_eq_false_iff_not] at h10
            refine aw_skip ?_
            refine aw_region [.p, .p] ?_
            refine st rfl rfl (eff_add rfl rfl rfl (by unfold I64; omega)) rfl ?_
            refine st rfl rfl (eff_moveg rfl rfl) rfl ?_
            refine st_nil ?_
            exact ⟨rfl, (k19 + 1, t21), ⟨rfl, rfl, rfl, rfl, rfl, trivial⟩, trivial, rfl, ⟨hd3, hR⟩, by simp [et21]⟩
          ·replace h8 : (decide (((k19 : Nat) : Int) < (List.length r17.1 : Int))) = false := h8
           have hn_ := drop_nil hd3 (decF h8)
           rw [hn_] at hR
           rw [s15_l3] at hR
           refine aw_exit ?_
           refine aw_seq ?_
           refine aw_region [.p] ?_
           refine st rfl rfl (eff_assigng rfl rfl) rfl ?_
           refine st_nil ?_
           refine aw_ret ?_
           exact res_e (res_c rfl (rv_g rfl)) (congrArg (fun R_ => G.bool R_) (Option.some.inj hR))
end Go.Sim

