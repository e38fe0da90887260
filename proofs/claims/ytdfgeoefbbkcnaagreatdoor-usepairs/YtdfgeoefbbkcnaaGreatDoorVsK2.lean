/-
  What is proved: UsePairs: its walk, and its law: it is true of every rule and all pairings.
-/
import Derived.Test.YtdfgeoefbbkcnaaGreatDoorVsK1
import Derived.Test.YtdfgeoefbbkcnaaGreatDoorVsJ1
import Derived.Test.YtdfgeoefbbkcnaaGreatDoorVaA9
import Derived.Test.YtdfgeoefbbkcnaaGreatDoorVaB1
import Derived.SizedLaws
set_option linter.unusedSectionVars false
set_option linter.unusedSimpArgs false
set_option linter.unusedVariables false
set_option linter.unnecessarySimpa false
set_option linter.deprecated false
set_option linter.unusedSimpArgs false
set_option linter.unusedVariables false
set_option maxRecDepth 10000
namespace Go.Sim
open Go.Proofs


/-- turnroundlaw09.UsePairs -/
noncomputable def s14 (a0 : S23) (a1 : S141) : Option Bool :=
 (bif ((((((!s16) || (!(s17 (s18 a0)))) || (!(s19 (s20 a1.Slots) 7))) || (!(s19 (s20 a1.Records) 7))) || (decide (10 < (List.length a1.Pairs : Int)))) || (decide (10 < (List.length a1.Cover.Slots : Int)))) || (decide (10 < (List.length a1.Cover.Records : Int))) then some s16 else bindO (s75 a0 a1.Slots a1.Records a1.Pairs) fun r1 => bindO (s76 a0 a1.Slots a1.Records (S139.mk a1.Cover.Slots a1.Cover.Records)) fun r2 => bindO (s77 a0 a1.Slots a1.Records) fun r3 => (bif decide ((s48 a0 a1.Slots a1.Records) ≠ 0) then some ((((decide (r1 = (s48 a0 a1.Slots a1.Records))) && (decide (r2 = (s48 a0 a1.Slots a1.Records)))) && (decide (IntKind.i64.wrap ((List.length r3.1.Slots : Int) + (List.length r3.1.Records : Int)) = 0))) && (decide (r3.2 = (s48 a0 a1.Slots a1.Records)))) else bindO (s78 (s18 a0) (s20 a1.Slots) (s20 a1.Records) (s51 a1.Pairs)) fun r4 => bindO (bif !(decide (r1 ≠ r4)) then s79 (s18 a0) (s20 a1.Slots) (s20 a1.Records) (S139.mk a1.Cover.Slots a1.Cover.Records) else some default) fun r5 => (bif ((decide (r1 ≠ r4)) || (decide (r2 ≠ r5))) || (decide (r3.2 ≠ 0)) then some false else (bif (decide ((List.length (s20 a1.Slots) : Int) < (List.length r3.1.Slots : Int))) || (decide ((List.length (s20 a1.Records) : Int) < (List.length r3.1.Records : Int))) then some false else bindO (s79 (s18 a0) (s20 a1.Slots) (s20 a1.Records) r3.1) fun r6 => bindO (bif decide (r6 = 0) then s76 a0 a1.Slots a1.Records r3.1 else some default) fun r7 => some ((decide (r6 = 0)) && (decide (r7 = 0)))))))
set_option maxHeartbeats 2000000 in
theorem c14 (a0 : S23) (a1 : S141) {R : Bool}  (hb0 : a1.Slots.length * 40 ≤ 140737488351232) (hb1 : a1.Records.length * 40 ≤ 140737488351232) (hR : s14 a0 a1 = some R) : Con (EG glT) 14 [G.agg [G.int a0.Before, G.int a0.After, G.int a0.Notice, G.int a0.Share, G.sl 1 (List.map cStr a0.Causes), G.int a0.Off, G.int a0.Run], G.agg [G.sl 3 (List.map S151.c a1.Slots), G.sl 3 (List.map S151.c a1.Records), G.sl 2 (List.map S154.c a1.Pairs), G.sl 1 (List.map cInt a1.Cover.Slots), G.sl 1 (List.map cInt a1.Cover.Records)]] (G.bool R) := by
 unfold s14 at hR
 refine con_of_aw Tryz.func14 rfl rfl fun w0 M0 => ?_
 refine aw_seq ?_
 refine aw_region [.p, .p, .p] ?_
 refine st rfl rfl (eff_box rfl rfl) rfl ?_
 refine st rfl rfl (eff_box rfl rfl) rfl ?_
 refine st rfl rfl (eff_assigng rfl rfl) rfl ?_
 refine st_nil ?_
 refine aw_seq ?_
 refine aw_seq ?_
 refine aw_region [.p, .p, .p, .p, .p, .p, .p, .p, .p, .p, .p, .p, .p, .p, .p, .p, .p, .p, .p, .p, .p, .p, .p, .p, .p, .p, .p, .p, .p, .p, .p, .p, .p, .p, .p, .p, .p, .p, .p, .p, .p, .p] ?_
 refine st rfl rfl (eff_call rfl K16 rfl (c16) ag_nil) rfl ?_
 refine st rfl rfl (eff_not rfl rfl) rfl ?_
 refine st rfl rfl (eff_moveg rfl rfl) rfl ?_
 refine st_g rfl rfl rfl (gb_bool _ _) (fun h => eff_loadA rfl ty24 rfl rfl rfl) rfl ?_
 refine st_g rfl rfl rfl (gb_bool _ _) (fun h => eff_call rfl K18 rfl (c18 a0) (ag_cons (gd h rfl) ag_nil)) rfl ?_
 refine st_g rfl rfl rfl (gb_bool _ _) (fun h => eff_call rfl K17 rfl (c17 (s18 a0)) (ag_cons (gd h rfl) ag_nil)) rfl ?_
 refine st_g rfl rfl rfl (gb_bool _ _) (fun h => eff_not rfl (gd h rfl)) rfl ?_
 refine st rfl rfl (eff_or rfl rfl rfl rfl) rfl ?_
 refine st rfl rfl (eff_moveg rfl rfl) rfl ?_
 refine st_g rfl rfl rfl (gb_bool _ _) (fun h => eff_fieldAddr rfl fl142_0 rfl) rfl ?_
 refine st_g rfl rfl rfl (gb_bool _ _) (fun h => eff_load rfl ty25 (gd h rfl)) rfl ?_
 refine st_g rfl rfl rfl (gb_bool _ _) (fun h => eff_call rfl K20 rfl (c20 a1.Slots (by omega)) (ag_cons (gd h rfl) ag_nil)) rfl ?_
 refine st_g rfl rfl rfl (gb_bool _ _) (fun h => eff_call rfl K19 rfl (c19 (s20 a1.Slots) 7) (ag_cons (gd h rfl) (ag_cons rfl ag_nil))) rfl ?_
 refine st_g rfl rfl rfl (gb_bool _ _) (fun h => eff_not rfl (gd h rfl)) rfl ?_
 refine st rfl rfl (eff_or rfl rfl rfl rfl) rfl ?_
 refine st rfl rfl (eff_moveg rfl rfl) rfl ?_
 refine st_g rfl rfl rfl (gb_bool _ _) (fun h => eff_fieldAddr rfl fl142_1 rfl) rfl ?_
 refine st_g rfl rfl rfl (gb_bool _ _) (fun h => eff_load rfl ty25 (gd h rfl)) rfl ?_
 refine st_g rfl rfl rfl (gb_bool _ _) (fun h => eff_call rfl K20 rfl (c20 a1.Records (by omega)) (ag_cons (gd h rfl) ag_nil)) rfl ?_
 refine st_g rfl rfl rfl (gb_bool _ _) (fun h => eff_call rfl K19 rfl (c19 (s20 a1.Records) 7) (ag_cons (gd h rfl) (ag_cons rfl ag_nil))) rfl ?_
 refine st_g rfl rfl rfl (gb_bool _ _) (fun h => eff_not rfl (gd h rfl)) rfl ?_
 refine st rfl rfl (eff_or rfl rfl rfl rfl) rfl ?_
 refine st rfl rfl (eff_moveg rfl rfl) rfl ?_
 refine st_g rfl rfl rfl (gb_bool _ _) (fun h => eff_fieldAddr rfl fl142_2 rfl) rfl ?_
 refine st_g rfl rfl rfl (gb_bool _ _) (fun h => eff_load rfl ty79 (gd h rfl)) rfl ?_
 refine st_g rfl rfl rfl (gb_bool _ _) (fun h => eff_lenM (f := S154.c) (l := a1.Pairs) rfl Tryz.underlying79 (gd h rfl)) rfl ?_
 refine st_g rfl rfl rfl (gb_bool _ _) (fun h => eff_gtr rfl (gd h rfl) rfl) rfl ?_
 refine st rfl rfl (eff_or rfl rfl rfl rfl) rfl ?_
 refine st rfl rfl (eff_moveg rfl rfl) rfl ?_
 refine st_g rfl rfl rfl (gb_bool _ _) (fun h => eff_fieldAddr rfl fl142_3 rfl) rfl ?_
 refine st_g rfl rfl rfl (gb_bool _ _) (fun h => eff_fieldAddr rfl fl140_0 (gd h rfl)) rfl ?_
 refine st_g rfl rfl rfl (gb_bool _ _) (fun h => eff_load rfl ty82 (gd h rfl)) rfl ?_
 refine st_g rfl rfl rfl (gb_bool _ _) (fun h => eff_lenM (f := cInt) (l := a1.Cover.Slots) rfl Tryz.underlying82 (gd h rfl)) rfl ?_
 refine st_g rfl rfl rfl (gb_bool _ _) (fun h => eff_gtr rfl (gd h rfl) rfl) rfl ?_
 refine st rfl rfl (eff_or rfl rfl rfl rfl) rfl ?_
 refine st rfl rfl (eff_moveg rfl rfl) rfl ?_
 refine st_g rfl rfl rfl (gb_bool _ _) (fun h => eff_fieldAddr rfl fl142_3 rfl) rfl ?_
 refine st_g rfl rfl rfl (gb_bool _ _) (fun h => eff_fieldAddr rfl fl140_1 (gd h rfl)) rfl ?_
 refine st_g rfl rfl rfl (gb_bool _ _) (fun h => eff_load rfl ty82 (gd h rfl)) rfl ?_
 refine st_g rfl rfl rfl (gb_bool _ _) (fun h => eff_lenM (f := cInt) (l := a1.Cover.Records) rfl Tryz.underlying82 (gd h rfl)) rfl ?_
 refine st_g rfl rfl rfl (gb_bool _ _) (fun h => eff_gtr rfl (gd h rfl) rfl) rfl ?_
 refine st rfl rfl (eff_or rfl rfl rfl rfl) rfl ?_
 refine st_nil ?_
 refine aw_cond _ rfl (fun h1 => ?_) (fun h1 => ?_)
 ·replace h1 : (((((((!s16) || (!(s17 (s18 a0)))) || (!(s19 (s20 a1.Slots) 7))) || (!(s19 (s20 a1.Records) 7))) || (decide (10 < (List.length a1.Pairs : Int)))) || (decide (10 < (List.length a1.Cover.Slots : Int)))) || (decide (10 < (List.length a1.Cover.Records : Int)))) = true := h1
  replace hR := condT hR h1
  try simp only [Bool.or_eq_true, Bool.and_eq_true, Bool.or_eq_false_iff, Bool.and_eq_false_iff, Bool.not_eq_true', Bool.not_eq_false', decide_eq_true_eq, decide_eq_false_iff_not] at h1
  refine aw_seq ?_
  refine aw_region [.p, .p] ?_
  refine st rfl rfl (eff_call rfl K16 rfl (c16) ag_nil) rfl ?_
  refine st rfl rfl (eff_assigng rfl rfl) rfl ?_
  refine st_nil ?_
  refine aw_ret ?_
  exact res_e (res_c rfl (rv_g rfl)) (congrArg (fun R_ => G.bool R_) (Option.some.inj hR))
 ·replace h1 : (((((((!s16) || (!(s17 (s18 a0)))) || (!(s19 (s20 a1.Slots) 7))) || (!(s19 (s20 a1.Records) 7))) || (decide (10 < (List.length a1.Pairs : Int)))) || (decide (10 < (List.length a1.Cover.Slots : Int)))) || (decide (10 < (List.length a1.Cover.Records : Int)))) = false := h1
  replace hR := condF hR h1
  try simp only [Bool.or_eq_true, Bool.and_eq_true, Bool.or_eq_false_iff, Bool.and_eq_false_iff, Bool.not_eq_true', Bool.not_eq_false', decide_eq_true_eq, decide_eq_false_iff_not] at h1
  have hs := short7 (a0 := a0) h1.1.1.1
  have hq1 := h1.1.1.2
  have hq2 := h1.1.2
  have hq3 := h1.2
  refine aw_skip ?_
  refine aw_seq ?_
  refine Exists.elim (bindO_inv hR) (fun r1 hq_ => ?_)
  have br1 := hq_.1
  replace hR := hq_.2
  clear hq_
  refine aw_region [.p, .p, .p, .p, .p, .p, .p, .p, .p] ?_
  refine st rfl rfl (eff_loadA rfl ty24 rfl rfl rfl) rfl ?_
  refine st rfl rfl (eff_fieldAddr rfl fl142_0 rfl) rfl ?_
  refine st rfl rfl (eff_load rfl ty25 rfl) rfl ?_
  refine st rfl rfl (eff_fieldAddr rfl fl142_1 rfl) rfl ?_
  refine st rfl rfl (eff_load rfl ty25 rfl) rfl ?_
  refine st rfl rfl (eff_fieldAddr rfl fl142_2 rfl) rfl ?_
  refine st rfl rfl (eff_load rfl ty79 rfl) rfl ?_
  refine st rfl rfl (eff_call rfl K75 rfl (c75 a0 a1.Slots a1.Records a1.Pairs (by first | assumption | omega | (simp [copyL_len]; omega)) br1) (ag_cons rfl (ag_cons rfl (ag_cons rfl (ag_cons rfl ag_nil))))) rfl ?_
  refine st rfl rfl (eff_assigng rfl rfl) rfl ?_
  refine st_nil ?_
  refine aw_seq ?_
  refine Exists.elim (bindO_inv hR) (fun r2 hq_ => ?_)
  have br2 := hq_.1
  replace hR := hq_.2
  clear hq_
  refine aw_region [.p, .p, .p, .p, .p, .p, .p, .p, .p] ?_
  refine st rfl rfl (eff_loadA rfl ty24 rfl rfl rfl) rfl ?_
  refine st rfl rfl (eff_fieldAddr rfl fl142_0 rfl) rfl ?_
  refine st rfl rfl (eff_load rfl ty25 rfl) rfl ?_
  refine st rfl rfl (eff_fieldAddr rfl fl142_1 rfl) rfl ?_
  refine st rfl rfl (eff_load rfl ty25 rfl) rfl ?_
  refine st rfl rfl (eff_fieldAddr rfl fl142_3 rfl) rfl ?_
  refine st rfl rfl (eff_loadA rfl ty140 rfl rfl rfl) rfl ?_
  refine st rfl rfl (eff_call rfl K76 rfl (c76 a0 a1.Slots a1.Records (S139.mk a1.Cover.Slots a1.Cover.Records) (by first | assumption | omega | (simp [copyL_len]; omega)) (by first | assumption | omega | (simp [copyL_len]; omega)) (by first | assumption | omega | (simp [copyL_len]; omega)) br2) (ag_cons rfl (ag_cons rfl (ag_cons rfl (ag_cons rfl ag_nil))))) rfl ?_
  refine st rfl rfl (eff_assigng rfl rfl) rfl ?_
  refine st_nil ?_
  refine aw_seq ?_
  refine Exists.elim (bindO_inv hR) (fun r3 hq_ => ?_)
  have br3 := hq_.1
  replace hR := hq_.2
  clear hq_
  refine aw_region [.p, .p, .p, .p, .p, .p, .p, .p, .p, .w, .w, .p] ?_
  refine st rfl rfl (eff_loadA rfl ty24 rfl rfl rfl) rfl ?_
  refine st rfl rfl (eff_fieldAddr rfl fl142_0 rfl) rfl ?_
  refine st rfl rfl (eff_load rfl ty25 rfl) rfl ?_
  refine st rfl rfl (eff_fieldAddr rfl fl142_1 rfl) rfl ?_
  refine st rfl rfl (eff_load rfl ty25 rfl) rfl ?_
  refine st rfl rfl (eff_call rfl K77 rfl (c77 a0 a1.Slots a1.Records (by first | assumption | omega | (simp [copyL_len]; omega)) br3) (ag_cons rfl (ag_cons rfl (ag_cons rfl ag_nil)))) rfl ?_
  refine st rfl rfl (eff_moveg rfl rfl) rfl ?_
  refine st rfl rfl (eff_extract rfl rfl rfl) rfl ?_
  refine st rfl rfl (eff_extract rfl rfl rfl) rfl ?_
  refine st_w rfl rfl (eff_alloc 7 rfl z140 rfl rfl) rfl ?_
  refine st_wn rfl rfl (eff_store (tv := .g (G.agg [G.sl 1 (List.map cInt r3.1.Slots), G.sl 1 (List.map cInt r3.1.Records)])) rfl ty140 rfl rfl rfl rfl rfl) ?_
  refine st rfl rfl (eff_assigng rfl rfl) rfl ?_
  refine st_nil ?_
  refine aw_seq ?_
  refine aw_region [.p, .p, .p, .p, .p, .p, .p] ?_
  refine st rfl rfl (eff_loadA rfl ty24 rfl rfl rfl) rfl ?_
  refine st rfl rfl (eff_fieldAddr rfl fl142_0 rfl) rfl ?_
  refine st rfl rfl (eff_load rfl ty25 rfl) rfl ?_
  refine st rfl rfl (eff_fieldAddr rfl fl142_1 rfl) rfl ?_
  refine st rfl rfl (eff_load rfl ty25 rfl) rfl ?_
  refine st rfl rfl (eff_call rfl K48 rfl (c48 a0 a1.Slots a1.Records (by first | assumption | omega | (simp [copyL_len]; omega)) (by first | assumption | omega | (simp [copyL_len]; omega))) (ag_cons rfl (ag_cons rfl (ag_cons rfl ag_nil)))) rfl ?_
  refine st rfl rfl (eff_assigng rfl rfl) rfl ?_
  refine st_nil ?_
  refine aw_seq ?_
  refine aw_seq ?_
  refine aw_region [.p, .p] ?_
  refine st rfl rfl (eff_moveg rfl rfl) rfl ?_
  refine st rfl rfl (eff_neq rfl rfl rfl) rfl ?_
  refine st_nil ?_
  refine aw_cond _ rfl (fun h2 => ?_) (fun h2 => ?_)
  ·replace h2 : (decide ((s48 a0 a1.Slots a1.Records) ≠ 0)) = true := h2
   replace hR := condT hR h2
   try simp only [decide_eq_true_eq] at h2
   refine aw_seq ?_
   refine aw_region [.p, .p, .p, .p, .p, .p, .p, .p, .p, .p, .r, .p, .p, .r, .p, .p, .p, .p, .p, .p, .p, .p, .p, .p] ?_
   refine st rfl rfl (eff_moveg rfl rfl) rfl ?_
   refine st rfl rfl (eff_moveg rfl rfl) rfl ?_
   refine st rfl rfl (eff_eql rfl rfl rfl) rfl ?_
   refine st rfl rfl (eff_moveg rfl rfl) rfl ?_
   refine st_g rfl rfl rfl (gb_bool _ _) (fun h => eff_moveg rfl rfl) rfl ?_
   refine st_g rfl rfl rfl (gb_bool _ _) (fun h => eff_moveg rfl rfl) rfl ?_
   refine st_g rfl rfl rfl (gb_bool _ _) (fun h => eff_eql rfl (gd h rfl) (gd h rfl)) rfl ?_
   refine st rfl rfl (eff_and rfl rfl rfl rfl) rfl ?_
   refine st rfl rfl (eff_moveg rfl rfl) rfl ?_
   refine st_g rfl rfl rfl (gb_bool _ _) (fun h => eff_fieldO rfl fl140_0 rfl) rfl ?_
   refine st_gr rfl rfl rfl (gb_bool _ _) (fun h => eff_loadO rfl ty82 (gd h rfl) rfl rfl) rfl ?_
   refine st_g rfl rfl rfl (gb_bool _ _) (fun h => eff_lenM (f := cInt) (l := r3.1.Slots) rfl Tryz.underlying82 (gd h rfl)) rfl ?_
   refine st_g rfl rfl rfl (gb_bool _ _) (fun h => eff_fieldO rfl fl140_1 rfl) rfl ?_
   refine st_gr rfl rfl rfl (gb_bool _ _) (fun h => eff_loadO rfl ty82 (gd h rfl) rfl rfl) rfl ?_
   refine st_g rfl rfl rfl (gb_bool _ _) (fun h => eff_lenM (f := cInt) (l := r3.1.Records) rfl Tryz.underlying82 (gd h rfl)) rfl ?_
   refine st_g rfl rfl rfl (gb_bool _ _) (fun h => eff_addw rfl (gd h rfl) (gd h rfl)) rfl ?_
   refine st_g rfl rfl rfl (gb_bool _ _) (fun h => eff_eql rfl (gd h rfl) rfl) rfl ?_
   refine st rfl rfl (eff_and rfl rfl rfl rfl) rfl ?_
   refine st rfl rfl (eff_moveg rfl rfl) rfl ?_
   refine st_g rfl rfl rfl (gb_bool _ _) (fun h => eff_moveg rfl rfl) rfl ?_
   refine st_g rfl rfl rfl (gb_bool _ _) (fun h => eff_moveg rfl rfl) rfl ?_
   refine st_g rfl rfl rfl (gb_bool _ _) (fun h => eff_eql rfl (gd h rfl) (gd h rfl)) rfl ?_
   refine st rfl rfl (eff_and rfl rfl rfl rfl) rfl ?_
   refine st rfl rfl (eff_assigng rfl rfl) rfl ?_
   refine st_nil ?_
   refine aw_ret ?_
   exact res_e (res_c rfl (rv_g rfl)) (congrArg (fun R_ => G.bool R_) (Option.some.inj hR))
  ·replace h2 : (decide ((s48 a0 a1.Slots a1.Records) ≠ 0)) = false := h2
   replace hR := condF hR h2
   try simp only [decide_eq_false_iff_not] at h2
   obtain ⟨hz1, hz2⟩ := both_ok hs h2
   refine aw_skip ?_
   refine aw_seq ?_
   refine aw_draw [.p, .p, .p, .p, .p, .p, .p, .p, .w, .w, .p, .p] (by kernel_rfl) ?_
   refine st rfl rfl (eff_loadA rfl ty24 rfl rfl rfl) rfl ?_
   refine st rfl rfl (eff_call rfl K18 rfl (c18 a0) (ag_cons rfl ag_nil)) rfl ?_
   refine st rfl rfl (eff_fieldAddr rfl fl142_0 rfl) rfl ?_
   refine st rfl rfl (eff_load rfl ty25 rfl) rfl ?_
   refine st rfl rfl (eff_call rfl K20 rfl (c20 a1.Slots (by omega)) (ag_cons rfl ag_nil)) rfl ?_
   refine st rfl rfl (eff_fieldAddr rfl fl142_1 rfl) rfl ?_
   refine st rfl rfl (eff_load rfl ty25 rfl) rfl ?_
   refine st rfl rfl (eff_call rfl K20 rfl (c20 a1.Records (by omega)) (ag_cons rfl ag_nil)) rfl ?_
   refine st_w rfl rfl (eff_alloc 10 rfl z29 rfl rfl) rfl ?_
   refine st_wn rfl rfl (eff_store (tv := .g (G.agg [G.int ((s18 a0).Before), G.int ((s18 a0).After), G.int ((s18 a0).Notice), G.int ((s18 a0).Share), G.sl 1 (List.map cStr ((s18 a0).Causes)), G.int ((s18 a0).Off), G.int ((s18 a0).Run)])) rfl ty29 rfl rfl rfl rfl rfl) ?_
   refine st rfl rfl (eff_assigng rfl rfl) rfl ?_
   refine st rfl rfl (eff_assigng rfl rfl) rfl ?_
   refine st_nil ?_
   refine aw_seq ?_
   refine aw_seq ?_
   refine Exists.elim (bindO_inv hR) (fun r4 hq_ => ?_)
   have br4 := hq_.1
   replace hR := hq_.2
   clear hq_
   refine Exists.elim (bindO_inv hR) (fun r5 hq_ => ?_)
   have br5 := hq_.1
   replace hR := hq_.2
   clear hq_
   refine aw_draw [.p, .r, .p, .p, .p, .p, .p, .p, .p, .p, .p, .r, .p, .p, .p, .p, .p, .p, .p, .p, .p, .p, .p] (by kernel_rfl) ?_
   refine st rfl rfl (eff_moveg rfl rfl) rfl ?_
   refine st_r rfl rfl (eff_loadOA rfl ty29 rfl rfl rfl rfl) rfl ?_
   refine st rfl rfl (eff_moveg rfl rfl) rfl ?_
   refine st rfl rfl (eff_moveg rfl rfl) rfl ?_
   refine st rfl rfl (eff_fieldAddr rfl fl142_2 rfl) rfl ?_
   refine st rfl rfl (eff_load rfl ty79 rfl) rfl ?_
   refine st rfl rfl (eff_call rfl K51 rfl (c51 a1.Pairs (by first | assumption | omega | (simp [copyL_len]; omega))) (ag_cons rfl ag_nil)) rfl ?_
   refine st rfl rfl (eff_call rfl K78 rfl (c78 (s18 a0) (s20 a1.Slots) (s20 a1.Records) (s51 a1.Pairs) br4) (ag_cons rfl (ag_cons rfl (ag_cons rfl (ag_cons rfl ag_nil))))) rfl ?_
   refine st rfl rfl (eff_neq rfl rfl rfl) rfl ?_
   refine st rfl rfl (eff_moveg rfl rfl) rfl ?_
   refine st_g rfl rfl rfl (gb_bool _ _) (fun h => eff_moveg rfl rfl) rfl ?_
   refine st_gr rfl rfl rfl (gb_bool _ _) (fun h => eff_loadOA rfl ty29 rfl rfl rfl rfl) rfl ?_
   refine st_g rfl rfl rfl (gb_bool _ _) (fun h => eff_moveg rfl rfl) rfl ?_
   refine st_g rfl rfl rfl (gb_bool _ _) (fun h => eff_moveg rfl rfl) rfl ?_
   refine st_g rfl rfl rfl (gb_bool _ _) (fun h => eff_fieldAddr rfl fl142_3 rfl) rfl ?_
   refine st_g rfl rfl rfl (gb_bool _ _) (fun h => eff_loadA rfl ty140 (gd h rfl) rfl rfl) rfl ?_
   refine st_g rfl rfl rfl (gb_bool _ _) (fun h => eff_call rfl K79 rfl (c79 (s18 a0) (s20 a1.Slots) (s20 a1.Records) (S139.mk a1.Cover.Slots a1.Cover.Records) (by first | assumption | omega | (simp [copyL_len]; omega)) (by first | assumption | omega | (simp [copyL_len]; omega)) (by first | assumption | omega | (simp [copyL_len]; omega)) (by first | assumption | omega | (simp [copyL_len]; omega)) (condF1 br5 h)) (ag_cons (gd h rfl) (ag_cons (gd h rfl) (ag_cons (gd h rfl) (ag_cons (gd h rfl) ag_nil))))) rfl ?_
   refine st_g rfl rfl rfl (gb_bool _ _) (fun h => eff_neq rfl (gd h rfl) (gd h rfl)) rfl ?_
   refine st rfl rfl (eff_or rfl rfl rfl rfl) rfl ?_
   refine st rfl rfl (eff_moveg rfl rfl) rfl ?_
   refine st_g rfl rfl rfl (gb_bool _ _) (fun h => eff_moveg rfl rfl) rfl ?_
   refine st_g rfl rfl rfl (gb_bool _ _) (fun h => eff_neq rfl (gd h rfl) rfl) rfl ?_
   refine st rfl rfl (eff_or rfl rfl rfl rfl) rfl ?_
   refine st_nil ?_
   refine aw_cond _ rfl (fun h3 => ?_) (fun h3 => ?_)
   ·replace h3 : (((decide (r1 ≠ r4)) || (decide (r2 ≠ r5))) || (decide (r3.2 ≠ 0))) = true := h3
    replace hR := condT hR h3
    try simp only [Bool.or_eq_true, Bool.and_eq_true, Bool.or_eq_false_iff, Bool.and_eq_false_iff, Bool.not_eq_true', Bool.not_eq_false', decide_eq_true_eq, decide_eq_false_iff_not] at h3
    refine aw_seq ?_
    refine aw_region [.p] ?_
    refine st rfl rfl (eff_assigng rfl rfl) rfl ?_
    refine st_nil ?_
    refine aw_ret ?_
    exact res_e (res_c rfl (rv_g rfl)) (congrArg (fun R_ => G.bool R_) (Option.some.inj hR))
   ·replace h3 : (((decide (r1 ≠ r4)) || (decide (r2 ≠ r5))) || (decide (r3.2 ≠ 0))) = false := h3
    replace hR := condF hR h3
    try simp only [Bool.or_eq_true, Bool.and_eq_true, Bool.or_eq_false_iff, Bool.and_eq_false_iff, Bool.not_eq_true', Bool.not_eq_false', decide_eq_true_eq, decide_eq_false_iff_not] at h3
    refine aw_skip ?_
    refine aw_seq ?_
    refine aw_seq ?_
    refine aw_region [.p, .r, .p, .p, .p, .p, .p, .p, .r, .p, .p, .p, .p, .p] ?_
    refine st rfl rfl (eff_fieldO rfl fl140_0 rfl) rfl ?_
    refine st_r rfl rfl (eff_loadO rfl ty82 rfl rfl rfl) rfl ?_
    refine st rfl rfl (eff_lenM (f := cInt) (l := r3.1.Slots) rfl Tryz.underlying82 rfl) rfl ?_
    refine st rfl rfl (eff_moveg rfl rfl) rfl ?_
    refine st rfl rfl (eff_lenM (f := S151.c) (l := (s20 a1.Slots)) rfl Tryz.underlying32 rfl) rfl ?_
    refine st rfl rfl (eff_gtr rfl rfl rfl) rfl ?_
    refine st rfl rfl (eff_moveg rfl rfl) rfl ?_
    refine st_g rfl rfl rfl (gb_bool _ _) (fun h => eff_fieldO rfl fl140_1 rfl) rfl ?_
    refine st_gr rfl rfl rfl (gb_bool _ _) (fun h => eff_loadO rfl ty82 (gd h rfl) rfl rfl) rfl ?_
    refine st_g rfl rfl rfl (gb_bool _ _) (fun h => eff_lenM (f := cInt) (l := r3.1.Records) rfl Tryz.underlying82 (gd h rfl)) rfl ?_
    refine st_g rfl rfl rfl (gb_bool _ _) (fun h => eff_moveg rfl rfl) rfl ?_
    refine st_g rfl rfl rfl (gb_bool _ _) (fun h => eff_lenM (f := S151.c) (l := (s20 a1.Records)) rfl Tryz.underlying32 (gd h rfl)) rfl ?_
    refine st_g rfl rfl rfl (gb_bool _ _) (fun h => eff_gtr rfl (gd h rfl) (gd h rfl)) rfl ?_
    refine st rfl rfl (eff_or rfl rfl rfl rfl) rfl ?_
    refine st_nil ?_
    refine aw_cond _ rfl (fun h4 => ?_) (fun h4 => ?_)
    ·replace h4 : ((decide ((List.length (s20 a1.Slots) : Int) < (List.length r3.1.Slots : Int))) || (decide ((List.length (s20 a1.Records) : Int) < (List.length r3.1.Records : Int)))) = true := h4
     replace hR := condT hR h4
     try simp only [Bool.or_eq_true, Bool.and_eq_true, Bool.or_eq_false_iff, Bool.and_eq_false_iff, Bool.not_eq_true', Bool.not_eq_false', decide_eq_true_eq, decide_eq_false_iff_not] at h4
     refine aw_seq ?_
     refine aw_region [.p] ?_
     refine st rfl rfl (eff_assigng rfl rfl) rfl ?_
     refine st_nil ?_
     refine aw_ret ?_
     exact res_e (res_c rfl (rv_g rfl)) (congrArg (fun R_ => G.bool R_) (Option.some.inj hR))
    ·replace h4 : ((decide ((List.length (s20 a1.Slots) : Int) < (List.length r3.1.Slots : Int))) || (decide ((List.length (s20 a1.Records) : Int) < (List.length r3.1.Records : Int)))) = false := h4
     replace hR := condF hR h4
     try simp only [Bool.or_eq_true, Bool.and_eq_true, Bool.or_eq_false_iff, Bool.and_eq_false_iff, Bool.not_eq_true', Bool.not_eq_false', decide_eq_true_eq, decide_eq_false_iff_not] at h4
     refine aw_skip ?_
     refine aw_seq ?_
     refine Exists.elim (bindO_inv hR) (fun r6 hq_ => ?_)
     have br6 := hq_.1
     replace hR := hq_.2
     clear hq_
     refine Exists.elim (bindO_inv hR) (fun r7 hq_ => ?_)
     have br7 := hq_.1
     replace hR := hq_.2
     clear hq_
     refine aw_region [.r, .p, .p, .r, .p, .p, .p, .p, .p, .p, .p, .p, .r, .p, .p, .p, .p] ?_
     refine st_r rfl rfl (eff_loadOA rfl ty29 rfl rfl rfl rfl) rfl ?_
     refine st rfl rfl (eff_moveg rfl rfl) rfl ?_
     refine st rfl rfl (eff_moveg rfl rfl) rfl ?_
     refine st_r rfl rfl (eff_loadOA rfl ty140 rfl rfl rfl rfl) rfl ?_
     refine st rfl rfl (eff_call rfl K79 rfl (c79 (s18 a0) (s20 a1.Slots) (s20 a1.Records) r3.1 (by first | assumption | omega | (simp [copyL_len]; omega)) (by first | assumption | omega | (simp [copyL_len]; omega)) (by first | assumption | omega | (simp [copyL_len]; omega)) (by first | assumption | omega | (simp [copyL_len]; omega)) br6) (ag_cons rfl (ag_cons rfl (ag_cons rfl (ag_cons rfl ag_nil))))) rfl ?_
     refine st rfl rfl (eff_eql rfl rfl rfl) rfl ?_
     refine st rfl rfl (eff_moveg rfl rfl) rfl ?_
     refine st_g rfl rfl rfl (gb_bool _ _) (fun h => eff_loadA rfl ty24 rfl rfl rfl) rfl ?_
     refine st_g rfl rfl rfl (gb_bool _ _) (fun h => eff_fieldAddr rfl fl142_0 rfl) rfl ?_
     refine st_g rfl rfl rfl (gb_bool _ _) (fun h => eff_load rfl ty25 (gd h rfl)) rfl ?_
     refine st_g rfl rfl rfl (gb_bool _ _) (fun h => eff_fieldAddr rfl fl142_1 rfl) rfl ?_
     refine st_g rfl rfl rfl (gb_bool _ _) (fun h => eff_load rfl ty25 (gd h rfl)) rfl ?_
     refine st_gr rfl rfl rfl (gb_bool _ _) (fun h => eff_loadOA rfl ty140 rfl rfl rfl rfl) rfl ?_
     refine st_g rfl rfl rfl (gb_bool _ _) (fun h => eff_call rfl K76 rfl (c76 a0 a1.Slots a1.Records r3.1 (by first | assumption | omega | (simp [copyL_len]; omega)) (by first | assumption | omega | (simp [copyL_len]; omega)) (by first | assumption | omega | (simp [copyL_len]; omega)) (condT1 br7 h)) (ag_cons (gd h rfl) (ag_cons (gd h rfl) (ag_cons (gd h rfl) (ag_cons (gd h rfl) ag_nil))))) rfl ?_
     refine st_g rfl rfl rfl (gb_bool _ _) (fun h => eff_eql rfl (gd h rfl) rfl) rfl ?_
     refine st rfl rfl (eff_and rfl rfl rfl rfl) rfl ?_
     refine st rfl rfl (eff_assigng rfl rfl) rfl ?_
     refine st_nil ?_
     refine aw_ret ?_
     exact res_e (res_c rfl (rv_g rfl)) (congrArg (fun R_ => G.bool R_) (Option.some.inj hR))
end Go.Sim

set_option linter.unusedSimpArgs false
namespace Go.Sim
/-! ## UsePairs: the law -/
def pick (b : Bool) : List Bool → Nat → List Int
  | [], _ => []
  | x :: l, k => bif x == b then ((k : Nat) : Int) :: pick b l (k + 1) else pick b l (k + 1)
theorem mem_pick {b : Bool} : ∀ {l : List Bool} {k : Nat} {j : Int}, j ∈ pick b l k ↔ ∃ n : Nat, j = ((k + n : Nat) : Int) ∧ l[n]? = some b
  | [], k, j => by simp [pick]
  | x :: l, k, j => by
    have ih := mem_pick (b := b) (l := l) (k := k + 1) (j := j)
    rw [pick]
    cases hx : x == b
    · rw [cond_false, ih]
      constructor
      · rintro ⟨n, h1, h2⟩; exact ⟨n + 1, by rw [h1]; omega, by simpa using h2⟩
      · rintro ⟨n, h1, h2⟩
        cases n with
        | zero => simp at h2; subst h2; simp at hx
        | succ n => exact ⟨n, by rw [h1]; omega, by simpa using h2⟩
    · rw [cond_true, List.mem_cons, ih]
      have hx : x = b := by simpa using hx
      constructor
      · rintro (h | ⟨n, h1, h2⟩)
        · exact ⟨0, by rw [h]; rfl, by simp [hx]⟩
        · exact ⟨n + 1, by rw [h1]; omega, by simpa using h2⟩
      · rintro ⟨n, h1, h2⟩
        cases n with
        | zero => exact .inl (by rw [h1]; rfl)
        | succ n => exact .inr ⟨n, by rw [h1]; omega, by simpa using h2⟩
theorem pick_sorted (b : Bool) : ∀ (l : List Bool) (k : Nat), (pick b l k).Pairwise (· < ·)
  | [], k => List.Pairwise.nil
  | x :: l, k => by
    rw [pick]
    cases x == b
    · exact pick_sorted b l (k + 1)
    · rw [cond_true, List.pairwise_cons]
      refine ⟨fun j hj => ?_, pick_sorted b l (k + 1)⟩
      obtain ⟨n, h1, _⟩ := mem_pick.1 hj
      rw [h1]; omega
theorem l5_run (S : List Int) : ∀ (l : List Bool) (k : Nat) (x : List Int), s77_l5 S l k x = some (⟨S, x ++ pick true l k⟩, 0)
  | [], k, x => by simp [s77_l5, pick]
  | b :: l, k, x => by
    rw [s77_l5, pick]
    cases b
    · simp only [cond_false, s77_j1]; rw [l5_run S l]; rfl
    · simp only [cond_true, s77_j1]; rw [l5_run S l]; simp
theorem l4_run (met : List Bool) : ∀ (l : List Bool) (k : Nat) (x : List Int), s77_l4 met l k x = some (⟨x ++ pick false l k, pick true met 0⟩, 0)
  | [], k, x => by rw [s77_l4, l5_run]; simp [pick]
  | b :: l, k, x => by
    rw [s77_l4, pick]
    cases b
    · simp only [Bool.not_false, cond_true, s77_j2]; rw [l4_run met l]; simp
    · simp only [Bool.not_true, cond_false, s77_j2]; rw [l4_run met l]; rfl
structure ST (a0 : S23) (u v : List S151) (k : Nat) (w : List Int) (re : List Bool) : Prop where
  lr : re.length = u.length
  t : ∀ n : Nat, re[n]? = some true ↔ n < k ∧ n < u.length ∧ (n : Int) ∉ (mat a0 u v).map S154.Slot
  wm : ∀ i, i ∈ w ↔ ∃ n : Nat, i = (n : Int) ∧ re[n]? = some true
  c : w.length + cF re = u.length
theorem start_run (a0 : S23) (u v : List S151) : ∀ (rest : List S151) (k : Nat) (w : List Int) (re : List Bool), k + rest.length = u.length → ST a0 u v k w re → ∃ w' re', ST a0 u v u.length w' re' ∧
    s77_l2 a0 u v (mapS (mat a0 u v) []) (mapO (mat a0 u v) []) rest k w re = s77_l3 a0 u v (mapO (mat a0 u v) []) (u.length + 1) w' (List.replicate v.length false) re'
  | [], k, w, re, hk, h => by
    have : k = u.length := by simpa using hk
    subst this
    exact ⟨w, re, h, by rw [s77_l2]⟩
  | y :: rest, k, w, re, hk, h => by
    rw [List.length_cons] at hk
    have hx : mgetD (mapS (mat a0 u v) []) ((k : Nat) : Int) false = decide ((k : Int) ∈ (mat a0 u v).map S154.Slot) := by
      rw [mapS_get]; simp [mgetD, mget]
    have hlk : k < re.length := by rw [h.lr]; omega
    rw [s77_l2, hx]
    by_cases hm : (k : Int) ∈ (mat a0 u v).map S154.Slot
    · rw [decide_eq_true hm]
      simp only [Bool.not_true, cond_false, s77_j4]
      exact start_run a0 u v rest (k + 1) w re (by omega) ⟨h.lr, fun n => by
        rw [h.t n]
        constructor
        · rintro ⟨g1, g2, g3⟩; exact ⟨by omega, g2, g3⟩
        · rintro ⟨g1, g2, g3⟩
          refine ⟨?_, g2, g3⟩
          by_cases e : n = k
          · subst e; exact absurd hm g3
          · omega, h.wm, h.c⟩
    · have hkf : re[k]? = some false := by
        rw [List.getElem?_eq_getElem hlk]
        cases hv : re[k]
        · rfl
        · exfalso
          have := (h.t k).1 (by rw [List.getElem?_eq_getElem hlk, hv])
          omega
      have e1 : Int.toNat ((k : Nat) : Int) = k := by omega
      rw [decide_eq_false hm]
      simp only [Bool.not_false, cond_true, ixO_nat hkf, bindO, s77_j4, e1]
      have hself : (re.set k true)[k]? = some true := by simp [hlk]
      have hc := cF_set hkf
      refine start_run a0 u v rest (k + 1) (w ++ [(k : Int)]) (re.set k true) (by omega) ⟨by rw [List.length_set]; exact h.lr, fun n => ?_, fun i => ?_, ?_⟩
      · constructor
        · intro hn
          rcases set_inv hn with rfl | hn
          · exact ⟨by omega, by omega, hm⟩
          · have := (h.t n).1 hn; exact ⟨by omega, this.2⟩
        · rintro ⟨g1, g2, g3⟩
          by_cases e : n = k
          · subst e; exact hself
          · exact set_true ((h.t n).2 ⟨by omega, g2, g3⟩)
      · rw [List.mem_append, h.wm, List.mem_singleton]
        constructor
        · rintro (⟨n, g1, g2⟩ | rfl)
          · exact ⟨n, g1, set_true g2⟩
          · exact ⟨k, rfl, hself⟩
        · rintro ⟨n, g1, g2⟩
          rcases set_inv g2 with rfl | g2
          · exact .inr g1
          · exact .inl ⟨n, g1, g2⟩
      · have := h.c
        simp; omega
theorem rep_not {n k : Nat} (h : (List.replicate n false)[k]? = some true) : False := by
  rw [List.getElem?_replicate] at h
  split at h <;> cases h
theorem rec_inj : ∀ {l : List S154} {a b : S154}, (l.map S154.Record).Nodup → a ∈ l → b ∈ l → a.Record = b.Record → a = b
  | [], _, _, _, h, _, _ => by cases h
  | e :: l, a, b, hn, ha, hb, h => by
    rw [List.map_cons, List.nodup_cons] at hn
    rcases List.mem_cons.1 ha with e1 | ha
    · rcases List.mem_cons.1 hb with e2 | hb
      · rw [e1, e2]
      · exact absurd (by rw [← e1, h]; exact List.mem_map_of_mem hb) hn.1
    · rcases List.mem_cons.1 hb with e2 | hb
      · exact absurd (by rw [← e2, ← h]; exact List.mem_map_of_mem ha) hn.1
      · exact rec_inj hn.2 ha hb h
theorem cF_rep (n : Nat) : cF (List.replicate n false) = n := by
  unfold cF; rw [List.countP_replicate]; simp
theorem asc_ok (l : List Int) (n : Int) (hl : l.length ≤ 100000) (hs : l.Pairwise (· < ·)) (hn : ∀ x ∈ l, 0 ≤ x ∧ x < n) : ∀ (rest : List Int) (k : Nat), l.drop k = rest → k + rest.length = l.length → s146_l1 l n rest k = some 0
  | [], k, _, _ => rfl
  | y :: rest, k, hd, hk => by
    rw [List.length_cons] at hk
    have hky : l[k]? = some y := by
      have : (l.drop k)[0]? = some y := by rw [hd]; rfl
      simpa using this
    have hd' : l.drop (k + 1) = rest := by
      have : l.drop (k + 1) = (l.drop k).drop 1 := by rw [List.drop_drop]
      rw [this, hd]; rfl
    obtain ⟨q, _, p2, p3⟩ := prev_eq (l := l) (k := k) (by omega) hl
    have hy := hn y (List.mem_of_getElem? hky)
    have hc : (decide (0 < ((k : Nat) : Int)) && decide (y ≤ q)) = false := by
      cases k with
      | zero => rfl
      | succ j =>
        have hq := p3 (by omega)
        have h1 : j < l.length := by omega
        have h2 : j + 1 < l.length := by omega
        have hlt := List.pairwise_iff_getElem.1 hs j (j + 1) h1 h2 (by omega)
        rw [List.getElem?_eq_getElem h2] at hky
        simp only [Nat.add_sub_cancel] at hq
        rw [List.getElem?_eq_getElem h1] at hq
        cases hky; cases hq
        rw [decide_eq_false (by omega : ¬ l[j + 1] ≤ l[j]), Bool.and_false]
    rw [s146_l1, p2, decide_eq_false (by omega), decide_eq_false (by omega)]
    simp only [bindO, Bool.or_self, cond_false, hc]
    exact asc_ok l n hl hs hn rest (k + 1) hd' (by omega)
theorem unc0_in (r2 : Nat → Option Int) (a0 : S23) (c : S139) (k : Nat) (y : S151) (v : List S151) (hc : ∀ (j : Nat) (z : S151), v[j]? = some z → s142 a0 y z = true → (k : Int) ∈ c.Slots ∨ (j : Int) ∈ c.Records) : ∀ (l : List S151) (j : Nat), v.drop j = l → s79_l2 r2 a0 c k y l j = r2 (k + 1)
  | [], j, _ => by rw [s79_l2]
  | z :: l, j, hd => by
    have hz : v[j]? = some z := by
      have : (v.drop j)[0]? = some z := by rw [hd]; rfl
      simpa using this
    have hd' : v.drop (j + 1) = l := by
      have : v.drop (j + 1) = (v.drop j).drop 1 := by rw [List.drop_drop]
      rw [this, hd]; rfl
    have h0 : (((s145 a0 y z) && (!(s80 c.Slots ((k : Nat) : Int)))) && (!(s80 c.Records ((j : Nat) : Int)))) = false := by
      rw [← s142_eq, s80_eq, s80_eq]
      cases hp : s142 a0 y z
      · rfl
      · rcases hc j z hz hp with h | h <;> simp [h]
    rw [s79_l2, h0, cond_false]
    exact unc0_in r2 a0 c k y v hc l (j + 1) hd'
theorem unc0 (a0 : S23) (u v : List S151) (c : S139) {M : List S154} (hM : s120 a0 u v = some M) (hs : IntKind.i64.wrap ((List.length c.Slots : Int) + (List.length c.Records : Int)) = (List.length M : Int))
    (hc : ∀ (i j : Nat) (y z : S151), u[i]? = some y → v[j]? = some z → s142 a0 y z = true → (i : Int) ∈ c.Slots ∨ (j : Int) ∈ c.Records) : ∀ (l : List S151) (k : Nat), u.drop k = l → s79_l1 a0 u v c l k = some 0
  | [], k, _ => by
    rw [s79_l1, hM]
    simp only [bindO]
    rw [decide_eq_false (by simpa using hs)]; rfl
  | y :: l, k, hd => by
    have hy : u[k]? = some y := by
      have : (u.drop k)[0]? = some y := by rw [hd]; rfl
      simpa using this
    have hd' : u.drop (k + 1) = l := by
      have : u.drop (k + 1) = (u.drop k).drop 1 := by rw [List.drop_drop]
      rw [this, hd]; rfl
    rw [s79_l1, unc0_in _ a0 c k y v (fun j z hz hp => hc k j y z hy hz hp) v 0 rfl]
    exact unc0 a0 u v c hM hs hc l (k + 1) hd'
theorem s120_mat (a0 : S23) (u v : List S151) : s120 a0 u v = some (mat a0 u v) := by
  obtain ⟨M, m1, m2, _⟩ := match_ok a0 u v
  rw [s115_eq] at m1
  rw [m2, Option.some.inj m1]
theorem same_len {a b : List Int} (ha : a.Nodup) (hb : b.Nodup) (h : ∀ x, x ∈ a ↔ x ∈ b) : a.length = b.length :=
  Nat.le_antisymm (nodup_sub_len ha fun x hx => (h x).1 hx) (nodup_sub_len hb fun x hx => (h x).2 hx)
theorem covered_ok {a0 : S23} {u v : List S151} (h : s113 a0 u v = 0) (hu : u.length ≤ 100) (hv : v.length ≤ 100) : ∃ c : S139, s77 a0 u v = some (c, 0) ∧ c.Slots.length + c.Records.length = (mat a0 u v).length ∧ c.Slots.length ≤ u.length ∧ c.Records.length ≤ v.length ∧
    (∀ (i j : Nat) (y z : S151), u[i]? = some y → v[j]? = some z → s142 a0 y z = true → (i : Int) ∈ c.Slots ∨ (j : Int) ∈ c.Records) ∧ s79 a0 u v c = some 0 := by
  obtain ⟨h1, h2, h3⟩ := s113_ok h
  have W := win_ok (v := v) h1 h2
  have st0 : ST a0 u v 0 [] (List.replicate u.length false) := ⟨by simp, fun n => ⟨fun hn => (rep_not hn).elim, fun g => absurd g.1 (Nat.not_lt_zero _)⟩, fun i => ⟨fun hi => (by cases hi), fun ⟨n, _, g⟩ => (rep_not g).elim⟩, by rw [cF_rep]; simp⟩
  obtain ⟨w, re, st, e1⟩ := start_run a0 u v u 0 [] (List.replicate u.length false) (by simp) st0
  have si0 : SI a0 u v w (List.replicate v.length false) re (fun _ => False) :=
    { lm := by simp
      lr := st.lr
      i2 := fun i hi => (st.wm i).1 hi
      i3 := fun n hn => by
        obtain ⟨_, g2, g3⟩ := (st.t n).1 hn
        exact rch_start W (ordI_mem.2 (mem_idxs.2 ⟨by omega, by simpa using g2⟩)) g3
      i4 := fun k hk => (rep_not hk).elim
      i5 := fun n hn => .inl ((st.wm _).2 ⟨n, rfl, hn⟩)
      i6 := fun n hn hs => (st.t n).2 ⟨hn, hn, hs⟩ }
  obtain ⟨met, re', si, e2⟩ := outer W (u.length + 1) w (List.replicate v.length false) re si0 (by have := st.c; omega)
  have hS : ∀ j, j ∈ pick false re' 0 ↔ ∃ n : Nat, j = (n : Int) ∧ re'[n]? = some false := fun j => by rw [mem_pick]; simp
  have hR : ∀ j, j ∈ pick true met 0 ↔ ∃ n : Nat, j = (n : Int) ∧ met[n]? = some true := fun j => by rw [mem_pick]; simp
  have hcov : ∀ (i j : Nat) (y z : S151), u[i]? = some y → v[j]? = some z → s142 a0 y z = true → (i : Int) ∈ pick false re' 0 ∨ (j : Int) ∈ pick true met 0 := by
    intro i j y z hy hz hp
    have hi : i < re'.length := by rw [si.lr]; exact (List.getElem?_eq_some_iff.1 hy).1
    cases hv' : re'[i]
    · exact .inl ((hS _).2 ⟨i, rfl, by rw [List.getElem?_eq_getElem hi, hv']⟩)
    · right
      have hok : okI a0 u v (i : Int) (j : Int) = true := by rw [okI_of (by simpa using hy) (by simpa using hz)]; exact hp
      rcases si.i5 i (by rw [List.getElem?_eq_getElem hi, hv']) with g | g | g
      · cases g
      · exact (hR _).2 ⟨j, rfl, g j (List.getElem?_eq_some_iff.1 hz).1 hok⟩
      · exact g.elim
  have hlen : (pick false re' 0).length + (pick true met 0).length = (mat a0 u v).length := by
    have hp : ∀ e ∈ mat a0 u v, ∃ i j : Nat, e.Slot = (i : Int) ∧ e.Record = (j : Int) ∧ i < u.length ∧ j < v.length := fun e he => by
      obtain ⟨g1, g2⟩ := mem_idxs.1 (mat_slot he)
      obtain ⟨g3, g4⟩ := mem_idxs.1 (mat_rec he)
      exact ⟨e.Slot.toNat, e.Record.toNat, by omega, by omega, g2, g4⟩
    rw [filter_len (fun e => decide (e.Record ∈ pick true met 0)) (mat a0 u v)]
    have r1 : (pick true met 0).length = ((mat a0 u v).filter (fun e => decide (e.Record ∈ pick true met 0))).length := by
      rw [← List.length_map (f := S154.Record)]
      refine same_len ((pick_sorted true met 0).imp fun h => by omega) ((mat_recs a0 u v).sublist (List.filter_sublist.map _)) fun x => ?_
      constructor
      · intro hx
        obtain ⟨n, rfl, hn⟩ := (hR x).1 hx
        obtain ⟨o, ho, _⟩ := si.i4 n hn
        exact List.mem_map.2 ⟨_, List.mem_filter.2 ⟨ho, by simpa using hx⟩, rfl⟩
      · intro hx
        obtain ⟨e, he, rfl⟩ := List.mem_map.1 hx
        simpa using (List.mem_filter.1 he).2
    have r2 : (pick false re' 0).length = ((mat a0 u v).filter (fun e => !decide (e.Record ∈ pick true met 0))).length := by
      rw [← List.length_map (f := S154.Slot)]
      refine same_len ((pick_sorted false re' 0).imp fun h => by omega) ((mat_slots a0 u v).sublist (List.filter_sublist.map _)) fun x => ?_
      constructor
      · intro hx
        obtain ⟨n, rfl, hn⟩ := (hS x).1 hx
        have hnu : n < u.length := by rw [← si.lr]; exact (List.getElem?_eq_some_iff.1 hn).1
        have hmem : (n : Int) ∈ (mat a0 u v).map S154.Slot := Decidable.byContradiction fun hc => by
          have := si.i6 n hnu hc
          rw [hn] at this; cases this
        obtain ⟨e, he, hs⟩ := List.mem_map.1 hmem
        obtain ⟨i, j, g1, g2, g3, g4⟩ := hp e he
        refine List.mem_map.2 ⟨e, List.mem_filter.2 ⟨he, ?_⟩, hs⟩
        simp only [Bool.not_eq_true', decide_eq_false_iff_not]
        intro hr
        obtain ⟨k, hk, hkm⟩ := (hR _).1 hr
        obtain ⟨o, ho, hor⟩ := si.i4 k hkm
        have heq : e = ⟨(o : Int), (k : Int)⟩ := rec_inj (mat_recs a0 u v) he ho hk
        rw [heq] at hs
        have : o = n := by simp only at hs; omega
        subst this
        rw [hn] at hor; cases hor
      · intro hx
        obtain ⟨e, he, rfl⟩ := List.mem_map.1 hx
        obtain ⟨he1, he2⟩ := List.mem_filter.1 he
        simp only [Bool.not_eq_true', decide_eq_false_iff_not] at he2
        obtain ⟨i, j, g1, g2, g3, g4⟩ := hp e he1
        have hok := (gm_ok _ _ e he1).1
        have hi : i < re'.length := by rw [si.lr]; exact g3
        cases hv' : re'[i]
        · rw [g1]; exact (hS _).2 ⟨i, rfl, by rw [List.getElem?_eq_getElem hi, hv']⟩
        · exfalso
          rcases si.i5 i (by rw [List.getElem?_eq_getElem hi, hv']) with g | g | g
          · cases g
          · refine he2 (by rw [g2]; exact (hR _).2 ⟨j, rfl, g j g4 (by rw [← g1, ← g2]; exact hok)⟩)
          · exact g
    omega
  have hSb : ∀ x ∈ pick false re' 0, 0 ≤ x ∧ x < (u.length : Int) := fun x hx => by
    obtain ⟨n, rfl, hn⟩ := (hS x).1 hx
    have := (List.getElem?_eq_some_iff.1 hn).1
    rw [si.lr] at this
    omega
  have hRb : ∀ x ∈ pick true met 0, 0 ≤ x ∧ x < (v.length : Int) := fun x hx => by
    obtain ⟨n, rfl, hn⟩ := (hR x).1 hx
    have := (List.getElem?_eq_some_iff.1 hn).1
    rw [si.lm] at this
    omega
  have hSl : (pick false re' 0).length ≤ u.length := by
    have := nodup_sub_len ((pick_sorted false re' 0).imp fun h => by omega) (b := idxs u.length) fun x hx => mem_idxs.2 (by have := hSb x hx; omega)
    rwa [idxs_len] at this
  have hRl : (pick true met 0).length ≤ v.length := by
    have := nodup_sub_len ((pick_sorted true met 0).imp fun h => by omega) (b := idxs v.length) fun x hx => mem_idxs.2 (by have := hRb x hx; omega)
    rwa [idxs_len] at this
  refine ⟨⟨pick false re' 0, pick true met 0⟩, ?_, hlen, hSl, hRl, hcov, ?_⟩
  · unfold s77
    rw [decide_eq_false (by simpa using h), cond_false, s115_eq]
    simp only [bindO]
    rw [s77_maps, e1, e2, l4_run]
    rfl
  · unfold s79
    rw [show s146 (pick false re' 0) (List.length u : Int) = some 0 from asc_ok _ _ (by omega) (pick_sorted false re' 0) hSb _ 0 rfl (by simp),
      show s146 (pick true met 0) (List.length v : Int) = some 0 from asc_ok _ _ (by omega) (pick_sorted true met 0) hRb _ 0 rfl (by simp)]
    simp only [bindO]
    rw [show decide (s89 [0, 0] ≠ 0) = false from rfl, cond_false]
    refine unc0 a0 u v _ (s120_mat a0 u v) ?_ hcov u 0 rfl
    show IntKind.i64.wrap ((List.length (pick false re' 0) : Int) + (List.length (pick true met 0) : Int)) = _
    rw [wrap_i64 ⟨by omega, by omega⟩]; omega
theorem s79_some (a0 : S23) (u v : List S151) (c : S139) (h1 : c.Slots.length ≤ 1000) (h2 : c.Records.length ≤ 1000) : ∃ r, s79 a0 u v c = some r := by
  obtain ⟨r1, g1⟩ := asc_some c.Slots (List.length u : Int) (by omega) c.Slots 0 (by simp)
  obtain ⟨r2, g2⟩ := asc_some c.Records (List.length v : Int) (by omega) c.Records 0 (by simp)
  have g1 : s146 c.Slots (List.length u : Int) = some r1 := g1
  have g2 : s146 c.Records (List.length v : Int) = some r2 := g2
  have key : ∀ (l : List S151) (k : Nat), ∃ r, s79_l1 a0 u v c l k = some r := by
    intro l
    induction l with
    | nil =>
      intro k
      rw [s79_l1, s120_mat]
      simp only [bindO]
      cases decide (IntKind.i64.wrap ((List.length c.Slots : Int) + (List.length c.Records : Int)) ≠ (List.length (mat a0 u v) : Int))
      · exact ⟨_, rfl⟩
      · exact ⟨_, rfl⟩
    | cons y l ih =>
      intro k
      obtain ⟨r, hr⟩ := ih (k + 1)
      rw [s79_l1]
      have inn : ∀ (l2 : List S151) (j : Nat), ∃ r, s79_l2 (fun k_ => s79_l1 a0 u v c l k_) a0 c k y l2 j = some r := by
        intro l2
        induction l2 with
        | nil => intro j; exact ⟨r, by rw [s79_l2]; exact hr⟩
        | cons z l2 ih2 =>
          intro j
          obtain ⟨q, hq⟩ := ih2 (j + 1)
          rw [s79_l2, hq]
          cases (((s145 a0 y z) && (!(s80 c.Slots ((k : Nat) : Int)))) && (!(s80 c.Records ((j : Nat) : Int)))) <;> exact ⟨_, rfl⟩
      exact inn v 0
  unfold s79
  rw [g1, g2]
  simp only [bindO]
  cases decide (s89 [r1, r2] ≠ 0)
  · exact key u 0
  · exact ⟨_, rfl⟩
theorem s78_some (a0 : S23) (a1 a2 : List S151) (a3 : List S154) (hl : a3.length ≤ 100000) : ∀ (rest : List S154) (k : Nat), k + rest.length = a3.length → ∃ r, s78_l1 a0 a1 a2 a3 rest k = some r
  | [], k, _ => ⟨0, rfl⟩
  | y :: rest, k, hk => by
    rw [List.length_cons] at hk
    obtain ⟨q, _, p2, _⟩ := prev_eq (l := a3) (k := k) (by omega) hl
    obtain ⟨r, hr⟩ := s78_some a0 a1 a2 a3 hl rest (k + 1) (by omega)
    have hin := s78_in (fun k_ => s78_l1 a0 a1 a2 a3 rest k_) a0 a1 a2 a3 k y k 0 (by omega)
    have e0 : ((((k : Nat) : Int) - 0).toNat) = k := by omega
    have e1 : ((0 : Nat) : Int) = 0 := rfl
    rw [e1] at hin
    rw [s78_l1, p2, e0, hin]
    simp only [bindO]
    cases hAB : ((((decide (y.Slot < 0)) || (decide ((List.length a1 : Int) ≤ y.Slot))) || (decide (y.Record < 0))) || (decide ((List.length a2 : Int) ≤ y.Record)))
    · simp only [cond_false]
      cases (decide (0 < ((k : Nat) : Int)) && decide (y.Slot ≤ q.Slot))
      · simp only [cond_false]
        cases decide (y.Record ∈ ((a3.drop 0).take k).map S154.Record)
        · simp only [cond_false]
          simp only [Bool.or_eq_false_iff, decide_eq_false_iff_not] at hAB
          have i1 := ixO_in (l := a1) (i := y.Slot) (by omega) (by omega)
          have i2 := ixO_in (l := a2) (i := y.Record) (by omega) (by omega)
          rw [s78_l2, i1, i2]
          simp only [bindO]
          cases s145 a0 a1[y.Slot.toNat] a2[y.Record.toNat]
          · exact ⟨_, rfl⟩
          · exact ⟨r, by simpa using hr⟩
        · exact ⟨_, rfl⟩
      · exact ⟨_, rfl⟩
    · exact ⟨_, rfl⟩
theorem s76_some (a0 : S23) (u v : List S151) (c : S139) (h1 : c.Slots.length ≤ 1000) (h2 : c.Records.length ≤ 1000) (hb : s113 a0 u v ≠ 0) : s76 a0 u v c = some (s113 a0 u v) := by
  obtain ⟨r1, g1⟩ := asc_some c.Slots (List.length u : Int) (by omega) c.Slots 0 (by simp)
  obtain ⟨r2, g2⟩ := asc_some c.Records (List.length v : Int) (by omega) c.Records 0 (by simp)
  have g1 : s146 c.Slots (List.length u : Int) = some r1 := g1
  have g2 : s146 c.Records (List.length v : Int) = some r2 := g2
  have e : s84 [s113 a0 u v, r1, r2] = s113 a0 u v := by
    unfold s84; rw [s84_l1, decide_eq_true hb, cond_true]
  unfold s76
  rw [s143_eq _ _ (by omega), s143_eq _ _ (by omega), g1, g2]
  simp only [bindO]
  rw [e, decide_eq_true hb, cond_true]
theorem s14_true (a0 : S23) (a1 : S141) : s14 a0 a1 = some true := by
  unfold s14
  rw [s16_eq]
  by_cases q1 : 10 < (a1.Pairs.length : Int)
  · rw [decide_eq_true q1]; simp
  by_cases q2 : 10 < (a1.Cover.Slots.length : Int)
  · rw [decide_eq_true q2]; simp
  by_cases q3 : 10 < (a1.Cover.Records.length : Int)
  · rw [decide_eq_true q3]; simp
  cases hc : ((((((!true) || (!(s17 (s18 a0)))) || (!(s19 (s20 a1.Slots) 7))) || (!(s19 (s20 a1.Records) 7))) || (decide (10 < (List.length a1.Pairs : Int)))) || (decide (10 < (List.length a1.Cover.Slots : Int)))) || (decide (10 < (List.length a1.Cover.Records : Int)))
  · simp only [Bool.or_eq_false_iff, Bool.not_eq_false'] at hc
    have hs := short7 (a0 := a0) hc.1.1.1
    rw [cond_false, s20_eq, s20_eq, s51_eq]
    rw [show s18 a0 = a0 from rfl, ← both_eq]
    have k1 : (S139.mk a1.Cover.Slots a1.Cover.Records).Slots.length ≤ 1000 := by show a1.Cover.Slots.length ≤ 1000; omega
    have k2 : (S139.mk a1.Cover.Slots a1.Cover.Records).Records.length ≤ 1000 := by show a1.Cover.Records.length ≤ 1000; omega
    by_cases h : s113 a0 a1.Slots a1.Records = 0
    · obtain ⟨hu, hv⟩ := hs (by simpa using h)
      obtain ⟨c, c1, c2, c3, c4, c5, c6⟩ := covered_ok h (by omega) (by omega)
      obtain ⟨r4, g4⟩ := s78_some a0 a1.Slots a1.Records a1.Pairs (by omega) a1.Pairs 0 (by simp)
      have g4 : s78 a0 a1.Slots a1.Records a1.Pairs = some r4 := g4
      obtain ⟨r5, g5⟩ := s79_some a0 a1.Slots a1.Records (S139.mk a1.Cover.Slots a1.Cover.Records) k1 k2
      have g7 := (s76_eq (c := c) h (by omega) (by omega)).trans c6
      rw [s75_eq h (by omega), s76_eq h k1 k2, g4, g5, c1]
      simp only [bindO]
      rw [decide_eq_false (p := s113 a0 a1.Slots a1.Records ≠ 0) (by simpa using h), cond_false]
      have d1 : decide (r4 ≠ r4) = false := by simp
      have d2 : decide (r5 ≠ r5) = false := by simp
      have d3 : decide ((0 : Int) ≠ 0) = false := by decide
      have d4 : decide ((List.length a1.Slots : Int) < (List.length c.Slots : Int)) = false := decide_eq_false (by omega)
      have d5 : decide ((List.length a1.Records : Int) < (List.length c.Records : Int)) = false := decide_eq_false (by omega)
      simp only [d1, d2, d3, d4, d5, Bool.or_self, Bool.not_false, cond_true, cond_false, bindO, c6, decide_true, g7, Bool.and_self]
    · have e75 : s75 a0 a1.Slots a1.Records a1.Pairs = some (s113 a0 a1.Slots a1.Records) := by
        unfold s75; rw [decide_eq_true (p := s113 a0 a1.Slots a1.Records ≠ 0) h, cond_true]
      have e77 : s77 a0 a1.Slots a1.Records = some (S139.mk [] [], s113 a0 a1.Slots a1.Records) := by
        unfold s77; rw [decide_eq_true (p := s113 a0 a1.Slots a1.Records ≠ 0) h, cond_true]
      rw [e75, s76_some a0 _ _ _ k1 k2 h, e77]
      simp only [bindO]
      rw [decide_eq_true (p := s113 a0 a1.Slots a1.Records ≠ 0) h, cond_true]
      simp
      decide
  · rfl
end Go.Sim

namespace Go.Sim
/-! ## the bytes of a slice in a field of an argument -/
theorem take_one {α : Type} {l : List α} {o : Nat} {x : α} (h : l[o]? = some x) : (l.drop o).take 1 = [x] := by
  have hlt := (List.getElem?_eq_some_iff.1 h).1
  rw [List.drop_eq_getElem_cons hlt]
  rw [List.getElem?_eq_getElem hlt] at h
  cases h
  rfl
theorem fits_two {w : World} {M : Nat → Prop} {g0 g1 : G} {gs : List G} : ∀ {cs : List Value}, Fits w M (g0 :: g1 :: gs) cs → ∃ c0 c1 cr, cs = c0 :: c1 :: cr ∧ g0.p w M c0 ∧ g1.p w M c1
  | c0 :: c1 :: cr, h => ⟨c0, c1, cr, rfl, h.1.1, h.2.1.1⟩
  | [_], h => h.2.elim
  | [], h => h.elim
theorem sized_field {H : Type} {enc : TypeId × Value → H} {P : Program} {w : World} {base : Nat} {spare : Nat → Bool} {held : Bool} {t : TypeId} {fs : Array Field} {cs : Array Value} {d : DataW H} {p : List MemPlace} (hs : P.underlying t = some (.struct fs)) (h : DataW.Trod enc P w base spare held t (.agg cs) d p)
    {ts : List TypeId} {ds : List (DataW H)} (hsz : (DataW.weightsEach P ts ds).all (· ≤ reachBytes) = true) {j : Nat} (ht : ts[j]? = some t) (hd : ds[j]? = some d) {i : Nat} {f : Field} {e : TypeId} (hi : fs[i]? = some f) (hsl : P.underlying f.type = some (.slice e)) (hc1 : P.cellsOf f.type = 1)
    {a : Option Addr} {n cap : Nat} (hc : cs.toList[f.offset]? = some (.slice a n cap)) : n * P.bytesOf e ≤ reachBytes := by
  obtain ⟨fuel, hf⟩ := h
  obtain ⟨xs, m, _, hx, _, hlen, hff⟩ := DataW.trod_struct hs hf
  have h1 := hff i f hi
  have hlt : i < xs.length := by rw [hlen]; exact (Array.getElem?_eq_some_iff.1 hi).1
  have hcells : (Value.agg cs).cells.toList = cs.toList := rfl
  rw [hc1, hcells, take_one hc, List.getElem?_eq_getElem hlt] at h1
  rcases DataW.trod_slice hsl h1 with ⟨g1, _⟩ | ⟨a', len, cap', elems, rest, n', _, g1, g2, _, _, _, g3, _⟩
  · cases g1; simp
  · cases g1
    simp only [Prod.mk.injEq] at hx
    obtain ⟨rfl, _⟩ := hx
    have w1 : (elems.length + rest.length) * P.bytesOf e ∈ DataW.weights P f.type (xs[i]).1 := by
      rw [g2]
      simp [DataW.weights, hsl]
    have w2 : (elems.length + rest.length) * P.bytesOf e ∈ DataW.weights P t (.agg (xs.map (·.1))) := by
      have hfi : (fs.toList.map (·.type))[i]? = some f.type := by rw [List.getElem?_map, Array.getElem?_toList, hi]; rfl
      have hxi : (xs.map (·.1))[i]? = some (xs[i]).1 := by rw [List.getElem?_map, List.getElem?_eq_getElem hlt]; rfl
      have := DataW.weights_mem_each hfi hxi _ w1
      simpa [DataW.weights, hs] using this
    have := List.all_eq_true.1 hsz _ (DataW.weights_mem_each ht hd _ w2)
    have h3 : (elems.length + rest.length) * P.bytesOf e ≤ reachBytes := by simpa using this
    refine Nat.le_trans (Nat.mul_le_mul_right _ ?_) h3
    omega
end Go.Sim

