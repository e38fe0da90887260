/-
  What is proved: UseShares: its walk, and its law: it is true of every rule and every ratio.
-/
import Derived.Test.YtdfgeoefbbkcnaaGreatDoorVsD1
import Derived.Test.YtdfgeoefbbkcnaaGreatDoorVaA4
set_option linter.unusedSectionVars false
set_option linter.unusedSimpArgs false
set_option linter.unusedVariables false
set_option linter.unnecessarySimpa false
set_option linter.deprecated false
set_option linter.unusedSimpArgs false
set_option linter.unusedVariables false
set_option maxRecDepth 10000
namespace Go.Sim
open Go.Proofs

theorem pl56 : placesK Tryz.prog 56 = some [(0, 1), (1, 1)] := by kernel_rfl
theorem z24 : zeroK Tryz.prog 24 = some [.int .i64 0, .int .i64 0, .int .i64 0, .int .i64 0, .slice none 0 0, .int .i64 0, .int .i64 0] := by kernel_rfl
theorem z56 : zeroK Tryz.prog 56 = some [.int .i64 0, .int .i64 0] := by kernel_rfl
/-- turnroundlaw09.UseShares -/
def s7_j1 (a0 : S23) (a1 : S55)  : Bool :=
  ((decide ((s33 (S23.mk a0.Before a0.After a0.Notice 100 a0.Causes a0.Off a0.Run) a1).2 = 0)) && (((s33 (S23.mk a0.Before a0.After a0.Notice 100 a0.Causes a0.Off a0.Run) a1).1) == (decide (a1.Flown = a1.Due)))) && ((!((s33 (S23.mk a0.Before a0.After a0.Notice 100 a0.Causes a0.Off a0.Run) a1).1)) || ((s33 a0 a1).1))
noncomputable def s7 (a0 : S23) (a1 : S55) : Bool :=
  (bif ((!s16) || (!(s17 (s18 a0)))) || (decide ((s35 [(s24 (s18 a0)), (s36 a1)]) ≠ 0)) then s16 else (bif ((((decide (IntKind.i64.wrap (((s34 a0 a1).2) + ((s33 a0 a1).2)) ≠ 0)) || (decide ((s34 a0 a1).1 < 0))) || (decide (IntKind.i64.wrap (a1.Due - a1.Flown) < (s34 a0 a1).1))) || ((decide (a1.Due = 0)) && ((decide ((s34 a0 a1).1 ≠ 0)) || ((s33 a0 a1).1)))) || ((decide (0 < a1.Due)) && (!(((s33 a0 a1).1) == (decide ((s34 a0 a1).1 = 0))))) then false else (bif decide (a1.Due = 0) then true else (bif ((decide (IntKind.i64.wrap (((s33 a0 (S55.mk (IntKind.i64.wrap (a1.Flown + ((s34 a0 a1).1))) a1.Due)).2) + ((s33 a0 (S55.mk a1.Due a1.Due)).2)) ≠ 0)) || (!((s33 a0 (S55.mk (IntKind.i64.wrap (a1.Flown + ((s34 a0 a1).1))) a1.Due)).1))) || (!((s33 a0 (S55.mk a1.Due a1.Due)).1)) then false else (bif decide (0 < (s34 a0 a1).1) then (bif (decide ((s33 a0 (S55.mk (IntKind.i64.wrap ((IntKind.i64.wrap (a1.Flown + ((s34 a0 a1).1))) - 1)) a1.Due)).2 ≠ 0)) || ((s33 a0 (S55.mk (IntKind.i64.wrap ((IntKind.i64.wrap (a1.Flown + ((s34 a0 a1).1))) - 1)) a1.Due)).1) then false else s7_j1 a0 a1) else s7_j1 a0 a1)))))
theorem c7 (a0 : S23) (a1 : S55)    : Con (EG glT) 7 [G.agg [G.int a0.Before, G.int a0.After, G.int a0.Notice, G.int a0.Share, G.sl 1 (List.map cStr a0.Causes), G.int a0.Off, G.int a0.Run], G.agg [G.int a1.Flown, G.int a1.Due]] (G.bool (s7 a0 a1)) := by
  generalize hR : s7 a0 a1 = R
  unfold s7 at hR
  refine con_of_aw Tryz.func7 rfl rfl fun w0 M0 => ?_
  refine aw_seq ?_
  refine aw_region [.p, .p, .p] ?_
  refine st rfl rfl (eff_box rfl rfl) rfl ?_
  refine st rfl rfl (eff_box rfl rfl) rfl ?_
  refine st rfl rfl (eff_assigng rfl rfl) rfl ?_
  refine st_nil ?_
  refine aw_seq ?_
  refine aw_seq ?_
  refine aw_draw [.p, .p, .p, .p, .p, .p, .p, .p, .p, .p, .p, .p, .p, .p, .p, .p, .p, .p] (by kernel_rfl) ?_
  refine st rfl rfl (eff_call rfl K16 rfl (c16) ag_nil) rfl ?_
  refine st rfl rfl (eff_not rfl rfl) rfl ?_
  refine st rfl rfl (eff_moveg rfl rfl) rfl ?_
  refine st_g rfl rfl rfl (gb_bool _ _) (fun h => eff_loadA rfl ty24 rfl rfl rfl) rfl ?_
  refine st_g rfl rfl rfl (gb_bool _ _) (fun h => eff_call rfl K18 rfl (c18 a0) (ag_cons (gd h rfl) ag_nil)) rfl ?_
  refine st_g rfl rfl rfl (gb_bool _ _) (fun h => eff_call rfl K17 rfl (c17 (s18 a0)) (ag_cons (gd h rfl) ag_nil)) rfl ?_
  refine st_g rfl rfl rfl (gb_bool _ _) (fun h => eff_not rfl (gd h rfl)) rfl ?_
  refine st rfl rfl (eff_or rfl rfl rfl rfl) rfl ?_
  refine st rfl rfl (eff_moveg rfl rfl) rfl ?_
  refine st_g rfl rfl rfl (gb_bool _ _) (fun h => eff_loadA rfl ty24 rfl rfl rfl) rfl ?_
  refine st_g rfl rfl rfl (gb_bool _ _) (fun h => eff_call rfl K18 rfl (c18 a0) (ag_cons (gd h rfl) ag_nil)) rfl ?_
  refine st_g rfl rfl rfl (gb_bool _ _) (fun h => eff_call rfl K24 rfl (c24 (s18 a0)) (ag_cons (gd h rfl) ag_nil)) rfl ?_
  refine st_g rfl rfl rfl (gb_bool _ _) (fun h => eff_loadA rfl ty56 rfl rfl rfl) rfl ?_
  refine st_g rfl rfl rfl (gb_bool _ _) (fun h => eff_call rfl K36 rfl (c36 a1) (ag_cons (gd h rfl) ag_nil)) rfl ?_
  refine st_g rfl rfl rfl (gb_bool _ _) (fun h => eff_buildSlice rfl Tryz.underlying82 ty3 z3 rfl (ps_cons (gd h rfl) (ps_cons (gd h rfl) ps_nil)) rfl (by simp [S23.c, S151.c, S104.c, S45.c, S47.c, S55.c]) (by decide)) rfl ?_
  refine st_g rfl rfl rfl (gb_bool _ _) (fun h => eff_call rfl K35 rfl (c35 [(s24 (s18 a0)), (s36 a1)]) (ag_cons (gd h rfl) ag_nil)) rfl ?_
  refine st_g rfl rfl rfl (gb_bool _ _) (fun h => eff_neq rfl (gd h rfl) rfl) rfl ?_
  refine st rfl rfl (eff_or rfl rfl rfl rfl) rfl ?_
  refine st_nil ?_
  refine aw_cond _ rfl (fun h1 => ?_) (fun h1 => ?_)
  · replace h1 : (((!s16) || (!(s17 (s18 a0)))) || (decide ((s35 [(s24 (s18 a0)), (s36 a1)]) ≠ 0))) = true := h1
    replace hR := condT hR h1
    try simp only [Bool.or_eq_true, Bool.and_eq_true, Bool.or_eq_false_iff, Bool.and_eq_false_iff, Bool.not_eq_true', Bool.not_eq_false', decide_eq_true_eq, decide_eq_false_iff_not] at h1
    refine aw_seq ?_
    refine aw_region [.p, .p] ?_
    refine st rfl rfl (eff_call rfl K16 rfl (c16) ag_nil) rfl ?_
    refine st rfl rfl (eff_assigng rfl rfl) rfl ?_
    refine st_nil ?_
    refine aw_ret ?_
    subst hR
    exact res_c rfl (rv_g rfl)
  · replace h1 : (((!s16) || (!(s17 (s18 a0)))) || (decide ((s35 [(s24 (s18 a0)), (s36 a1)]) ≠ 0))) = false := h1
    replace hR := condF hR h1
    try simp only [Bool.or_eq_true, Bool.and_eq_true, Bool.or_eq_false_iff, Bool.and_eq_false_iff, Bool.not_eq_true', Bool.not_eq_false', decide_eq_true_eq, decide_eq_false_iff_not] at h1
    refine aw_skip ?_
    refine aw_seq ?_
    refine aw_region [.p, .p, .p, .p, .p, .p, .p, .p] ?_
    refine st rfl rfl (eff_loadA rfl ty24 rfl rfl rfl) rfl ?_
    refine st rfl rfl (eff_loadA rfl ty56 rfl rfl rfl) rfl ?_
    refine st rfl rfl (eff_call rfl K34 rfl (c34 a0 a1) (ag_cons rfl (ag_cons rfl ag_nil))) rfl ?_
    refine st rfl rfl (eff_moveg rfl rfl) rfl ?_
    refine st rfl rfl (eff_extract rfl rfl rfl) rfl ?_
    refine st rfl rfl (eff_extract rfl rfl rfl) rfl ?_
    refine st rfl rfl (eff_assigng rfl rfl) rfl ?_
    refine st rfl rfl (eff_assigng rfl rfl) rfl ?_
    refine st_nil ?_
    refine aw_seq ?_
    refine aw_region [.p, .p, .p, .p, .p, .p, .p, .p] ?_
    refine st rfl rfl (eff_loadA rfl ty24 rfl rfl rfl) rfl ?_
    refine st rfl rfl (eff_loadA rfl ty56 rfl rfl rfl) rfl ?_
    refine st rfl rfl (eff_call rfl K33 rfl (c33 a0 a1) (ag_cons rfl (ag_cons rfl ag_nil))) rfl ?_
    refine st rfl rfl (eff_moveg rfl rfl) rfl ?_
    refine st rfl rfl (eff_extract rfl rfl rfl) rfl ?_
    refine st rfl rfl (eff_extract rfl rfl rfl) rfl ?_
    refine st rfl rfl (eff_assigng rfl rfl) rfl ?_
    refine st rfl rfl (eff_assigng rfl rfl) rfl ?_
    refine st_nil ?_
    refine aw_seq ?_
    refine aw_seq ?_
    refine aw_region [.p, .p, .p, .p, .p, .p, .p, .p, .p, .p, .p, .p, .p, .p, .p, .p, .p, .p, .p, .p, .p, .p, .p, .p, .p, .p, .p, .p, .p, .p, .p, .p, .p, .p, .p, .p, .p, .p, .p, .p] ?_
    refine st rfl rfl (eff_moveg rfl rfl) rfl ?_
    refine st rfl rfl (eff_moveg rfl rfl) rfl ?_
    refine st rfl rfl (eff_addw rfl rfl rfl) rfl ?_
    refine st rfl rfl (eff_neq rfl rfl rfl) rfl ?_
    refine st rfl rfl (eff_moveg rfl rfl) rfl ?_
    refine st_g rfl rfl rfl (gb_bool _ _) (fun h => eff_moveg rfl rfl) rfl ?_
    refine st_g rfl rfl rfl (gb_bool _ _) (fun h => eff_lss rfl (gd h rfl) rfl) rfl ?_
    refine st rfl rfl (eff_or rfl rfl rfl rfl) rfl ?_
    refine st rfl rfl (eff_moveg rfl rfl) rfl ?_
    refine st_g rfl rfl rfl (gb_bool _ _) (fun h => eff_moveg rfl rfl) rfl ?_
    refine st_g rfl rfl rfl (gb_bool _ _) (fun h => eff_fieldAddr rfl fl56_1 rfl) rfl ?_
    refine st_g rfl rfl rfl (gb_bool _ _) (fun h => eff_load rfl ty3 (gd h rfl)) rfl ?_
    refine st_g rfl rfl rfl (gb_bool _ _) (fun h => eff_fieldAddr rfl fl56_0 rfl) rfl ?_
    refine st_g rfl rfl rfl (gb_bool _ _) (fun h => eff_load rfl ty3 (gd h rfl)) rfl ?_
    refine st_g rfl rfl rfl (gb_bool _ _) (fun h => eff_subw rfl (gd h rfl) (gd h rfl)) rfl ?_
    refine st_g rfl rfl rfl (gb_bool _ _) (fun h => eff_gtr rfl (gd h rfl) (gd h rfl)) rfl ?_
    refine st rfl rfl (eff_or rfl rfl rfl rfl) rfl ?_
    refine st rfl rfl (eff_moveg rfl rfl) rfl ?_
    refine st_g rfl rfl rfl (gb_bool _ _) (fun h => eff_fieldAddr rfl fl56_1 rfl) rfl ?_
    refine st_g rfl rfl rfl (gb_bool _ _) (fun h => eff_load rfl ty3 (gd h rfl)) rfl ?_
    refine st_g rfl rfl rfl (gb_bool _ _) (fun h => eff_eql rfl (gd h rfl) rfl) rfl ?_
    refine st_g rfl rfl rfl (gb_bool _ _) (fun h => eff_moveg rfl (gd h rfl)) rfl ?_
    refine st_g rfl rfl rfl (gb_if _ _ _) (fun h => eff_moveg rfl rfl) rfl ?_
    refine st_g rfl rfl rfl (gb_if _ _ _) (fun h => eff_neq rfl (gd h rfl) rfl) rfl ?_
    refine st_g rfl rfl rfl (gb_if _ _ _) (fun h => eff_moveg rfl (gd h rfl)) rfl ?_
    refine st_g rfl rfl rfl (gb_if _ _ _) (fun h => eff_moveg rfl rfl) rfl ?_
    refine st_g rfl rfl rfl (gb_if _ _ _) (fun h => eff_or rfl (gd h rfl) rfl (gd2 h rfl)) rfl ?_
    refine st_g rfl rfl rfl (gb_bool _ _) (fun h => eff_and rfl (gd h rfl) rfl (gd2 h rfl)) rfl ?_
    refine st rfl rfl (eff_or rfl rfl rfl rfl) rfl ?_
    refine st rfl rfl (eff_moveg rfl rfl) rfl ?_
    refine st_g rfl rfl rfl (gb_bool _ _) (fun h => eff_fieldAddr rfl fl56_1 rfl) rfl ?_
    refine st_g rfl rfl rfl (gb_bool _ _) (fun h => eff_load rfl ty3 (gd h rfl)) rfl ?_
    refine st_g rfl rfl rfl (gb_bool _ _) (fun h => eff_gtr rfl (gd h rfl) rfl) rfl ?_
    refine st_g rfl rfl rfl (gb_bool _ _) (fun h => eff_moveg rfl (gd h rfl)) rfl ?_
    refine st_g rfl rfl rfl (gb_if _ _ _) (fun h => eff_moveg rfl rfl) rfl ?_
    refine st_g rfl rfl rfl (gb_if _ _ _) (fun h => eff_moveg rfl rfl) rfl ?_
    refine st_g rfl rfl rfl (gb_if _ _ _) (fun h => eff_eql rfl (gd h rfl) rfl) rfl ?_
    refine st_g rfl rfl rfl (gb_if _ _ _) (fun h => eff_bneq rfl Tryz.underlying4 (gd h rfl) (gd h rfl)) rfl ?_
    refine st_g rfl rfl rfl (gb_bool _ _) (fun h => eff_and rfl (gd h rfl) rfl (gd2 h rfl)) rfl ?_
    refine st rfl rfl (eff_or rfl rfl rfl rfl) rfl ?_
    refine st_nil ?_
    refine aw_cond _ rfl (fun h2 => ?_) (fun h2 => ?_)
    · replace h2 : (((((decide (IntKind.i64.wrap (((s34 a0 a1).2) + ((s33 a0 a1).2)) ≠ 0)) || (decide ((s34 a0 a1).1 < 0))) || (decide (IntKind.i64.wrap (a1.Due - a1.Flown) < (s34 a0 a1).1))) || ((decide (a1.Due = 0)) && ((decide ((s34 a0 a1).1 ≠ 0)) || ((s33 a0 a1).1)))) || ((decide (0 < a1.Due)) && (!(((s33 a0 a1).1) == (decide ((s34 a0 a1).1 = 0)))))) = true := h2
      replace hR := condT hR h2
      try simp only [Bool.or_eq_true, Bool.and_eq_true, Bool.or_eq_false_iff, Bool.and_eq_false_iff, Bool.not_eq_true', Bool.not_eq_false', decide_eq_true_eq, decide_eq_false_iff_not] at h2
      refine aw_seq ?_
      refine aw_region [.p] ?_
      refine st rfl rfl (eff_assigng rfl rfl) rfl ?_
      refine st_nil ?_
      refine aw_ret ?_
      subst hR
      exact res_c rfl (rv_g rfl)
    · replace h2 : (((((decide (IntKind.i64.wrap (((s34 a0 a1).2) + ((s33 a0 a1).2)) ≠ 0)) || (decide ((s34 a0 a1).1 < 0))) || (decide (IntKind.i64.wrap (a1.Due - a1.Flown) < (s34 a0 a1).1))) || ((decide (a1.Due = 0)) && ((decide ((s34 a0 a1).1 ≠ 0)) || ((s33 a0 a1).1)))) || ((decide (0 < a1.Due)) && (!(((s33 a0 a1).1) == (decide ((s34 a0 a1).1 = 0)))))) = false := h2
      replace hR := condF hR h2
      try simp only [Bool.or_eq_true, Bool.and_eq_true, Bool.or_eq_false_iff, Bool.and_eq_false_iff, Bool.not_eq_true', Bool.not_eq_false', decide_eq_true_eq, decide_eq_false_iff_not] at h2
      refine aw_skip ?_
      refine aw_seq ?_
      refine aw_seq ?_
      refine aw_region [.p, .p, .p] ?_
      refine st rfl rfl (eff_fieldAddr rfl fl56_1 rfl) rfl ?_
      refine st rfl rfl (eff_load rfl ty3 rfl) rfl ?_
      refine st rfl rfl (eff_eql rfl rfl rfl) rfl ?_
      refine st_nil ?_
      refine aw_cond _ rfl (fun h3 => ?_) (fun h3 => ?_)
      · replace h3 : (decide (a1.Due = 0)) = true := h3
        replace hR := condT hR h3
        try simp only [Bool.or_eq_true, Bool.and_eq_true, Bool.or_eq_false_iff, Bool.and_eq_false_iff, Bool.not_eq_true', Bool.not_eq_false', decide_eq_true_eq, decide_eq_false_iff_not] at h3
        refine aw_seq ?_
        refine aw_region [.p] ?_
        refine st rfl rfl (eff_assigng rfl rfl) rfl ?_
        refine st_nil ?_
        refine aw_ret ?_
        subst hR
        exact res_c rfl (rv_g rfl)
      · replace h3 : (decide (a1.Due = 0)) = false := h3
        replace hR := condF hR h3
        try simp only [Bool.or_eq_true, Bool.and_eq_true, Bool.or_eq_false_iff, Bool.and_eq_false_iff, Bool.not_eq_true', Bool.not_eq_false', decide_eq_true_eq, decide_eq_false_iff_not] at h3
        refine aw_skip ?_
        refine aw_seq ?_
        refine aw_region [.p, .p, .p, .p, .p, .p, .p, .p, .p, .p, .p, .p, .p, .p] ?_
        refine st rfl rfl (eff_loadA rfl ty24 rfl rfl rfl) rfl ?_
        refine st rfl rfl (eff_fieldAddr rfl fl56_0 rfl) rfl ?_
        refine st rfl rfl (eff_load rfl ty3 rfl) rfl ?_
        refine st rfl rfl (eff_moveg rfl rfl) rfl ?_
        refine st rfl rfl (eff_addw rfl rfl rfl) rfl ?_
        refine st rfl rfl (eff_fieldAddr rfl fl56_1 rfl) rfl ?_
        refine st rfl rfl (eff_load rfl ty3 rfl) rfl ?_
        refine st rfl rfl (eff_build rfl z56 rfl pl56 (pb_cons rfl (pb_cons rfl pb_nil)) rfl) rfl ?_
        refine st rfl rfl (eff_call rfl K33 rfl (c33 a0 (S55.mk (IntKind.i64.wrap (a1.Flown + ((s34 a0 a1).1))) a1.Due)) (ag_cons rfl (ag_cons rfl ag_nil))) rfl ?_
        refine st rfl rfl (eff_moveg rfl rfl) rfl ?_
        refine st rfl rfl (eff_extract rfl rfl rfl) rfl ?_
        refine st rfl rfl (eff_extract rfl rfl rfl) rfl ?_
        refine st rfl rfl (eff_assigng rfl rfl) rfl ?_
        refine st rfl rfl (eff_assigng rfl rfl) rfl ?_
        refine st_nil ?_
        refine aw_seq ?_
        refine aw_region [.p, .p, .p, .p, .p, .p, .p, .p, .p, .p, .p, .p] ?_
        refine st rfl rfl (eff_loadA rfl ty24 rfl rfl rfl) rfl ?_
        refine st rfl rfl (eff_fieldAddr rfl fl56_1 rfl) rfl ?_
        refine st rfl rfl (eff_load rfl ty3 rfl) rfl ?_
        refine st rfl rfl (eff_fieldAddr rfl fl56_1 rfl) rfl ?_
        refine st rfl rfl (eff_load rfl ty3 rfl) rfl ?_
        refine st rfl rfl (eff_build rfl z56 rfl pl56 (pb_cons rfl (pb_cons rfl pb_nil)) rfl) rfl ?_
        refine st rfl rfl (eff_call rfl K33 rfl (c33 a0 (S55.mk a1.Due a1.Due)) (ag_cons rfl (ag_cons rfl ag_nil))) rfl ?_
        refine st rfl rfl (eff_moveg rfl rfl) rfl ?_
        refine st rfl rfl (eff_extract rfl rfl rfl) rfl ?_
        refine st rfl rfl (eff_extract rfl rfl rfl) rfl ?_
        refine st rfl rfl (eff_assigng rfl rfl) rfl ?_
        refine st rfl rfl (eff_assigng rfl rfl) rfl ?_
        refine st_nil ?_
        refine aw_seq ?_
        refine aw_seq ?_
        refine aw_region [.p, .p, .p, .p, .p, .p, .p, .p, .p, .p, .p, .p] ?_
        refine st rfl rfl (eff_moveg rfl rfl) rfl ?_
        refine st rfl rfl (eff_moveg rfl rfl) rfl ?_
        refine st rfl rfl (eff_addw rfl rfl rfl) rfl ?_
        refine st rfl rfl (eff_neq rfl rfl rfl) rfl ?_
        refine st rfl rfl (eff_moveg rfl rfl) rfl ?_
        refine st_g rfl rfl rfl (gb_bool _ _) (fun h => eff_moveg rfl rfl) rfl ?_
        refine st_g rfl rfl rfl (gb_bool _ _) (fun h => eff_not rfl (gd h rfl)) rfl ?_
        refine st rfl rfl (eff_or rfl rfl rfl rfl) rfl ?_
        refine st rfl rfl (eff_moveg rfl rfl) rfl ?_
        refine st_g rfl rfl rfl (gb_bool _ _) (fun h => eff_moveg rfl rfl) rfl ?_
        refine st_g rfl rfl rfl (gb_bool _ _) (fun h => eff_not rfl (gd h rfl)) rfl ?_
        refine st rfl rfl (eff_or rfl rfl rfl rfl) rfl ?_
        refine st_nil ?_
        refine aw_cond _ rfl (fun h4 => ?_) (fun h4 => ?_)
        · replace h4 : (((decide (IntKind.i64.wrap (((s33 a0 (S55.mk (IntKind.i64.wrap (a1.Flown + ((s34 a0 a1).1))) a1.Due)).2) + ((s33 a0 (S55.mk a1.Due a1.Due)).2)) ≠ 0)) || (!((s33 a0 (S55.mk (IntKind.i64.wrap (a1.Flown + ((s34 a0 a1).1))) a1.Due)).1))) || (!((s33 a0 (S55.mk a1.Due a1.Due)).1))) = true := h4
          replace hR := condT hR h4
          try simp only [Bool.or_eq_true, Bool.and_eq_true, Bool.or_eq_false_iff, Bool.and_eq_false_iff, Bool.not_eq_true', Bool.not_eq_false', decide_eq_true_eq, decide_eq_false_iff_not] at h4
          refine aw_seq ?_
          refine aw_region [.p] ?_
          refine st rfl rfl (eff_assigng rfl rfl) rfl ?_
          refine st_nil ?_
          refine aw_ret ?_
          subst hR
          exact res_c rfl (rv_g rfl)
        · replace h4 : (((decide (IntKind.i64.wrap (((s33 a0 (S55.mk (IntKind.i64.wrap (a1.Flown + ((s34 a0 a1).1))) a1.Due)).2) + ((s33 a0 (S55.mk a1.Due a1.Due)).2)) ≠ 0)) || (!((s33 a0 (S55.mk (IntKind.i64.wrap (a1.Flown + ((s34 a0 a1).1))) a1.Due)).1))) || (!((s33 a0 (S55.mk a1.Due a1.Due)).1))) = false := h4
          replace hR := condF hR h4
          try simp only [Bool.or_eq_true, Bool.and_eq_true, Bool.or_eq_false_iff, Bool.and_eq_false_iff, Bool.not_eq_true', Bool.not_eq_false', decide_eq_true_eq, decide_eq_false_iff_not] at h4
          refine aw_skip ?_
          refine aw_cut_g (γ := Unit) (fun g => ([(2, .g (G.ref [G.int a0.Before, G.int a0.After, G.int a0.Notice, G.int a0.Share, G.sl 1 (List.map cStr a0.Causes), G.int a0.Off, G.int a0.Run])), (3, .g (G.ref [G.int a1.Flown, G.int a1.Due])), (7, .g (G.bool ((s33 a0 a1).1)))], [])) (fun g => s7_j1 a0 a1 = R) ?_ ?_
          · refine aw_seq ?_
            refine aw_region [.p, .p] ?_
            refine st rfl rfl (eff_moveg rfl rfl) rfl ?_
            refine st rfl rfl (eff_gtr rfl rfl rfl) rfl ?_
            refine st_nil ?_
            refine aw_cond _ rfl (fun h5 => ?_) (fun h5 => ?_)
            · replace h5 : (decide (0 < (s34 a0 a1).1)) = true := h5
              replace hR := condT hR h5
              try simp only [Bool.or_eq_true, Bool.and_eq_true, Bool.or_eq_false_iff, Bool.and_eq_false_iff, Bool.not_eq_true', Bool.not_eq_false', decide_eq_true_eq, decide_eq_false_iff_not] at h5
              refine aw_seq ?_
              refine aw_region [.p, .p, .p, .p, .p, .p, .p, .p, .p, .p, .p, .p, .p, .p, .p] ?_
              refine st rfl rfl (eff_loadA rfl ty24 rfl rfl rfl) rfl ?_
              refine st rfl rfl (eff_fieldAddr rfl fl56_0 rfl) rfl ?_
              refine st rfl rfl (eff_load rfl ty3 rfl) rfl ?_
              refine st rfl rfl (eff_moveg rfl rfl) rfl ?_
              refine st rfl rfl (eff_addw rfl rfl rfl) rfl ?_
              refine st rfl rfl (eff_subw rfl rfl rfl) rfl ?_
              refine st rfl rfl (eff_fieldAddr rfl fl56_1 rfl) rfl ?_
              refine st rfl rfl (eff_load rfl ty3 rfl) rfl ?_
              refine st rfl rfl (eff_build rfl z56 rfl pl56 (pb_cons rfl (pb_cons rfl pb_nil)) rfl) rfl ?_
              refine st rfl rfl (eff_call rfl K33 rfl (c33 a0 (S55.mk (IntKind.i64.wrap ((IntKind.i64.wrap (a1.Flown + ((s34 a0 a1).1))) - 1)) a1.Due)) (ag_cons rfl (ag_cons rfl ag_nil))) rfl ?_
              refine st rfl rfl (eff_moveg rfl rfl) rfl ?_
              refine st rfl rfl (eff_extract rfl rfl rfl) rfl ?_
              refine st rfl rfl (eff_extract rfl rfl rfl) rfl ?_
              refine st rfl rfl (eff_assigng rfl rfl) rfl ?_
              refine st rfl rfl (eff_assigng rfl rfl) rfl ?_
              refine st_nil ?_
              refine aw_seq ?_
              refine aw_region [.p, .p, .p, .p, .p] ?_
              refine st rfl rfl (eff_moveg rfl rfl) rfl ?_
              refine st rfl rfl (eff_neq rfl rfl rfl) rfl ?_
              refine st rfl rfl (eff_moveg rfl rfl) rfl ?_
              refine st_g rfl rfl rfl (gb_bool _ _) (fun h => eff_moveg rfl rfl) rfl ?_
              refine st rfl rfl (eff_or rfl rfl rfl rfl) rfl ?_
              refine st_nil ?_
              refine aw_cond _ rfl (fun h6 => ?_) (fun h6 => ?_)
              · replace h6 : ((decide ((s33 a0 (S55.mk (IntKind.i64.wrap ((IntKind.i64.wrap (a1.Flown + ((s34 a0 a1).1))) - 1)) a1.Due)).2 ≠ 0)) || ((s33 a0 (S55.mk (IntKind.i64.wrap ((IntKind.i64.wrap (a1.Flown + ((s34 a0 a1).1))) - 1)) a1.Due)).1)) = true := h6
                replace hR := condT hR h6
                try simp only [Bool.or_eq_true, Bool.and_eq_true, Bool.or_eq_false_iff, Bool.and_eq_false_iff, Bool.not_eq_true', Bool.not_eq_false', decide_eq_true_eq, decide_eq_false_iff_not] at h6
                refine aw_seq ?_
                refine aw_region [.p] ?_
                refine st rfl rfl (eff_assigng rfl rfl) rfl ?_
                refine st_nil ?_
                refine aw_ret ?_
                subst hR
                exact res_c rfl (rv_g rfl)
              · replace h6 : ((decide ((s33 a0 (S55.mk (IntKind.i64.wrap ((IntKind.i64.wrap (a1.Flown + ((s34 a0 a1).1))) - 1)) a1.Due)).2 ≠ 0)) || ((s33 a0 (S55.mk (IntKind.i64.wrap ((IntKind.i64.wrap (a1.Flown + ((s34 a0 a1).1))) - 1)) a1.Due)).1)) = false := h6
                replace hR := condF hR h6
                try simp only [Bool.or_eq_true, Bool.and_eq_true, Bool.or_eq_false_iff, Bool.and_eq_false_iff, Bool.not_eq_true', Bool.not_eq_false', decide_eq_true_eq, decide_eq_false_iff_not] at h6
                refine aw_skip ?_
                exact ⟨rfl, (), ⟨rfl, rfl, rfl, trivial⟩, trivial, rfl, hR, trivial⟩
            · replace h5 : (decide (0 < (s34 a0 a1).1)) = false := h5
              replace hR := condF hR h5
              try simp only [Bool.or_eq_true, Bool.and_eq_true, Bool.or_eq_false_iff, Bool.and_eq_false_iff, Bool.not_eq_true', Bool.not_eq_false', decide_eq_true_eq, decide_eq_false_iff_not] at h5
              refine aw_skip ?_
              exact ⟨rfl, (), ⟨rfl, rfl, rfl, trivial⟩, trivial, rfl, hR, trivial⟩
          · rintro ⟨⟩ hR
            replace hR : s7_j1 a0 a1 = R := hR
            unfold s7_j1 at hR
            refine aw_seq ?_
            refine aw_region [.p, .w, .w] ?_
            refine st rfl rfl (eff_loadA rfl ty24 rfl rfl rfl) rfl ?_
            refine st_w rfl rfl (eff_alloc 15 rfl z24 rfl rfl) rfl ?_
            refine st_wn rfl rfl (eff_store (tv := .g (G.agg [G.int a0.Before, G.int a0.After, G.int a0.Notice, G.int a0.Share, G.sl 1 (List.map cStr a0.Causes), G.int a0.Off, G.int a0.Run])) rfl ty24 rfl rfl rfl rfl rfl) ?_
            refine st_nil ?_
            refine aw_seq ?_
            refine aw_region [.p, .w] ?_
            refine st rfl rfl (eff_fieldO rfl fl24_3 rfl) rfl ?_
            refine st_wn rfl rfl (eff_store (tv := .g (G.int 100)) rfl ty3 rfl rfl rfl rfl rfl) ?_
            refine st_nil ?_
            refine aw_seq ?_
            refine aw_region [.r, .p, .p, .p, .p, .p, .p, .p] ?_
            refine st_r rfl rfl (eff_loadOA rfl ty24 rfl rfl rfl rfl) rfl ?_
            refine st rfl rfl (eff_loadA rfl ty56 rfl rfl rfl) rfl ?_
            refine st rfl rfl (eff_call rfl K33 rfl (c33 (S23.mk a0.Before a0.After a0.Notice 100 a0.Causes a0.Off a0.Run) a1) (ag_cons rfl (ag_cons rfl ag_nil))) rfl ?_
            refine st rfl rfl (eff_moveg rfl rfl) rfl ?_
            refine st rfl rfl (eff_extract rfl rfl rfl) rfl ?_
            refine st rfl rfl (eff_extract rfl rfl rfl) rfl ?_
            refine st rfl rfl (eff_assigng rfl rfl) rfl ?_
            refine st rfl rfl (eff_assigng rfl rfl) rfl ?_
            refine st_nil ?_
            refine aw_seq ?_
            refine aw_region [.p, .p, .p, .p, .p, .p, .p, .p, .p, .p, .p, .p, .p, .p, .p, .p, .p, .p, .p] ?_
            refine st rfl rfl (eff_moveg rfl rfl) rfl ?_
            refine st rfl rfl (eff_eql rfl rfl rfl) rfl ?_
            refine st rfl rfl (eff_moveg rfl rfl) rfl ?_
            refine st_g rfl rfl rfl (gb_bool _ _) (fun h => eff_moveg rfl rfl) rfl ?_
            refine st_g rfl rfl rfl (gb_bool _ _) (fun h => eff_fieldAddr rfl fl56_0 rfl) rfl ?_
            refine st_g rfl rfl rfl (gb_bool _ _) (fun h => eff_load rfl ty3 (gd h rfl)) rfl ?_
            refine st_g rfl rfl rfl (gb_bool _ _) (fun h => eff_fieldAddr rfl fl56_1 rfl) rfl ?_
            refine st_g rfl rfl rfl (gb_bool _ _) (fun h => eff_load rfl ty3 (gd h rfl)) rfl ?_
            refine st_g rfl rfl rfl (gb_bool _ _) (fun h => eff_eql rfl (gd h rfl) (gd h rfl)) rfl ?_
            refine st_g rfl rfl rfl (gb_bool _ _) (fun h => eff_beql rfl Tryz.underlying4 (gd h rfl) (gd h rfl)) rfl ?_
            refine st rfl rfl (eff_and rfl rfl rfl rfl) rfl ?_
            refine st rfl rfl (eff_moveg rfl rfl) rfl ?_
            refine st_g rfl rfl rfl (gb_bool _ _) (fun h => eff_moveg rfl rfl) rfl ?_
            refine st_g rfl rfl rfl (gb_bool _ _) (fun h => eff_not rfl (gd h rfl)) rfl ?_
            refine st_g rfl rfl rfl (gb_bool _ _) (fun h => eff_moveg rfl (gd h rfl)) rfl ?_
            refine st_g rfl rfl rfl (gb_if _ _ _) (fun h => eff_moveg rfl rfl) rfl ?_
            refine st_g rfl rfl rfl (gb_bool _ _) (fun h => eff_or rfl (gd h rfl) rfl (gd2 h rfl)) rfl ?_
            refine st rfl rfl (eff_and rfl rfl rfl rfl) rfl ?_
            refine st rfl rfl (eff_assigng rfl rfl) rfl ?_
            refine st_nil ?_
            refine aw_ret ?_
            subst hR
            exact res_c rfl (rv_g rfl)
end Go.Sim

namespace Go.Sim
/-- what Kept answers at a rule and a ratio that are right -/
def keepB (s f d : Int) : Bool := decide (0 < d) && decide (s * d ≤ 100 * f)
/-- what Missing answers -/
def missI (s f d : Int) : Int := max 0 ((s * d + 99) / 100 - f)
theorem rat_of {f d : Int} (hf : 0 ≤ f) (hd : f ≤ d) (h : d ≤ 512) : s36 ⟨f, d⟩ = 0 := by
  have e1 : s90 f 0 512 = 0 := by unfold s90; simp [show ¬ f < 0 by omega, show ¬ 512 < f by omega]
  have e2 : s90 d 0 512 = 0 := by unfold s90; simp [show ¬ d < 0 by omega, show ¬ 512 < d by omega]
  unfold s36 s36_j1
  simp [e1, e2, s89_cons, s89_nil, show ¬ d < f by omega]
theorem firstTwo {a b : Int} (ha : a = 0) (hb : b = 0) : s35 [a, b] = 0 := by
  subst ha; subst hb; rfl
theorem s33_val (a0 : S23) {f d : Int} (hr : s24 (s18 a0) = 0) (hf : 0 ≤ f) (hd : f ≤ d) (h : d ≤ 512) : s33 a0 ⟨f, d⟩ = (keepB a0.Share f d, 0) := by
  obtain ⟨h1, h2⟩ := rule_ok _ hr
  have h1 : 1 ≤ a0.Share := h1
  have h2 : a0.Share ≤ 100 := h2
  unfold s33
  rw [ratio_eq, firstTwo hr (rat_of hf hd h)]
  simp only [ne_eq, not_true_eq_false, decide_false, cond_false, s106, keepB]
  rw [share_wrap (by omega) h2 (by omega) h, wrap_i64 (by unfold I64; omega)]
theorem s34_val (a0 : S23) {f d : Int} (hr : s24 (s18 a0) = 0) (hf : 0 ≤ f) (hd : f ≤ d) (h : d ≤ 512) : s34 a0 ⟨f, d⟩ = (missI a0.Share f d, 0) := by
  obtain ⟨h1, h2⟩ := rule_ok _ hr
  have h1 : 1 ≤ a0.Share := h1
  have h2 : a0.Share ≤ 100 := h2
  unfold s34
  rw [ratio_eq, firstTwo hr (rat_of hf hd h)]
  simp only [ne_eq, not_true_eq_false, decide_false, cond_false, missI]
  obtain ⟨b1, b2⟩ := share_bound (s := a0.Share) (d := d) (by omega) h2 (by omega) h
  rw [share_wrap (by omega) h2 (by omega) h]
  generalize a0.Share * d = q at *
  rw [wrap_i64 (n := q + 99) (by unfold I64; omega), Int.tdiv_eq_ediv_of_nonneg (by omega), wrap_i64 (n := (q + 99) / 100) (by unfold I64; omega), wrap_i64 (n := (q + 99) / 100 - f) (by unfold I64; omega)]
theorem strict_ok (a0 : S23) (h : s24 (s18 a0) = 0) : s24 (s18 (S23.mk a0.Before a0.After a0.Notice 100 a0.Causes a0.Off a0.Run)) = 0 := by
  obtain ⟨h1, h2⟩ := rule_ok _ h
  have h1 : 1 ≤ a0.Share := h1
  have h2 : a0.Share ≤ 100 := h2
  have e : s90 a0.Share 1 100 = s90 100 1 100 := by
    unfold s90; simp [show ¬ a0.Share < 1 by omega, show ¬ 100 < a0.Share by omega]
  have e2 : ∀ l k, s24_l1 (s18 (S23.mk a0.Before a0.After a0.Notice 100 a0.Causes a0.Off a0.Run)) l k = s24_l1 (s18 a0) l k := by
    intro l
    induction l with
    | nil => intro k; rfl
    | cons y l ih => intro k; rw [s24_l1, s24_l1, ih]; rfl
  rw [← h]
  unfold s24
  rw [e2]
  show (bif decide (s89 [s90 a0.Before 0 720, s90 a0.After 0 720, s90 a0.Notice 0 365, s90 100 1 100] ≠ 0) then s89 [s90 a0.Before 0 720, s90 a0.After 0 720, s90 a0.Notice 0 365, s90 100 1 100] else _) = (bif decide (s89 [s90 a0.Before 0 720, s90 a0.After 0 720, s90 a0.Notice 0 365, s90 a0.Share 1 100] ≠ 0) then s89 [s90 a0.Before 0 720, s90 a0.After 0 720, s90 a0.Notice 0 365, s90 a0.Share 1 100] else _)
  rw [e]; rfl
theorem s36_ok {x : S55} (h : s36 x = 0) : 0 ≤ x.Flown ∧ x.Flown ≤ x.Due ∧ x.Due ≤ 512 := by
  unfold s36 s36_j1 at h
  by_cases h4 : s89 [(s90 x.Flown 0 512), (s90 x.Due 0 512)] = 0
  · have h5 := s90_zero (s89_zero h4 (s90 x.Flown 0 512) (by simp))
    have h6 := s90_zero (s89_zero h4 (s90 x.Due 0 512) (by simp))
    by_cases h7 : x.Due < x.Flown
    · rw [h4, decide_eq_true h7] at h; simp at h
    · omega
  · rw [decide_eq_false h4] at h
    exact absurd h h4
/-- UseShares' own words hold at every rule and every ratio -/
theorem s7_true (a0 : S23) (a1 : S55) : s7 a0 a1 = true := by
  unfold s7
  rw [s16_eq]
  by_cases hr : s24 (s18 a0) = 0
  · by_cases hx : s36 a1 = 0
    · obtain ⟨f0, f1, f2⟩ := s36_ok hx
      obtain ⟨f, d⟩ := a1
      have f0 : 0 ≤ f := f0
      have f1 : f ≤ d := f1
      have f2 : d ≤ 512 := f2
      obtain ⟨h1, h2⟩ := rule_ok _ hr
      have h1 : 1 ≤ a0.Share := h1
      have h2 : a0.Share ≤ 100 := h2
      obtain ⟨b1, b2⟩ := share_bound (s := a0.Share) (d := d) (by omega) h2 (by omega) f2
      rw [firstTwo hr hx]
      have hq : a0.Share * d ≤ 100 * d := Int.mul_le_mul_of_nonneg_right h2 (by omega)
      have hq2 : 0 < d → 0 < a0.Share * d := fun h => Int.mul_pos (by omega) h
      rw [s34_val a0 hr f0 f1 f2, s33_val a0 hr f0 f1 f2]
      dsimp only
      generalize hn : missI a0.Share f d = n
      have hn' := hn
      unfold missI at hn'
      have n1 : 0 ≤ n := by omega
      have n2 : n ≤ d - f := by generalize a0.Share * d = q at *; omega
      rw [wrap_i64 (n := d - f) (by unfold I64; omega), wrap_i64 (n := f + n) (by unfold I64; omega), wrap_i64 (n := f + n - 1) (by unfold I64; omega)]
      rw [s33_val a0 hr (f := f + n) (by omega) (by omega) f2, s33_val a0 hr (f := d) (by omega) (by omega) f2]
      have hj : s7_j1 a0 ⟨f, d⟩ = true ∨ d = 0 := by
        by_cases hd : d = 0
        · exact .inr hd
        · left
          unfold s7_j1
          rw [s33_val _ (strict_ok a0 hr) f0 f1 f2, s33_val a0 hr f0 f1 f2]
          have e : keepB 100 f d = decide (f = d) := by
            unfold keepB
            by_cases h : f = d
            · subst h; simp; omega
            · simp [h]; omega
          dsimp only
          rw [e]
          by_cases h : f = d
          · subst h
            have : keepB a0.Share f f = true := by unfold keepB; simp; omega
            simp [this]
          · simp [h]
      have k2 : 0 < n → s33 a0 ⟨f + n - 1, d⟩ = (keepB a0.Share (f + n - 1) d, 0) := fun h => s33_val a0 hr (by omega) (by omega) f2
      unfold keepB at *
      generalize a0.Share * d = q at *
      by_cases hd : d = 0
      · subst hd
        have : q = 0 := by omega
        have : n = 0 := by omega
        subst this
        have w0 : IntKind.i64.wrap 0 = 0 := by decide
        have e0 : f = 0 := by omega
        subst e0
        simp [w0]
      · have hj := hj.resolve_right hd
        rw [hj]
        by_cases hn0 : 0 < n
        · rw [k2 hn0]
          simp only [hn0, decide_true, cond_true]
          have w0 : IntKind.i64.wrap 0 = 0 := by decide
          have c1 : ¬ n < 0 := by omega
          have c2 : ¬ d - f < n := by omega
          have c3 : 0 < d := by omega
          have c4 : ¬ q ≤ 100 * f := by omega
          have c5 : q ≤ 100 * (f + n) := by omega
          have c6 : q ≤ 100 * d := by omega
          have c7 : ¬ q ≤ 100 * (f + n - 1) := by omega
          have c8 : ¬ n = 0 := by omega
          simp [w0, c1, c2, c3, c4, c5, c6, c7, c8, hd]
        · have : n = 0 := by omega
          subst this
          have w0 : IntKind.i64.wrap 0 = 0 := by decide
          have c2 : ¬ d - f < 0 := by omega
          have c3 : 0 < d := by omega
          have c4 : q ≤ 100 * f := by omega
          have c6 : q ≤ 100 * d := by omega
          simp [w0, c2, c3, c4, c6, hd]
    · have : s35 [(s24 (s18 a0)), (s36 a1)] ≠ 0 := fun h => hx (s89_zero h _ (by simp))
      rw [decide_eq_true this]; simp
  · have : s35 [(s24 (s18 a0)), (s36 a1)] ≠ 0 := fun h => hr (s89_zero h _ (by simp))
    rw [decide_eq_true this]; simp
end Go.Sim

