/-
  What is proved: the walk of UseRatios, and its law.
-/
import Derived.Test.YtdfgeoefbbkcnaaGreatDoorVsC1
import Derived.Test.YtdfgeoefbbkcnaaGreatDoorVaA9
set_option linter.unusedSectionVars false
set_option linter.unusedSimpArgs false
set_option linter.unusedVariables false
set_option linter.unnecessarySimpa false
set_option linter.deprecated false
namespace Go.Sim
theorem eff_beql {E : Env} {o : Oper} {ev : Operand → TV} {t t' : TypeId} {x y : Operand} {a b : Bool} (ho : o.op = .binOp .eql t x y t') (hu : E.P.underlying t = some .bool) (hx : ev x = .g (.lit (.bool a))) (hy : ev y = .g (.lit (.bool b))) (mem : Mem) : Eff E o mem ev (.g (.bool (a == b))) :=
  eff_bin ho hx hy (fun w => ⟨.bool (a == b), by
    have h : (Op.equal t (.bool a) (.bool b)).run E.P w = .ok (a == b) w := run_equalIn_bool' w _ t a b hu
    simp [eqGuard, binOp, h], fun _ => rfl⟩) mem
theorem share_bound {s d : Int} (h0 : 0 ≤ s) (h1 : s ≤ 100) (h2 : 0 ≤ d) (h3 : d ≤ 512) : 0 ≤ s * d ∧ s * d ≤ 51200 := by
  refine ⟨Int.mul_nonneg h0 h2, ?_⟩
  have := Int.mul_le_mul h1 h3 h2 (by decide : (0 : Int) ≤ 100)
  omega
theorem share_wrap {s d : Int} (h0 : 0 ≤ s) (h1 : s ≤ 100) (h2 : 0 ≤ d) (h3 : d ≤ 512) : IntKind.i64.wrap (s * d) = s * d := by
  obtain ⟨a, b⟩ := share_bound h0 h1 h2 h3
  exact wrap_i64 (by unfold I64; omega)
end Go.Sim

set_option linter.unusedSimpArgs false
set_option linter.unusedVariables false
set_option maxRecDepth 10000
namespace Go.Sim
open Go.Proofs
structure S55 where
  Flown : Int
  Due : Int
  deriving DecidableEq, Inhabited
abbrev S55.c (x : S55) : List G := [G.int x.Flown, G.int x.Due]

theorem K105 : Known Tryz.prog 105 := ⟨_, Tryz.func105, by kernel_rfl, by kernel_rfl⟩
theorem K106 : Known Tryz.prog 106 := ⟨_, Tryz.func106, by kernel_rfl, by kernel_rfl⟩
theorem fl56_0 : fieldK Tryz.prog 56 0 = some (0, 1, false) := by kernel_rfl
theorem fl56_1 : fieldK Tryz.prog 56 1 = some (1, 1, false) := by kernel_rfl
theorem fl63_0 : fieldK Tryz.prog 63 0 = some (0, 1, false) := by kernel_rfl
theorem fl63_1 : fieldK Tryz.prog 63 1 = some (1, 1, false) := by kernel_rfl
theorem ty56 : tyK Tryz.prog 56 = some (2, true) := by kernel_rfl
/-- turnroundlaw09.first -/
def s35 (a0 : List Int) : Int :=
  (s89 a0)
theorem c35 {g : List (Nat × List Value)} (a0 : List Int)    : Con (EG g) 35 [G.sl 1 (List.map cInt a0)] (G.int (s35 a0)) := by
  generalize hR : s35 a0 = R
  unfold s35 at hR
  refine con_of_aw Tryz.func35 rfl rfl fun w0 M0 => ?_
  refine len_sl (f := cInt) (l := a0) 0 rfl fun hla0 => ?_
  refine aw_seq ?_
  refine aw_region [.p] ?_
  refine st rfl rfl (eff_assigng rfl rfl) rfl ?_
  refine st_nil ?_
  refine aw_seq ?_
  refine aw_region [.p, .p, .p] ?_
  refine st rfl rfl (eff_moveg rfl rfl) rfl ?_
  refine st rfl rfl (eff_call rfl K89 rfl (c89 a0) (ag_cons rfl ag_nil)) rfl ?_
  refine st rfl rfl (eff_assigng rfl rfl) rfl ?_
  refine st_nil ?_
  refine aw_ret ?_
  subst hR
  exact res_c rfl (rv_g rfl)

/-- turnroundref09.CheckRatio -/
def s36_j1  (x1 : Int) : Int :=
  x1
def s36 (a0 : S55) : Int :=
  (bif (decide ((s89 [(s90 a0.Flown 0 512), (s90 a0.Due 0 512)]) = 0)) && (decide (a0.Due < a0.Flown)) then s36_j1 11 else s36_j1 (s89 [(s90 a0.Flown 0 512), (s90 a0.Due 0 512)]))
theorem c36 {g : List (Nat × List Value)} (a0 : S55)    : Con (EG g) 36 [G.agg [G.int a0.Flown, G.int a0.Due]] (G.int (s36 a0)) := by
  generalize hR : s36 a0 = R
  unfold s36 at hR
  refine con_of_aw Tryz.func36 rfl rfl fun w0 M0 => ?_
  refine aw_seq ?_
  refine aw_region [.p, .p] ?_
  refine st rfl rfl (eff_box rfl rfl) rfl ?_
  refine st rfl rfl (eff_assigng rfl rfl) rfl ?_
  refine st_nil ?_
  refine aw_seq ?_
  refine aw_draw [.p, .p, .p, .p, .p, .p, .p, .p, .p] (by kernel_rfl) ?_
  refine st rfl rfl (eff_fieldAddr rfl fl63_0 rfl) rfl ?_
  refine st rfl rfl (eff_load rfl ty3 rfl) rfl ?_
  refine st rfl rfl (eff_call rfl K90 rfl (c90 a0.Flown 0 512) (ag_cons rfl (ag_cons rfl (ag_cons rfl ag_nil)))) rfl ?_
  refine st rfl rfl (eff_fieldAddr rfl fl63_1 rfl) rfl ?_
  refine st rfl rfl (eff_load rfl ty3 rfl) rfl ?_
  refine st rfl rfl (eff_call rfl K90 rfl (c90 a0.Due 0 512) (ag_cons rfl (ag_cons rfl (ag_cons rfl ag_nil)))) rfl ?_
  refine st rfl rfl (eff_buildSlice rfl Tryz.underlying82 ty3 z3 rfl (ps_cons rfl (ps_cons rfl ps_nil)) rfl (by simp [S23.c, S151.c, S104.c, S45.c, S47.c, S55.c]) (by decide)) rfl ?_
  refine st rfl rfl (eff_call rfl K89 rfl (c89 [(s90 a0.Flown 0 512), (s90 a0.Due 0 512)]) (ag_cons rfl ag_nil)) rfl ?_
  refine st rfl rfl (eff_assigng rfl rfl) rfl ?_
  refine st_nil ?_
  refine aw_cut_g (γ := Int) (fun g => ([(3, .g (G.int g))], [])) (fun g => s36_j1 g = R) ?_ ?_
  · refine aw_seq ?_
    refine aw_region [.p, .p, .p, .p, .p, .p, .p, .p, .p] ?_
    refine st rfl rfl (eff_moveg rfl rfl) rfl ?_
    refine st rfl rfl (eff_eql rfl rfl rfl) rfl ?_
    refine st rfl rfl (eff_moveg rfl rfl) rfl ?_
    refine st_g rfl rfl rfl (gb_bool _ _) (fun h => eff_fieldAddr rfl fl63_0 rfl) rfl ?_
    refine st_g rfl rfl rfl (gb_bool _ _) (fun h => eff_load rfl ty3 (gd h rfl)) rfl ?_
    refine st_g rfl rfl rfl (gb_bool _ _) (fun h => eff_fieldAddr rfl fl63_1 rfl) rfl ?_
    refine st_g rfl rfl rfl (gb_bool _ _) (fun h => eff_load rfl ty3 (gd h rfl)) rfl ?_
    refine st_g rfl rfl rfl (gb_bool _ _) (fun h => eff_gtr rfl (gd h rfl) (gd h rfl)) rfl ?_
    refine st rfl rfl (eff_and rfl rfl rfl rfl) rfl ?_
    refine st_nil ?_
    refine aw_cond _ rfl (fun h1 => ?_) (fun h1 => ?_)
    · replace h1 : ((decide ((s89 [(s90 a0.Flown 0 512), (s90 a0.Due 0 512)]) = 0)) && (decide (a0.Due < a0.Flown))) = true := h1
      replace hR := condT hR h1
      try simp only [Bool.or_eq_true, Bool.and_eq_true, Bool.or_eq_false_iff, Bool.and_eq_false_iff, Bool.not_eq_true', Bool.not_eq_false', decide_eq_true_eq, decide_eq_false_iff_not] at h1
      refine aw_region [.p] ?_
      refine st rfl rfl (eff_assigng rfl rfl) rfl ?_
      refine st_nil ?_
      exact ⟨rfl, 11, ⟨rfl, trivial⟩, trivial, rfl, hR, trivial⟩
    · replace h1 : ((decide ((s89 [(s90 a0.Flown 0 512), (s90 a0.Due 0 512)]) = 0)) && (decide (a0.Due < a0.Flown))) = false := h1
      replace hR := condF hR h1
      try simp only [Bool.or_eq_true, Bool.and_eq_true, Bool.or_eq_false_iff, Bool.and_eq_false_iff, Bool.not_eq_true', Bool.not_eq_false', decide_eq_true_eq, decide_eq_false_iff_not] at h1
      refine aw_skip ?_
      exact ⟨rfl, (s89 [(s90 a0.Flown 0 512), (s90 a0.Due 0 512)]), ⟨rfl, trivial⟩, trivial, rfl, hR, trivial⟩
  · rintro x1 hR
    replace hR : s36_j1 x1 = R := hR
    unfold s36_j1 at hR
    refine aw_seq ?_
    refine aw_region [.p, .p] ?_
    refine st rfl rfl (eff_moveg rfl rfl) rfl ?_
    refine st rfl rfl (eff_assigng rfl rfl) rfl ?_
    refine st_nil ?_
    refine aw_ret ?_
    subst hR
    exact res_c rfl (rv_g rfl)

/-- use.checkRatio -/
def s105 (a0 : S23) (a1 : S55) : Int :=
  (s84 [(s23 a0), (s85 a1.Flown 0 512), (s85 a1.Due 0 512), (s86 (decide (a1.Due < a1.Flown)) 11)])
theorem c105 {g : List (Nat × List Value)} (a0 : S23) (a1 : S55)    : Con (EG g) 105 [G.agg [G.int a0.Before, G.int a0.After, G.int a0.Notice, G.int a0.Share, G.sl 1 (List.map cStr a0.Causes), G.int a0.Off, G.int a0.Run], G.agg [G.int a1.Flown, G.int a1.Due]] (G.int (s105 a0 a1)) := by
  generalize hR : s105 a0 a1 = R
  unfold s105 at hR
  refine con_of_aw Tryz.func105 rfl rfl fun w0 M0 => ?_
  refine aw_seq ?_
  refine aw_region [.p, .p, .p] ?_
  refine st rfl rfl (eff_box rfl rfl) rfl ?_
  refine st rfl rfl (eff_box rfl rfl) rfl ?_
  refine st rfl rfl (eff_assigng rfl rfl) rfl ?_
  refine st_nil ?_
  refine aw_seq ?_
  refine aw_draw [.p, .p, .p, .p, .p, .p, .p, .p, .p, .p, .p, .p, .p, .p, .p, .p, .p] (by kernel_rfl) ?_
  refine st rfl rfl (eff_loadA rfl ty24 rfl rfl rfl) rfl ?_
  refine st rfl rfl (eff_call rfl K23 rfl (c23 a0) (ag_cons rfl ag_nil)) rfl ?_
  refine st rfl rfl (eff_fieldAddr rfl fl56_0 rfl) rfl ?_
  refine st rfl rfl (eff_load rfl ty3 rfl) rfl ?_
  refine st rfl rfl (eff_call rfl K85 rfl (c85 a1.Flown 0 512) (ag_cons rfl (ag_cons rfl (ag_cons rfl ag_nil)))) rfl ?_
  refine st rfl rfl (eff_fieldAddr rfl fl56_1 rfl) rfl ?_
  refine st rfl rfl (eff_load rfl ty3 rfl) rfl ?_
  refine st rfl rfl (eff_call rfl K85 rfl (c85 a1.Due 0 512) (ag_cons rfl (ag_cons rfl (ag_cons rfl ag_nil)))) rfl ?_
  refine st rfl rfl (eff_fieldAddr rfl fl56_0 rfl) rfl ?_
  refine st rfl rfl (eff_load rfl ty3 rfl) rfl ?_
  refine st rfl rfl (eff_fieldAddr rfl fl56_1 rfl) rfl ?_
  refine st rfl rfl (eff_load rfl ty3 rfl) rfl ?_
  refine st rfl rfl (eff_gtr rfl rfl rfl) rfl ?_
  refine st rfl rfl (eff_call rfl K86 rfl (c86 (decide (a1.Due < a1.Flown)) 11) (ag_cons rfl (ag_cons rfl ag_nil))) rfl ?_
  refine st rfl rfl (eff_buildSlice rfl Tryz.underlying170 ty37 z37 rfl (ps_cons rfl (ps_cons rfl (ps_cons rfl (ps_cons rfl ps_nil)))) rfl (by simp [S23.c, S151.c, S104.c, S45.c, S47.c, S55.c]) (by decide)) rfl ?_
  refine st rfl rfl (eff_call rfl K84 rfl (c84 [(s23 a0), (s85 a1.Flown 0 512), (s85 a1.Due 0 512), (s86 (decide (a1.Due < a1.Flown)) 11)]) (ag_cons rfl ag_nil)) rfl ?_
  refine st rfl rfl (eff_assigng rfl rfl) rfl ?_
  refine st_nil ?_
  refine aw_ret ?_
  subst hR
  exact res_c rfl (rv_g rfl)

/-- (use.Rule).keeps -/
def s106 (a0 : S23) (a1 : S55) : Bool :=
  (decide (0 < a1.Due)) && (decide (IntKind.i64.wrap (a0.Share * a1.Due) ≤ IntKind.i64.wrap (100 * a1.Flown)))
theorem c106 {g : List (Nat × List Value)} (a0 : S23) (a1 : S55)    : Con (EG g) 106 [G.agg [G.int a0.Before, G.int a0.After, G.int a0.Notice, G.int a0.Share, G.sl 1 (List.map cStr a0.Causes), G.int a0.Off, G.int a0.Run], G.agg [G.int a1.Flown, G.int a1.Due]] (G.bool (s106 a0 a1)) := by
  generalize hR : s106 a0 a1 = R
  unfold s106 at hR
  refine con_of_aw Tryz.func106 rfl rfl fun w0 M0 => ?_
  refine aw_seq ?_
  refine aw_region [.p, .p, .p] ?_
  refine st rfl rfl (eff_box rfl rfl) rfl ?_
  refine st rfl rfl (eff_box rfl rfl) rfl ?_
  refine st rfl rfl (eff_assigng rfl rfl) rfl ?_
  refine st_nil ?_
  refine aw_seq ?_
  refine aw_region [.p, .p, .p, .p, .p, .p, .p, .p, .p, .p, .p, .p, .p, .p, .p] ?_
  refine st rfl rfl (eff_fieldAddr rfl fl56_1 rfl) rfl ?_
  refine st rfl rfl (eff_load rfl ty3 rfl) rfl ?_
  refine st rfl rfl (eff_gtr rfl rfl rfl) rfl ?_
  refine st rfl rfl (eff_moveg rfl rfl) rfl ?_
  refine st_g rfl rfl rfl (gb_bool _ _) (fun h => eff_fieldAddr rfl fl56_0 rfl) rfl ?_
  refine st_g rfl rfl rfl (gb_bool _ _) (fun h => eff_load rfl ty3 (gd h rfl)) rfl ?_
  refine st_g rfl rfl rfl (gb_bool _ _) (fun h => eff_mulw rfl rfl (gd h rfl)) rfl ?_
  refine st_g rfl rfl rfl (gb_bool _ _) (fun h => eff_fieldAddr rfl fl24_3 rfl) rfl ?_
  refine st_g rfl rfl rfl (gb_bool _ _) (fun h => eff_load rfl ty3 (gd h rfl)) rfl ?_
  refine st_g rfl rfl rfl (gb_bool _ _) (fun h => eff_fieldAddr rfl fl56_1 rfl) rfl ?_
  refine st_g rfl rfl rfl (gb_bool _ _) (fun h => eff_load rfl ty3 (gd h rfl)) rfl ?_
  refine st_g rfl rfl rfl (gb_bool _ _) (fun h => eff_mulw rfl (gd h rfl) (gd h rfl)) rfl ?_
  refine st_g rfl rfl rfl (gb_bool _ _) (fun h => eff_geq rfl (gd h rfl) (gd h rfl)) rfl ?_
  refine st rfl rfl (eff_and rfl rfl rfl rfl) rfl ?_
  refine st rfl rfl (eff_assigng rfl rfl) rfl ?_
  refine st_nil ?_
  refine aw_ret ?_
  subst hR
  exact res_c rfl (rv_g rfl)

/-- use.Kept -/
def s33 (a0 : S23) (a1 : S55) : Bool × Int :=
  (bif decide ((s105 a0 a1) ≠ 0) then (false, (s105 a0 a1)) else ((s106 a0 a1), 0))
theorem c33 {g : List (Nat × List Value)} (a0 : S23) (a1 : S55)    : Con (EG g) 33 [G.agg [G.int a0.Before, G.int a0.After, G.int a0.Notice, G.int a0.Share, G.sl 1 (List.map cStr a0.Causes), G.int a0.Off, G.int a0.Run], G.agg [G.int a1.Flown, G.int a1.Due]] (G.tup [G.bool ((s33 a0 a1).1), G.int ((s33 a0 a1).2)]) := by
  generalize hR : s33 a0 a1 = R
  unfold s33 at hR
  refine con_of_aw Tryz.func33 rfl rfl fun w0 M0 => ?_
  refine aw_seq ?_
  refine aw_region [.p, .p, .p, .p] ?_
  refine st rfl rfl (eff_box rfl rfl) rfl ?_
  refine st rfl rfl (eff_box rfl rfl) rfl ?_
  refine st rfl rfl (eff_assigng rfl rfl) rfl ?_
  refine st rfl rfl (eff_assigng rfl rfl) rfl ?_
  refine st_nil ?_
  refine aw_seq ?_
  refine aw_seq ?_
  refine aw_region [.p, .p, .p, .p] ?_
  refine st rfl rfl (eff_loadA rfl ty24 rfl rfl rfl) rfl ?_
  refine st rfl rfl (eff_loadA rfl ty56 rfl rfl rfl) rfl ?_
  refine st rfl rfl (eff_call rfl K105 rfl (c105 a0 a1) (ag_cons rfl (ag_cons rfl ag_nil))) rfl ?_
  refine st rfl rfl (eff_assigng rfl rfl) rfl ?_
  refine st_nil ?_
  refine aw_seq ?_
  refine aw_region [.p, .p] ?_
  refine st rfl rfl (eff_moveg rfl rfl) rfl ?_
  refine st rfl rfl (eff_neq rfl rfl rfl) rfl ?_
  refine st_nil ?_
  refine aw_cond _ rfl (fun h1 => ?_) (fun h1 => ?_)
  · replace h1 : (decide ((s105 a0 a1) ≠ 0)) = true := h1
    replace hR := condT hR h1
    try simp only [Bool.or_eq_true, Bool.and_eq_true, Bool.or_eq_false_iff, Bool.and_eq_false_iff, Bool.not_eq_true', Bool.not_eq_false', decide_eq_true_eq, decide_eq_false_iff_not] at h1
    refine aw_seq ?_
    refine aw_region [.p, .p, .p] ?_
    refine st rfl rfl (eff_moveg rfl rfl) rfl ?_
    refine st rfl rfl (eff_assigng rfl rfl) rfl ?_
    refine st rfl rfl (eff_assigng rfl rfl) rfl ?_
    refine st_nil ?_
    refine aw_ret ?_
    subst hR
    exact resN rfl ⟨rv_g rfl, rv_g rfl, trivial⟩ (by simp)
  · replace h1 : (decide ((s105 a0 a1) ≠ 0)) = false := h1
    replace hR := condF hR h1
    try simp only [Bool.or_eq_true, Bool.and_eq_true, Bool.or_eq_false_iff, Bool.and_eq_false_iff, Bool.not_eq_true', Bool.not_eq_false', decide_eq_true_eq, decide_eq_false_iff_not] at h1
    refine aw_skip ?_
    refine aw_seq ?_
    refine aw_region [.p, .p, .p, .p, .p] ?_
    refine st rfl rfl (eff_loadA rfl ty24 rfl rfl rfl) rfl ?_
    refine st rfl rfl (eff_loadA rfl ty56 rfl rfl rfl) rfl ?_
    refine st rfl rfl (eff_call rfl K106 rfl (c106 a0 a1) (ag_cons rfl (ag_cons rfl ag_nil))) rfl ?_
    refine st rfl rfl (eff_assigng rfl rfl) rfl ?_
    refine st rfl rfl (eff_assigng rfl rfl) rfl ?_
    refine st_nil ?_
    refine aw_ret ?_
    subst hR
    exact resN rfl ⟨rv_g rfl, rv_g rfl, trivial⟩ (by simp)

/-- use.Missing -/
def s34 (a0 : S23) (a1 : S55) : Int × Int :=
  (bif decide ((s105 a0 a1) ≠ 0) then (0, (s105 a0 a1)) else (max 0 (IntKind.i64.wrap ((IntKind.i64.wrap (Int.tdiv (IntKind.i64.wrap ((IntKind.i64.wrap (a0.Share * a1.Due)) + 99)) 100)) - a1.Flown)), 0))
theorem c34 {g : List (Nat × List Value)} (a0 : S23) (a1 : S55)    : Con (EG g) 34 [G.agg [G.int a0.Before, G.int a0.After, G.int a0.Notice, G.int a0.Share, G.sl 1 (List.map cStr a0.Causes), G.int a0.Off, G.int a0.Run], G.agg [G.int a1.Flown, G.int a1.Due]] (G.tup [G.int ((s34 a0 a1).1), G.int ((s34 a0 a1).2)]) := by
  generalize hR : s34 a0 a1 = R
  unfold s34 at hR
  refine con_of_aw Tryz.func34 rfl rfl fun w0 M0 => ?_
  refine aw_seq ?_
  refine aw_region [.p, .p, .p, .p] ?_
  refine st rfl rfl (eff_box rfl rfl) rfl ?_
  refine st rfl rfl (eff_box rfl rfl) rfl ?_
  refine st rfl rfl (eff_assigng rfl rfl) rfl ?_
  refine st rfl rfl (eff_assigng rfl rfl) rfl ?_
  refine st_nil ?_
  refine aw_seq ?_
  refine aw_seq ?_
  refine aw_region [.p, .p, .p, .p] ?_
  refine st rfl rfl (eff_loadA rfl ty24 rfl rfl rfl) rfl ?_
  refine st rfl rfl (eff_loadA rfl ty56 rfl rfl rfl) rfl ?_
  refine st rfl rfl (eff_call rfl K105 rfl (c105 a0 a1) (ag_cons rfl (ag_cons rfl ag_nil))) rfl ?_
  refine st rfl rfl (eff_assigng rfl rfl) rfl ?_
  refine st_nil ?_
  refine aw_seq ?_
  refine aw_region [.p, .p] ?_
  refine st rfl rfl (eff_moveg rfl rfl) rfl ?_
  refine st rfl rfl (eff_neq rfl rfl rfl) rfl ?_
  refine st_nil ?_
  refine aw_cond _ rfl (fun h1 => ?_) (fun h1 => ?_)
  · replace h1 : (decide ((s105 a0 a1) ≠ 0)) = true := h1
    replace hR := condT hR h1
    try simp only [Bool.or_eq_true, Bool.and_eq_true, Bool.or_eq_false_iff, Bool.and_eq_false_iff, Bool.not_eq_true', Bool.not_eq_false', decide_eq_true_eq, decide_eq_false_iff_not] at h1
    refine aw_seq ?_
    refine aw_region [.p, .p, .p] ?_
    refine st rfl rfl (eff_moveg rfl rfl) rfl ?_
    refine st rfl rfl (eff_assigng rfl rfl) rfl ?_
    refine st rfl rfl (eff_assigng rfl rfl) rfl ?_
    refine st_nil ?_
    refine aw_ret ?_
    subst hR
    exact resN rfl ⟨rv_g rfl, rv_g rfl, trivial⟩ (by simp)
  · replace h1 : (decide ((s105 a0 a1) ≠ 0)) = false := h1
    replace hR := condF hR h1
    try simp only [Bool.or_eq_true, Bool.and_eq_true, Bool.or_eq_false_iff, Bool.and_eq_false_iff, Bool.not_eq_true', Bool.not_eq_false', decide_eq_true_eq, decide_eq_false_iff_not] at h1
    refine aw_skip ?_
    refine aw_seq ?_
    refine aw_region [.p, .p, .p, .p, .p, .p, .p, .p, .p, .p, .p, .p, .p] ?_
    refine st rfl rfl (eff_fieldAddr rfl fl24_3 rfl) rfl ?_
    refine st rfl rfl (eff_load rfl ty3 rfl) rfl ?_
    refine st rfl rfl (eff_fieldAddr rfl fl56_1 rfl) rfl ?_
    refine st rfl rfl (eff_load rfl ty3 rfl) rfl ?_
    refine st rfl rfl (eff_mulw rfl rfl rfl) rfl ?_
    refine st rfl rfl (eff_addw rfl rfl rfl) rfl ?_
    refine st rfl rfl (eff_quow rfl rfl rfl (by decide)) rfl ?_
    refine st rfl rfl (eff_fieldAddr rfl fl56_0 rfl) rfl ?_
    refine st rfl rfl (eff_load rfl ty3 rfl) rfl ?_
    refine st rfl rfl (eff_subw rfl rfl rfl) rfl ?_
    refine st rfl rfl (eff_max rfl rfl rfl) rfl ?_
    refine st rfl rfl (eff_assigng rfl rfl) rfl ?_
    refine st rfl rfl (eff_assigng rfl rfl) rfl ?_
    refine st_nil ?_
    refine aw_ret ?_
    subst hR
    exact resN rfl ⟨rv_g rfl, rv_g rfl, trivial⟩ (by simp)

/-- turnroundref09.Kept -/
def s37 (a0 : S23) (a1 : S55) : Bool :=
  (decide (0 < a1.Due)) && (decide (IntKind.i64.wrap (a0.Share * a1.Due) ≤ IntKind.i64.wrap (100 * a1.Flown)))
theorem c37 {g : List (Nat × List Value)} (a0 : S23) (a1 : S55)    : Con (EG g) 37 [G.agg [G.int a0.Before, G.int a0.After, G.int a0.Notice, G.int a0.Share, G.sl 1 (List.map cStr a0.Causes), G.int a0.Off, G.int a0.Run], G.agg [G.int a1.Flown, G.int a1.Due]] (G.bool (s37 a0 a1)) := by
  generalize hR : s37 a0 a1 = R
  unfold s37 at hR
  refine con_of_aw Tryz.func37 rfl rfl fun w0 M0 => ?_
  refine aw_seq ?_
  refine aw_region [.p, .p, .p] ?_
  refine st rfl rfl (eff_box rfl rfl) rfl ?_
  refine st rfl rfl (eff_box rfl rfl) rfl ?_
  refine st rfl rfl (eff_assigng rfl rfl) rfl ?_
  refine st_nil ?_
  refine aw_seq ?_
  refine aw_region [.p, .p, .p, .p, .p, .p, .p, .p, .p, .p, .p, .p, .p, .p, .p] ?_
  refine st rfl rfl (eff_fieldAddr rfl fl63_1 rfl) rfl ?_
  refine st rfl rfl (eff_load rfl ty3 rfl) rfl ?_
  refine st rfl rfl (eff_gtr rfl rfl rfl) rfl ?_
  refine st rfl rfl (eff_moveg rfl rfl) rfl ?_
  refine st_g rfl rfl rfl (gb_bool _ _) (fun h => eff_fieldAddr rfl fl63_0 rfl) rfl ?_
  refine st_g rfl rfl rfl (gb_bool _ _) (fun h => eff_load rfl ty3 (gd h rfl)) rfl ?_
  refine st_g rfl rfl rfl (gb_bool _ _) (fun h => eff_mulw rfl rfl (gd h rfl)) rfl ?_
  refine st_g rfl rfl rfl (gb_bool _ _) (fun h => eff_fieldAddr rfl fl29_3 rfl) rfl ?_
  refine st_g rfl rfl rfl (gb_bool _ _) (fun h => eff_load rfl ty3 (gd h rfl)) rfl ?_
  refine st_g rfl rfl rfl (gb_bool _ _) (fun h => eff_fieldAddr rfl fl63_1 rfl) rfl ?_
  refine st_g rfl rfl rfl (gb_bool _ _) (fun h => eff_load rfl ty3 (gd h rfl)) rfl ?_
  refine st_g rfl rfl rfl (gb_bool _ _) (fun h => eff_mulw rfl (gd h rfl) (gd h rfl)) rfl ?_
  refine st_g rfl rfl rfl (gb_bool _ _) (fun h => eff_geq rfl (gd h rfl) (gd h rfl)) rfl ?_
  refine st rfl rfl (eff_and rfl rfl rfl rfl) rfl ?_
  refine st rfl rfl (eff_assigng rfl rfl) rfl ?_
  refine st_nil ?_
  refine aw_ret ?_
  subst hR
  exact res_c rfl (rv_g rfl)

/-- turnroundref09.Missing -/
def s38_l1  : Nat → Int → Int
  | 0, x1 => x1
  | k2 + 1, x1 => s38_l1 k2 (IntKind.i64.wrap (x1 + 1))
def s38 (a0 : S23) (a1 : S55) : Int :=
  s38_l1 (((a0.Share * a1.Due + 99) / 100 - a1.Flown - 0).toNat) 0
theorem c38 {g : List (Nat × List Value)} (a0 : S23) (a1 : S55)  (hs0 : 0 ≤ a0.Share) (hs1 : a0.Share ≤ 100) (hd0 : 0 ≤ a1.Due) (hd1 : a1.Due ≤ 512) (hf0 : 0 ≤ a1.Flown) (hf1 : a1.Flown ≤ 512)  : Con (EG g) 38 [G.agg [G.int a0.Before, G.int a0.After, G.int a0.Notice, G.int a0.Share, G.sl 1 (List.map cStr a0.Causes), G.int a0.Off, G.int a0.Run], G.agg [G.int a1.Flown, G.int a1.Due]] (G.int (s38 a0 a1)) := by
  generalize hR : s38 a0 a1 = R
  unfold s38 at hR
  refine con_of_aw Tryz.func38 rfl rfl fun w0 M0 => ?_
  refine aw_seq ?_
  refine aw_region [.p, .p, .p] ?_
  refine st rfl rfl (eff_box rfl rfl) rfl ?_
  refine st rfl rfl (eff_box rfl rfl) rfl ?_
  refine st rfl rfl (eff_assigng rfl rfl) rfl ?_
  refine st_nil ?_
  refine aw_seq ?_
  refine aw_region [.p] ?_
  refine st rfl rfl (eff_assigng rfl rfl) rfl ?_
  refine st_nil ?_
  refine aw_seq ?_
  refine aw_block ?_
  refine aw_loop_g (γ := Nat × Int) (fun g => ([(2, .g (G.ref [G.int a0.Before, G.int a0.After, G.int a0.Notice, G.int a0.Share, G.sl 1 (List.map cStr a0.Causes), G.int a0.Off, G.int a0.Run])), (3, .g (G.ref [G.int a1.Flown, G.int a1.Due])), (5, .g (G.int g.2))], [])) (fun g => g.1 = ((a0.Share * a1.Due + 99) / 100 - a1.Flown - g.2).toNat ∧ 0 ≤ g.2 ∧ g.2 ≤ 600 ∧ s38_l1 g.1 g.2 = R) (fun g => g.1) ⟨rfl, (((a0.Share * a1.Due + 99) / 100 - a1.Flown - 0).toNat, 0), ⟨rfl, rfl, rfl, trivial⟩, trivial, rfl, ⟨rfl, (by first | omega | (dsimp only; omega) | simp), (by first | omega | (dsimp only; omega) | simp), hR⟩, trivial⟩ ?_
  · rintro ⟨k2, x1⟩ ⟨hk1, iv1_0, iv1_1, hR⟩
    replace hk1 : k2 = ((a0.Share * a1.Due + 99) / 100 - a1.Flown - x1).toNat := hk1
    replace hR : s38_l1 k2 x1 = R := hR
    replace iv1_0 : 0 ≤ x1 := iv1_0
    replace iv1_1 : x1 ≤ 600 := iv1_1
    have hw1 := share_wrap hs0 hs1 hd0 hd1
    obtain ⟨hb1, hb2⟩ := share_bound hs0 hs1 hd0 hd1
    have hw2 : IntKind.i64.wrap (a1.Flown + x1) = a1.Flown + x1 := wrap_i64 (by unfold I64; omega)
    have hw3 : IntKind.i64.wrap (100 * IntKind.i64.wrap (a1.Flown + x1)) = 100 * (a1.Flown + x1) := by rw [hw2]; exact wrap_i64 (by unfold I64; omega)
    have hw4 : IntKind.i64.wrap (x1 + 1) = x1 + 1 := wrap_i64 (by unfold I64; omega)
    refine aw_seq ?_
    refine aw_seq ?_
    refine aw_region [.p, .p, .p, .p, .p, .p, .p, .p, .p, .p, .p] ?_
    refine st rfl rfl (eff_fieldAddr rfl fl63_0 rfl) rfl ?_
    refine st rfl rfl (eff_load rfl ty3 rfl) rfl ?_
    refine st rfl rfl (eff_moveg rfl rfl) rfl ?_
    refine st rfl rfl (eff_addw rfl rfl rfl) rfl ?_
    refine st rfl rfl (eff_mulw rfl rfl rfl) rfl ?_
    refine st rfl rfl (eff_fieldAddr rfl fl29_3 rfl) rfl ?_
    refine st rfl rfl (eff_load rfl ty3 rfl) rfl ?_
    refine st rfl rfl (eff_fieldAddr rfl fl63_1 rfl) rfl ?_
    refine st rfl rfl (eff_load rfl ty3 rfl) rfl ?_
    refine st rfl rfl (eff_mulw rfl rfl rfl) rfl ?_
    refine st rfl rfl (eff_lss rfl rfl rfl) rfl ?_
    refine st_nil ?_
    refine aw_cond _ rfl (fun h1 => ?_) (fun h1 => ?_)
    · replace h1 : (decide (IntKind.i64.wrap (100 * (IntKind.i64.wrap (a1.Flown + x1))) < IntKind.i64.wrap (a0.Share * a1.Due))) = true := h1
      replace h1 := decT h1
      obtain ⟨k2, rfl⟩ : ∃ m, k2 = m + 1 := ⟨k2 - 1, by omega⟩
      rw [s38_l1] at hR
      try dsimp only at hR
      refine aw_skip ?_
      refine aw_block ?_
      refine aw_region [.p, .p, .p] ?_
      refine st rfl rfl (eff_moveg rfl rfl) rfl ?_
      refine st rfl rfl (eff_addw rfl rfl rfl) rfl ?_
      refine st rfl rfl (eff_assigng rfl rfl) rfl ?_
      refine st_nil ?_
      exact ⟨rfl, (k2, IntKind.i64.wrap (x1 + 1)), ⟨rfl, rfl, rfl, trivial⟩, trivial, rfl, ⟨(by first | omega | (dsimp only; omega) | (simp at *; omega)), (by first | omega | (dsimp only; omega) | (simp at *; omega)), (by first | omega | (dsimp only; omega) | (simp at *; omega)), hR⟩, by simp⟩
    · replace h1 : (decide (IntKind.i64.wrap (100 * (IntKind.i64.wrap (a1.Flown + x1))) < IntKind.i64.wrap (a0.Share * a1.Due))) = false := h1
      replace h1 := decF h1
      obtain rfl : k2 = 0 := by omega
      rw [s38_l1] at hR
      refine aw_exit ?_
      refine aw_seq ?_
      refine aw_region [.p, .p] ?_
      refine st rfl rfl (eff_moveg rfl rfl) rfl ?_
      refine st rfl rfl (eff_assigng rfl rfl) rfl ?_
      refine st_nil ?_
      refine aw_ret ?_
      subst hR
      exact res_c rfl (rv_g rfl)
end Go.Sim

namespace Go.Sim
theorem s89_zero {l : List Int} (h : s89 l = 0) : ∀ x ∈ l, x = 0 := s84_zero (by rw [s84_s89]; exact h)
theorem s90_zero {a b c : Int} (h : s90 a b c = 0) : b ≤ a ∧ a ≤ c := s85_zero h
theorem rule_ok (a0 : S23) (h : s24 a0 = 0) : 1 ≤ a0.Share ∧ a0.Share ≤ 100 := by
  unfold s24 at h
  by_cases h1 : s89 [(s90 a0.Before 0 720), (s90 a0.After 0 720), (s90 a0.Notice 0 365), (s90 a0.Share 1 100)] = 0
  · exact s90_zero (s89_zero h1 _ (by simp))
  · rw [decide_eq_true (by simpa using h1), cond_true] at h
    exact absurd h h1
theorem ratio_ok (a0 : S23) (a1 : S55) (h : s35 [(s24 (s18 a0)), (s36 a1)] = 0) : 0 ≤ (s18 a0).Share ∧ (s18 a0).Share ≤ 100 ∧ 0 ≤ a1.Due ∧ a1.Due ≤ 512 ∧ 0 ≤ a1.Flown ∧ a1.Flown ≤ 512 := by
  have h1 := rule_ok _ (s89_zero h (s24 (s18 a0)) (by simp))
  have h2 := s89_zero h (s36 a1) (by simp)
  unfold s36 s36_j1 at h2
  have h3 : s89 [(s90 a1.Flown 0 512), (s90 a1.Due 0 512)] = 0 := by
    by_cases h4 : s89 [(s90 a1.Flown 0 512), (s90 a1.Due 0 512)] = 0
    · exact h4
    · rw [decide_eq_false h4] at h2
      exact h2
  have h5 := s90_zero (s89_zero h3 (s90 a1.Flown 0 512) (by simp))
  have h6 := s90_zero (s89_zero h3 (s90 a1.Due 0 512) (by simp))
  omega
end Go.Sim

set_option linter.unusedSimpArgs false
set_option linter.unusedVariables false
set_option maxRecDepth 10000
namespace Go.Sim
open Go.Proofs

theorem K33 : Known Tryz.prog 33 := ⟨_, Tryz.func33, by kernel_rfl, by kernel_rfl⟩
theorem K34 : Known Tryz.prog 34 := ⟨_, Tryz.func34, by kernel_rfl, by kernel_rfl⟩
theorem K35 : Known Tryz.prog 35 := ⟨_, Tryz.func35, by kernel_rfl, by kernel_rfl⟩
theorem K36 : Known Tryz.prog 36 := ⟨_, Tryz.func36, by kernel_rfl, by kernel_rfl⟩
theorem K37 : Known Tryz.prog 37 := ⟨_, Tryz.func37, by kernel_rfl, by kernel_rfl⟩
theorem K38 : Known Tryz.prog 38 := ⟨_, Tryz.func38, by kernel_rfl, by kernel_rfl⟩
/-- turnroundlaw09.UseRatios -/
noncomputable def s5 (a0 : S23) (a1 : S55) : Bool :=
  (bif (!s16) || (!(s17 (s18 a0))) then s16 else (bif decide ((s35 [(s24 (s18 a0)), (s36 a1)]) ≠ 0) then (((!((s33 a0 a1).1)) && (decide ((s33 a0 a1).2 = (s35 [(s24 (s18 a0)), (s36 a1)])))) && (decide ((s34 a0 a1).1 = 0))) && (decide ((s34 a0 a1).2 = (s35 [(s24 (s18 a0)), (s36 a1)]))) else ((decide (IntKind.i64.wrap (((s33 a0 a1).2) + ((s34 a0 a1).2)) = 0)) && (((s33 a0 a1).1) == (s37 (s18 a0) a1))) && (decide ((s34 a0 a1).1 = (s38 (s18 a0) a1)))))
theorem c5 (a0 : S23) (a1 : S55)    : Con (EG glT) 5 [G.agg [G.int a0.Before, G.int a0.After, G.int a0.Notice, G.int a0.Share, G.sl 1 (List.map cStr a0.Causes), G.int a0.Off, G.int a0.Run], G.agg [G.int a1.Flown, G.int a1.Due]] (G.bool (s5 a0 a1)) := by
  generalize hR : s5 a0 a1 = R
  unfold s5 at hR
  refine con_of_aw Tryz.func5 rfl rfl fun w0 M0 => ?_
  refine aw_seq ?_
  refine aw_region [.p, .p, .p] ?_
  refine st rfl rfl (eff_box rfl rfl) rfl ?_
  refine st rfl rfl (eff_box rfl rfl) rfl ?_
  refine st rfl rfl (eff_assigng rfl rfl) rfl ?_
  refine st_nil ?_
  refine aw_seq ?_
  refine aw_seq ?_
  refine aw_region [.p, .p, .p, .p, .p, .p, .p, .p] ?_
  refine st rfl rfl (eff_call rfl K16 rfl (c16) ag_nil) rfl ?_
  refine st rfl rfl (eff_not rfl rfl) rfl ?_
  refine st rfl rfl (eff_moveg rfl rfl) rfl ?_
  refine st_g rfl rfl rfl (gb_bool _ _) (fun h => eff_loadA rfl ty24 rfl rfl rfl) rfl ?_
  refine st_g rfl rfl rfl (gb_bool _ _) (fun h => eff_call rfl K18 rfl (c18 a0) (ag_cons (gd h rfl) ag_nil)) rfl ?_
  refine st_g rfl rfl rfl (gb_bool _ _) (fun h => eff_call rfl K17 rfl (c17 (s18 a0)) (ag_cons (gd h rfl) ag_nil)) rfl ?_
  refine st_g rfl rfl rfl (gb_bool _ _) (fun h => eff_not rfl (gd h rfl)) rfl ?_
  refine st rfl rfl (eff_or rfl rfl rfl rfl) rfl ?_
  refine st_nil ?_
  refine aw_cond _ rfl (fun h1 => ?_) (fun h1 => ?_)
  · replace h1 : ((!s16) || (!(s17 (s18 a0)))) = true := h1
    replace hR := condT hR h1
    try simp only [Bool.or_eq_true, Bool.and_eq_true, Bool.or_eq_false_iff, Bool.and_eq_false_iff, Bool.not_eq_true', Bool.not_eq_false', decide_eq_true_eq, decide_eq_false_iff_not] at h1
    refine aw_seq ?_
    refine aw_region [.p, .p] ?_
    refine st rfl rfl (eff_call rfl K16 rfl (c16) ag_nil) rfl ?_
    refine st rfl rfl (eff_assigng rfl rfl) rfl ?_
    refine st_nil ?_
    refine aw_ret ?_
    subst hR
    exact res_c rfl (rv_g rfl)
  · replace h1 : ((!s16) || (!(s17 (s18 a0)))) = false := h1
    replace hR := condF hR h1
    try simp only [Bool.or_eq_true, Bool.and_eq_true, Bool.or_eq_false_iff, Bool.and_eq_false_iff, Bool.not_eq_true', Bool.not_eq_false', decide_eq_true_eq, decide_eq_false_iff_not] at h1
    refine aw_skip ?_
    refine aw_seq ?_
    refine aw_region [.p, .p, .p, .p, .p, .p, .p, .p] ?_
    refine st rfl rfl (eff_loadA rfl ty24 rfl rfl rfl) rfl ?_
    refine st rfl rfl (eff_loadA rfl ty56 rfl rfl rfl) rfl ?_
    refine st rfl rfl (eff_call rfl K33 rfl (c33 a0 a1) (ag_cons rfl (ag_cons rfl ag_nil))) rfl ?_
    refine st rfl rfl (eff_moveg rfl rfl) rfl ?_
    refine st rfl rfl (eff_extract rfl rfl rfl) rfl ?_
    refine st rfl rfl (eff_extract rfl rfl rfl) rfl ?_
    refine st rfl rfl (eff_assigng rfl rfl) rfl ?_
    refine st rfl rfl (eff_assigng rfl rfl) rfl ?_
    refine st_nil ?_
    refine aw_seq ?_
    refine aw_region [.p, .p, .p, .p, .p, .p, .p, .p] ?_
    refine st rfl rfl (eff_loadA rfl ty24 rfl rfl rfl) rfl ?_
    refine st rfl rfl (eff_loadA rfl ty56 rfl rfl rfl) rfl ?_
    refine st rfl rfl (eff_call rfl K34 rfl (c34 a0 a1) (ag_cons rfl (ag_cons rfl ag_nil))) rfl ?_
    refine st rfl rfl (eff_moveg rfl rfl) rfl ?_
    refine st rfl rfl (eff_extract rfl rfl rfl) rfl ?_
    refine st rfl rfl (eff_extract rfl rfl rfl) rfl ?_
    refine st rfl rfl (eff_assigng rfl rfl) rfl ?_
    refine st rfl rfl (eff_assigng rfl rfl) rfl ?_
    refine st_nil ?_
    refine aw_seq ?_
    refine aw_draw [.p, .p, .p, .p, .p, .p, .p, .p] (by kernel_rfl) ?_
    refine st rfl rfl (eff_loadA rfl ty24 rfl rfl rfl) rfl ?_
    refine st rfl rfl (eff_call rfl K18 rfl (c18 a0) (ag_cons rfl ag_nil)) rfl ?_
    refine st rfl rfl (eff_call rfl K24 rfl (c24 (s18 a0)) (ag_cons rfl ag_nil)) rfl ?_
    refine st rfl rfl (eff_loadA rfl ty56 rfl rfl rfl) rfl ?_
    refine st rfl rfl (eff_call rfl K36 rfl (c36 a1) (ag_cons rfl ag_nil)) rfl ?_
    refine st rfl rfl (eff_buildSlice rfl Tryz.underlying82 ty3 z3 rfl (ps_cons rfl (ps_cons rfl ps_nil)) rfl (by simp [S23.c, S151.c, S104.c, S45.c, S47.c, S55.c]) (by decide)) rfl ?_
    refine st rfl rfl (eff_call rfl K35 rfl (c35 [(s24 (s18 a0)), (s36 a1)]) (ag_cons rfl ag_nil)) rfl ?_
    refine st rfl rfl (eff_assigng rfl rfl) rfl ?_
    refine st_nil ?_
    refine aw_seq ?_
    refine aw_seq ?_
    refine aw_region [.p, .p] ?_
    refine st rfl rfl (eff_moveg rfl rfl) rfl ?_
    refine st rfl rfl (eff_neq rfl rfl rfl) rfl ?_
    refine st_nil ?_
    refine aw_cond _ rfl (fun h2 => ?_) (fun h2 => ?_)
    · replace h2 : (decide ((s35 [(s24 (s18 a0)), (s36 a1)]) ≠ 0)) = true := h2
      replace hR := condT hR h2
      try simp only [Bool.or_eq_true, Bool.and_eq_true, Bool.or_eq_false_iff, Bool.and_eq_false_iff, Bool.not_eq_true', Bool.not_eq_false', decide_eq_true_eq, decide_eq_false_iff_not] at h2
      refine aw_seq ?_
      refine aw_region [.p, .p, .p, .p, .p, .p, .p, .p, .p, .p, .p, .p, .p, .p, .p, .p, .p] ?_
      refine st rfl rfl (eff_moveg rfl rfl) rfl ?_
      refine st rfl rfl (eff_not rfl rfl) rfl ?_
      refine st rfl rfl (eff_moveg rfl rfl) rfl ?_
      refine st_g rfl rfl rfl (gb_bool _ _) (fun h => eff_moveg rfl rfl) rfl ?_
      refine st_g rfl rfl rfl (gb_bool _ _) (fun h => eff_moveg rfl rfl) rfl ?_
      refine st_g rfl rfl rfl (gb_bool _ _) (fun h => eff_eql rfl (gd h rfl) (gd h rfl)) rfl ?_
      refine st rfl rfl (eff_and rfl rfl rfl rfl) rfl ?_
      refine st rfl rfl (eff_moveg rfl rfl) rfl ?_
      refine st_g rfl rfl rfl (gb_bool _ _) (fun h => eff_moveg rfl rfl) rfl ?_
      refine st_g rfl rfl rfl (gb_bool _ _) (fun h => eff_eql rfl (gd h rfl) rfl) rfl ?_
      refine st rfl rfl (eff_and rfl rfl rfl rfl) rfl ?_
      refine st rfl rfl (eff_moveg rfl rfl) rfl ?_
      refine st_g rfl rfl rfl (gb_bool _ _) (fun h => eff_moveg rfl rfl) rfl ?_
      refine st_g rfl rfl rfl (gb_bool _ _) (fun h => eff_moveg rfl rfl) rfl ?_
      refine st_g rfl rfl rfl (gb_bool _ _) (fun h => eff_eql rfl (gd h rfl) (gd h rfl)) rfl ?_
      refine st rfl rfl (eff_and rfl rfl rfl rfl) rfl ?_
      refine st rfl rfl (eff_assigng rfl rfl) rfl ?_
      refine st_nil ?_
      refine aw_ret ?_
      subst hR
      exact res_c rfl (rv_g rfl)
    · replace h2 : (decide ((s35 [(s24 (s18 a0)), (s36 a1)]) ≠ 0)) = false := h2
      replace hR := condF hR h2
      try simp only [Bool.or_eq_true, Bool.and_eq_true, Bool.or_eq_false_iff, Bool.and_eq_false_iff, Bool.not_eq_true', Bool.not_eq_false', decide_eq_true_eq, decide_eq_false_iff_not] at h2
      obtain ⟨hs0, hs1, hd0, hd1, hf0, hf1⟩ := ratio_ok a0 a1 (by simpa using h2)
      refine aw_skip ?_
      refine aw_seq ?_
      refine aw_draw [.p, .p, .p, .p, .p, .p, .p, .p, .p, .p, .p, .p, .p, .p, .p, .p, .p, .p, .p, .p, .p] (by kernel_rfl) ?_
      refine st rfl rfl (eff_moveg rfl rfl) rfl ?_
      refine st rfl rfl (eff_moveg rfl rfl) rfl ?_
      refine st rfl rfl (eff_addw rfl rfl rfl) rfl ?_
      refine st rfl rfl (eff_eql rfl rfl rfl) rfl ?_
      refine st rfl rfl (eff_moveg rfl rfl) rfl ?_
      refine st_g rfl rfl rfl (gb_bool _ _) (fun h => eff_moveg rfl rfl) rfl ?_
      refine st_g rfl rfl rfl (gb_bool _ _) (fun h => eff_loadA rfl ty24 rfl rfl rfl) rfl ?_
      refine st_g rfl rfl rfl (gb_bool _ _) (fun h => eff_call rfl K18 rfl (c18 a0) (ag_cons (gd h rfl) ag_nil)) rfl ?_
      refine st_g rfl rfl rfl (gb_bool _ _) (fun h => eff_loadA rfl ty56 rfl rfl rfl) rfl ?_
      refine st_g rfl rfl rfl (gb_bool _ _) (fun h => eff_call rfl K37 rfl (c37 (s18 a0) a1) (ag_cons (gd h rfl) (ag_cons (gd h rfl) ag_nil))) rfl ?_
      refine st_g rfl rfl rfl (gb_bool _ _) (fun h => eff_beql rfl Tryz.underlying4 (gd h rfl) (gd h rfl)) rfl ?_
      refine st rfl rfl (eff_and rfl rfl rfl rfl) rfl ?_
      refine st rfl rfl (eff_moveg rfl rfl) rfl ?_
      refine st_g rfl rfl rfl (gb_bool _ _) (fun h => eff_moveg rfl rfl) rfl ?_
      refine st_g rfl rfl rfl (gb_bool _ _) (fun h => eff_loadA rfl ty24 rfl rfl rfl) rfl ?_
      refine st_g rfl rfl rfl (gb_bool _ _) (fun h => eff_call rfl K18 rfl (c18 a0) (ag_cons (gd h rfl) ag_nil)) rfl ?_
      refine st_g rfl rfl rfl (gb_bool _ _) (fun h => eff_loadA rfl ty56 rfl rfl rfl) rfl ?_
      refine st_g rfl rfl rfl (gb_bool _ _) (fun h => eff_call rfl K38 rfl (c38 (s18 a0) a1 (by first | assumption | omega) (by first | assumption | omega) (by first | assumption | omega) (by first | assumption | omega) (by first | assumption | omega) (by first | assumption | omega)) (ag_cons (gd h rfl) (ag_cons (gd h rfl) ag_nil))) rfl ?_
      refine st_g rfl rfl rfl (gb_bool _ _) (fun h => eff_eql rfl (gd h rfl) (gd h rfl)) rfl ?_
      refine st rfl rfl (eff_and rfl rfl rfl rfl) rfl ?_
      refine st rfl rfl (eff_assigng rfl rfl) rfl ?_
      refine st_nil ?_
      refine aw_ret ?_
      subst hR
      exact res_c rfl (rv_g rfl)
end Go.Sim

namespace Go.Sim
theorem ratio_eq (a0 : S23) (a1 : S55) : s105 a0 a1 = s35 [(s24 (s18 a0)), (s36 a1)] := by
  unfold s105 s35
  rw [s84_s89, rule_eq]
  have h36 : s36 a1 = o (s90 a1.Flown 0 512) (o (s90 a1.Due 0 512) (s86 (decide (a1.Due < a1.Flown)) 11)) := by
    unfold s36 s36_j1
    simp only [s89_o, s89_nil, o0r]
    rw [← o_as]
    generalize o (s90 a1.Flown 0 512) (s90 a1.Due 0 512) = x
    unfold o s86
    by_cases h : x = 0 <;> by_cases h2 : a1.Due < a1.Flown <;> simp [h, h2]
  rw [h36]
  simp only [s89_o, s89_nil, o0r, s85_s90]
theorem s38_loop : ∀ (n : Nat) (x : Int), 0 ≤ x → x + n ≤ 100000 → s38_l1 n x = x + n
  | 0, x, _, _ => by simp [s38_l1]
  | n + 1, x, h1, h2 => by
    rw [s38_l1, wrap_i64 (by unfold I64; omega), s38_loop n (x + 1) (by omega) (by omega)]
    omega
theorem missing_eq (a0 : S23) (a1 : S55) (hs0 : 0 ≤ a0.Share) (hs1 : a0.Share ≤ 100) (hd0 : 0 ≤ a1.Due) (hd1 : a1.Due ≤ 512) (hf0 : 0 ≤ a1.Flown) (hf1 : a1.Flown ≤ 512) :
    max 0 (IntKind.i64.wrap ((IntKind.i64.wrap (Int.tdiv (IntKind.i64.wrap ((IntKind.i64.wrap (a0.Share * a1.Due)) + 99)) 100)) - a1.Flown)) = s38 a0 a1 := by
  obtain ⟨b1, b2⟩ := share_bound hs0 hs1 hd0 hd1
  unfold s38
  rw [share_wrap hs0 hs1 hd0 hd1]
  generalize a0.Share * a1.Due = q at *
  rw [wrap_i64 (n := q + 99) (by unfold I64; omega), Int.tdiv_eq_ediv_of_nonneg (by omega), wrap_i64 (n := (q + 99) / 100) (by unfold I64; omega), wrap_i64 (n := (q + 99) / 100 - a1.Flown) (by unfold I64; omega), s38_loop _ _ (by omega) (by omega)]
  omega
/-- UseRatios' own words hold at every rule and every ratio -/
theorem s5_true (a0 : S23) (a1 : S55) : s5 a0 a1 = true := by
  unfold s5
  rw [s16_eq]
  generalize ((!true) || (!(s17 (s18 a0)))) = b
  cases b with
  | true => rfl
  | false =>
    rw [cond_false]
    unfold s33 s34
    rw [ratio_eq]
    by_cases h : s35 [(s24 (s18 a0)), (s36 a1)] = 0
    · obtain ⟨hs0, hs1, hd0, hd1, hf0, hf1⟩ := ratio_ok a0 a1 h
      rw [decide_eq_false (p := s35 [(s24 (s18 a0)), (s36 a1)] ≠ 0) (by simpa using h)]
      simp only [cond_false]
      have e1 : s106 a0 a1 = s37 (s18 a0) a1 := rfl
      have e2 := missing_eq (s18 a0) a1 hs0 hs1 hd0 hd1 hf0 hf1
      have e3 : (s18 a0).Share = a0.Share := rfl
      rw [e3] at e2
      rw [e1, e2]
      simp
      decide
    · rw [decide_eq_true (p := s35 [(s24 (s18 a0)), (s36 a1)] ≠ 0) h]
      simp
end Go.Sim

