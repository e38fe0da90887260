/-
  What is proved: the walk of the table of the names: a range over a map.
-/
import Derived.Test.YtdfgeoefbbkcnaaGreatDoorVsF2
import Derived.Test.YtdfgeoefbbkcnaaGreatDoorVsF6
import Derived.Test.YtdfgeoefbbkcnaaGreatDoorVaA9
import Derived.Test.YtdfgeoefbbkcnaaGreatDoorVaA4
import Derived.Test.YtdfgeoefbbkcnaaGreatDoorVsF1
import Derived.Test.YtdfgeoefbbkcnaaGreatDoorVsJ1
set_option linter.unusedSectionVars false
set_option linter.unusedSimpArgs false
set_option linter.unusedVariables false
set_option linter.unnecessarySimpa false
set_option linter.deprecated false
namespace Go.Sim
theorem s89_zero {l : List Int} (h : s89 l = 0) : ∀ x ∈ l, x = 0 := s84_zero (by rw [s84_s89]; exact h)
theorem s90_zero {a b c : Int} (h : s90 a b c = 0) : b ≤ a ∧ a ≤ c := s85_zero h
theorem rule_ok (a0 : S23) (h : s24 a0 = 0) : 1 ≤ a0.Share ∧ a0.Share ≤ 100 := by
  unfold s24 at h
  by_cases h1 : s89 [(s90 a0.Before 0 720), (s90 a0.After 0 720), (s90 a0.Notice 0 365), (s90 a0.Share 1 100)] = 0
  · exact s90_zero (s89_zero h1 _ (by simp))
  · rw [decide_eq_true (by simpa using h1), cond_true] at h
    exact absurd h h1
theorem ratio_ok (a0 : S23) (a1 : S55) (h : s35 [(s24 (s18 a0)), (s36 a1)] = 0) : 0 ≤ (s18 a0).Share ∧ (s18 a0).Share ≤ 100 ∧ 0 ≤ a1.Due ∧ a1.Due ≤ 512 ∧ 0 ≤ a1.Flown ∧ a1.Flown ≤ 512 := by
  have h1 := rule_ok _ (s89_zero h (s24 (s18 a0)) (by simp))
  have h2 := s89_zero h (s36 a1) (by simp)
  unfold s36 s36_j1 at h2
  have h3 : s89 [(s90 a1.Flown 0 512), (s90 a1.Due 0 512)] = 0 := by
    by_cases h4 : s89 [(s90 a1.Flown 0 512), (s90 a1.Due 0 512)] = 0
    · exact h4
    · rw [decide_eq_false h4] at h2
      exact h2
  have h5 := s90_zero (s89_zero h3 (s90 a1.Flown 0 512) (by simp))
  have h6 := s90_zero (s89_zero h3 (s90 a1.Due 0 512) (by simp))
  omega
end Go.Sim

set_option linter.unusedSimpArgs false
set_option linter.unusedVariables false
set_option maxRecDepth 10000
namespace Go.Sim
open Go.Proofs


/-- turnroundlaw09.UseRatios -/
noncomputable def s5 (a0 : S23) (a1 : S55) : Bool :=
 (bif (!s16) || (!(s17 (s18 a0))) then s16 else (bif decide ((s35 [(s24 (s18 a0)), (s36 a1)]) ≠ 0) then (((!((s33 a0 a1).1)) && (decide ((s33 a0 a1).2 = (s35 [(s24 (s18 a0)), (s36 a1)])))) && (decide ((s34 a0 a1).1 = 0))) && (decide ((s34 a0 a1).2 = (s35 [(s24 (s18 a0)), (s36 a1)]))) else ((decide (IntKind.i64.wrap (((s33 a0 a1).2) + ((s34 a0 a1).2)) = 0)) && (((s33 a0 a1).1) == (s37 (s18 a0) a1))) && (decide ((s34 a0 a1).1 = (s38 (s18 a0) a1)))))
theorem c5 (a0 : S23) (a1 : S55)    : Con (EG glT) 5 [G.agg [G.int a0.Before, G.int a0.After, G.int a0.Notice, G.int a0.Share, G.sl 1 (List.map cStr a0.Causes), G.int a0.Off, G.int a0.Run], G.agg [G.int a1.Flown, G.int a1.Due]] (G.bool (s5 a0 a1)) := by
 generalize hR : s5 a0 a1 = R
 unfold s5 at hR
 refine con_of_aw Tryz.func5 rfl rfl fun w0 M0 => ?_
 refine aw_seq ?_
 refine aw_region [.p, .p, .p] ?_
 refine st rfl rfl (eff_box rfl rfl) rfl ?_
 refine st rfl rfl (eff_box rfl rfl) rfl ?_
 refine st rfl rfl (eff_assigng rfl rfl) rfl ?_
 refine st_nil ?_
 refine aw_seq ?_
 refine aw_seq ?_
 refine aw_region [.p, .p, .p, .p, .p, .p, .p, .p] ?_
 refine st rfl rfl (eff_call rfl K16 rfl (c16) ag_nil) rfl ?_
 refine st rfl rfl (eff_not rfl rfl) rfl ?_
 refine st rfl rfl (eff_moveg rfl rfl) rfl ?_
 refine st_g rfl rfl rfl (gb_bool _ _) (fun h => eff_loadA rfl ty24 rfl rfl rfl) rfl ?_
 refine st_g rfl rfl rfl (gb_bool _ _) (fun h => eff_call rfl K18 rfl (c18 a0) (ag_cons (gd h rfl) ag_nil)) rfl ?_
 refine st_g rfl rfl rfl (gb_bool _ _) (fun h => eff_call rfl K17 rfl (c17 (s18 a0)) (ag_cons (gd h rfl) ag_nil)) rfl ?_
 refine st_g rfl rfl rfl (gb_bool _ _) (fun h => eff_not rfl (gd h rfl)) rfl ?_
 refine st rfl rfl (eff_or rfl rfl rfl rfl) rfl ?_
 refine st_nil ?_
 refine aw_cond _ rfl (fun h1 => ?_) (fun h1 => ?_)
 ·replace h1 : ((!s16) || (!(s17 (s18 a0)))) = true := h1
  replace hR := condT hR h1
  try simp only [Bool.or_eq_true, Bool.and_eq_true, Bool.or_eq_false_iff, Bool.and_eq_false_iff, Bool.not_eq_true', Bool.not_eq_false', decide_eq_true_eq, decide_eq_false_iff_not] at h1
  refine aw_seq ?_
  refine aw_region [.p, .p] ?_
  refine st rfl rfl (eff_call rfl K16 rfl (c16) ag_nil) rfl ?_
  refine st rfl rfl (eff_assigng rfl rfl) rfl ?_
  refine st_nil ?_
  refine aw_ret ?_
  subst hR
  exact res_c rfl (rv_g rfl)
 ·replace h1 : ((!s16) || (!(s17 (s18 a0)))) = false := h1
  replace hR := condF hR h1
  try simp only [Bool.or_eq_true, Bool.and_eq_true, Bool.or_eq_false_iff, Bool.and_eq_false_iff, Bool.not_eq_true', Bool.not_eq_false', decide_eq_true_eq, decide_eq_false_iff_not] at h1
  refine aw_skip ?_
  refine aw_seq ?_
  refine aw_region [.p, .p, .p, .p, .p, .p, .p, .p] ?_
  refine st rfl rfl (eff_loadA rfl ty24 rfl rfl rfl) rfl ?_
  refine st rfl rfl (eff_loadA rfl ty56 rfl rfl rfl) rfl ?_
  refine st rfl rfl (eff_call rfl K33 rfl (c33 a0 a1) (ag_cons rfl (ag_cons rfl ag_nil))) rfl ?_
  refine st rfl rfl (eff_moveg rfl rfl) rfl ?_
  refine st rfl rfl (eff_extract rfl rfl rfl) rfl ?_
  refine st rfl rfl (eff_extract rfl rfl rfl) rfl ?_
  refine st rfl rfl (eff_assigng rfl rfl) rfl ?_
  refine st rfl rfl (eff_assigng rfl rfl) rfl ?_
  refine st_nil ?_
  refine aw_seq ?_
  refine aw_region [.p, .p, .p, .p, .p, .p, .p, .p] ?_
  refine st rfl rfl (eff_loadA rfl ty24 rfl rfl rfl) rfl ?_
  refine st rfl rfl (eff_loadA rfl ty56 rfl rfl rfl) rfl ?_
  refine st rfl rfl (eff_call rfl K34 rfl (c34 a0 a1) (ag_cons rfl (ag_cons rfl ag_nil))) rfl ?_
  refine st rfl rfl (eff_moveg rfl rfl) rfl ?_
  refine st rfl rfl (eff_extract rfl rfl rfl) rfl ?_
  refine st rfl rfl (eff_extract rfl rfl rfl) rfl ?_
  refine st rfl rfl (eff_assigng rfl rfl) rfl ?_
  refine st rfl rfl (eff_assigng rfl rfl) rfl ?_
  refine st_nil ?_
  refine aw_seq ?_
  refine aw_draw [.p, .p, .p, .p, .p, .p, .p, .p] (by kernel_rfl) ?_
  refine st rfl rfl (eff_loadA rfl ty24 rfl rfl rfl) rfl ?_
  refine st rfl rfl (eff_call rfl K18 rfl (c18 a0) (ag_cons rfl ag_nil)) rfl ?_
  refine st rfl rfl (eff_call rfl K24 rfl (c24 (s18 a0)) (ag_cons rfl ag_nil)) rfl ?_
  refine st rfl rfl (eff_loadA rfl ty56 rfl rfl rfl) rfl ?_
  refine st rfl rfl (eff_call rfl K36 rfl (c36 a1) (ag_cons rfl ag_nil)) rfl ?_
  refine st rfl rfl (eff_buildSlice rfl Tryz.underlying82 ty3 z3 rfl (ps_cons rfl (ps_cons rfl ps_nil)) rfl (by simp []) (by decide)) rfl ?_
  refine st rfl rfl (eff_call rfl K35 rfl (c35 [(s24 (s18 a0)), (s36 a1)]) (ag_cons rfl ag_nil)) rfl ?_
  refine st rfl rfl (eff_assigng rfl rfl) rfl ?_
  refine st_nil ?_
  refine aw_seq ?_
  refine aw_seq ?_
  refine aw_region [.p, .p] ?_
  refine st rfl rfl (eff_moveg rfl rfl) rfl ?_
  refine st rfl rfl (eff_neq rfl rfl rfl) rfl ?_
  refine st_nil ?_
  refine aw_cond _ rfl (fun h2 => ?_) (fun h2 => ?_)
  ·replace h2 : (decide ((s35 [(s24 (s18 a0)), (s36 a1)]) ≠ 0)) = true := h2
   replace hR := condT hR h2
   try simp only [decide_eq_true_eq] at h2
   refine aw_seq ?_
   refine aw_region [.p, .p, .p, .p, .p, .p, .p, .p, .p, .p, .p, .p, .p, .p, .p, .p, .p] ?_
   refine st rfl rfl (eff_moveg rfl rfl) rfl ?_
   refine st rfl rfl (eff_not rfl rfl) rfl ?_
   refine st rfl rfl (eff_moveg rfl rfl) rfl ?_
   refine st_g rfl rfl rfl (gb_bool _ _) (fun h => eff_moveg rfl rfl) rfl ?_
   refine st_g rfl rfl rfl (gb_bool _ _) (fun h => eff_moveg rfl rfl) rfl ?_
   refine st_g rfl rfl rfl (gb_bool _ _) (fun h => eff_eql rfl (gd h rfl) (gd h rfl)) rfl ?_
   refine st rfl rfl (eff_and rfl rfl rfl rfl) rfl ?_
   refine st rfl rfl (eff_moveg rfl rfl) rfl ?_
   refine st_g rfl rfl rfl (gb_bool _ _) (fun h => eff_moveg rfl rfl) rfl ?_
   refine st_g rfl rfl rfl (gb_bool _ _) (fun h => eff_eql rfl (gd h rfl) rfl) rfl ?_
   refine st rfl rfl (eff_and rfl rfl rfl rfl) rfl ?_
   refine st rfl rfl (eff_moveg rfl rfl) rfl ?_
   refine st_g rfl rfl rfl (gb_bool _ _) (fun h => eff_moveg rfl rfl) rfl ?_
   refine st_g rfl rfl rfl (gb_bool _ _) (fun h => eff_moveg rfl rfl) rfl ?_
   refine st_g rfl rfl rfl (gb_bool _ _) (fun h => eff_eql rfl (gd h rfl) (gd h rfl)) rfl ?_
   refine st rfl rfl (eff_and rfl rfl rfl rfl) rfl ?_
   refine st rfl rfl (eff_assigng rfl rfl) rfl ?_
   refine st_nil ?_
   refine aw_ret ?_
   subst hR
   exact res_c rfl (rv_g rfl)
  ·replace h2 : (decide ((s35 [(s24 (s18 a0)), (s36 a1)]) ≠ 0)) = false := h2
   replace hR := condF hR h2
   try simp only [decide_eq_false_iff_not] at h2
   obtain ⟨hs0, hs1, hd0, hd1, hf0, hf1⟩ := ratio_ok a0 a1 (by simpa using h2)
   refine aw_skip ?_
   refine aw_seq ?_
   refine aw_draw [.p, .p, .p, .p, .p, .p, .p, .p, .p, .p, .p, .p, .p, .p, .p, .p, .p, .p, .p, .p, .p] (by kernel_rfl) ?_
   refine st rfl rfl (eff_moveg rfl rfl) rfl ?_
   refine st rfl rfl (eff_moveg rfl rfl) rfl ?_
   refine st rfl rfl (eff_addw rfl rfl rfl) rfl ?_
   refine st rfl rfl (eff_eql rfl rfl rfl) rfl ?_
   refine st rfl rfl (eff_moveg rfl rfl) rfl ?_
   refine st_g rfl rfl rfl (gb_bool _ _) (fun h => eff_moveg rfl rfl) rfl ?_
   refine st_g rfl rfl rfl (gb_bool _ _) (fun h => eff_loadA rfl ty24 rfl rfl rfl) rfl ?_
   refine st_g rfl rfl rfl (gb_bool _ _) (fun h => eff_call rfl K18 rfl (c18 a0) (ag_cons (gd h rfl) ag_nil)) rfl ?_
   refine st_g rfl rfl rfl (gb_bool _ _) (fun h => eff_loadA rfl ty56 rfl rfl rfl) rfl ?_
   refine st_g rfl rfl rfl (gb_bool _ _) (fun h => eff_call rfl K37 rfl (c37 (s18 a0) a1) (ag_cons (gd h rfl) (ag_cons (gd h rfl) ag_nil))) rfl ?_
   refine st_g rfl rfl rfl (gb_bool _ _) (fun h => eff_beql rfl Tryz.underlying4 (gd h rfl) (gd h rfl)) rfl ?_
   refine st rfl rfl (eff_and rfl rfl rfl rfl) rfl ?_
   refine st rfl rfl (eff_moveg rfl rfl) rfl ?_
   refine st_g rfl rfl rfl (gb_bool _ _) (fun h => eff_moveg rfl rfl) rfl ?_
   refine st_g rfl rfl rfl (gb_bool _ _) (fun h => eff_loadA rfl ty24 rfl rfl rfl) rfl ?_
   refine st_g rfl rfl rfl (gb_bool _ _) (fun h => eff_call rfl K18 rfl (c18 a0) (ag_cons (gd h rfl) ag_nil)) rfl ?_
   refine st_g rfl rfl rfl (gb_bool _ _) (fun h => eff_loadA rfl ty56 rfl rfl rfl) rfl ?_
   refine st_g rfl rfl rfl (gb_bool _ _) (fun h => eff_call rfl K38 rfl (c38 (s18 a0) a1 (by first | assumption | omega | (simp [copyL_len]; omega)) (by first | assumption | omega | (simp [copyL_len]; omega)) (by first | assumption | omega | (simp [copyL_len]; omega)) (by first | assumption | omega | (simp [copyL_len]; omega)) (by first | assumption | omega | (simp [copyL_len]; omega)) (by first | assumption | omega | (simp [copyL_len]; omega))) (ag_cons (gd h rfl) (ag_cons (gd h rfl) ag_nil))) rfl ?_
   refine st_g rfl rfl rfl (gb_bool _ _) (fun h => eff_eql rfl (gd h rfl) (gd h rfl)) rfl ?_
   refine st rfl rfl (eff_and rfl rfl rfl rfl) rfl ?_
   refine st rfl rfl (eff_assigng rfl rfl) rfl ?_
   refine st_nil ?_
   refine aw_ret ?_
   subst hR
   exact res_c rfl (rv_g rfl)
end Go.Sim

set_option linter.unusedSimpArgs false
set_option linter.unusedVariables false
set_option maxRecDepth 10000
namespace Go.Sim
open Go.Proofs


/-- use.Table$1 -/
def s132 (a0 : S110) (a1 : S110) : Int :=
 (s133 a0.Name a1.Name)
theorem c132 {g : List (Nat × List Value)} (a0 : S110) (a1 : S110)    : Con (EG g) 132 [G.agg [G.str a0.Name, G.int a0.Ratio.Flown, G.int a0.Ratio.Due, G.bool a0.Kept], G.agg [G.str a1.Name, G.int a1.Ratio.Flown, G.int a1.Ratio.Due, G.bool a1.Kept]] (G.int (s132 a0 a1)) := by
 generalize hR : s132 a0 a1 = R
 unfold s132 at hR
 refine con_of_aw Tryz.func132 rfl rfl fun w0 M0 => ?_
 refine aw_seq ?_
 refine aw_region [.p, .p, .p] ?_
 refine st rfl rfl (eff_box rfl rfl) rfl ?_
 refine st rfl rfl (eff_box rfl rfl) rfl ?_
 refine st rfl rfl (eff_assigng rfl rfl) rfl ?_
 refine st_nil ?_
 refine aw_seq ?_
 refine aw_region [.p, .p, .p, .p, .p, .p] ?_
 refine st rfl rfl (eff_fieldAddr rfl fl111_0 rfl) rfl ?_
 refine st rfl rfl (eff_load rfl ty9 rfl) rfl ?_
 refine st rfl rfl (eff_fieldAddr rfl fl111_0 rfl) rfl ?_
 refine st rfl rfl (eff_load rfl ty9 rfl) rfl ?_
 refine st rfl rfl (eff_call rfl K133 rfl (c133 a0.Name a1.Name) (ag_cons rfl (ag_cons rfl ag_nil))) rfl ?_
 refine st rfl rfl (eff_assigng rfl rfl) rfl ?_
 refine st_nil ?_
 refine aw_ret ?_
 subst hR
 exact res_c rfl (rv_g rfl)

/-- slices.insertionSortCmpFunc[use.Row] -/
def s210_l2 (rec1 : Int → (List S110) → Option (List S110)) (a1 : Int) (a3 : S110 → S110 → Option Int) (x1 : Int) : Nat → Int → (List S110) → Option (List S110)
 | 0, _, _ => none
 | k8 + 1, x5, x6 => bindO (bif decide (a1 < x5) then ixO x6 x5 else some default) fun y9 => bindO (bif decide (a1 < x5) then ixO x6 (x5 - 1) else some default) fun y10 => bindO (bif decide (a1 < x5) then a3 y9 y10 else some default) fun r11 => (bif (decide (a1 < x5)) && (decide (r11 < 0)) then bindO (ixO x6 (x5 - 1)) fun y12 => bindO (ixO x6 x5) fun y13 => bindO (ixO x6 x5) fun y14 => bindO (ixO (List.set x6 (Int.toNat x5) y12) (x5 - 1)) fun y15 => s210_l2 rec1 a1 a3 x1 k8 (x5 - 1) (List.set (List.set x6 (Int.toNat x5) y12) (Int.toNat (x5 - 1)) y13) else rec1 (x1 + 1) x6)
def s210_l1 (a1 : Int) (a3 : S110 → S110 → Option Int) : Nat → Int → (List S110) → Option (List S110)
 | 0, x1, x2 => some x2
 | k4 + 1, x1, x2 => s210_l2 (fun z0_ z1_ => s210_l1 a1 a3 k4 z0_ z1_) a1 a3 x1 (((x1 - a1).toNat) + 1) x1 x2
def s210 (a0 : List S110) (a1 : Int) (a2 : Int) (a3 : S110 → S110 → Option Int) : Option (List S110) :=
 s210_l1 a1 a3 ((a2 - (a1 + 1)).toNat) (a1 + 1) a0
theorem c210 {g : List (Nat × List Value)} (a0 : List S110) (a1 : Int) (a2 : Int) (a3 : S110 → S110 → Option Int) {R : List S110} {N0 : Nat} (hN0 : List.length a0 = N0) {ca3 : G} {ia3 : FuncId} {ka3 : List G} (ha3 : FnIs ca3 ia3 ka3) (Ka3 : Known Tryz.prog ia3) (Ha3 : ∀ (x0 : S110) (x1 : S110) (r : Int), a3 x0 x1 = some r → Con (EG g) ia3 ([G.agg [G.str x0.Name, G.int x0.Ratio.Flown, G.int x0.Ratio.Due, G.bool x0.Kept], G.agg [G.str x1.Name, G.int x1.Ratio.Flown, G.int x1.Ratio.Due, G.bool x1.Kept]] ++ ka3) (G.int r)) (hA : 0 ≤ a1) (hA2 : a1 ≤ 1000000) (hB : a2 ≤ 1000000) (hR : s210 a0 a1 a2 a3 = some R) : ConB (EG g) 210 [.osl 0 4 0 N0, .g (G.int a1), .g (G.int a2), .g (ca3)] [(0, .arr 111 4 (List.map S110.c a0))] (G.tup []) [(0, .arr 111 4 (List.map S110.c R))] := by
 unfold s210 at hR
 refine conB_of_aw Tryz.func210 rfl rfl rfl fun w0 M0 x => ?_
 refine len_osl (f := S110.c) (l := a0) 0 rfl fun hla0 => ?_
 refine aw_seq ?_
 refine aw_region [.p, .p, .p] ?_
 refine st rfl rfl (eff_moveg rfl rfl) rfl ?_
 refine st rfl rfl (eff_add rfl rfl rfl (by unfold I64; (try dsimp only); omega)) rfl ?_
 refine st rfl rfl (eff_assigng rfl rfl) rfl ?_
 refine st_nil ?_
 refine aw_block ?_
 refine aw_loop_g (γ := Nat × Int × (List S110)) (fun g => ([(0, .osl 0 4 0 (N0)), (1, .g (G.int a1)), (2, .g (G.int a2)), (3, .g (ca3)), (8, .g (G.int g.2.1))], [(0, .arr 111 4 (List.map S110.c g.2.2))])) (fun g => g.1 = (a2 - g.2.1).toNat ∧ (a1 + 1) ≤ g.2.1 ∧ List.length g.2.2 = N0 ∧ s210_l1 a1 a3 g.1 g.2.1 g.2.2 = some R) (fun g => g.1) ⟨rfl, ((a2 - (a1 + 1)).toNat, a1 + 1, a0), ⟨rfl, rfl, rfl, rfl, rfl, trivial⟩, ⟨rfl, trivial⟩, rfl, ⟨rfl, (by first | omega | (dsimp only; omega) | simp), hN0, hR⟩, trivial⟩ ?_
 ·rintro ⟨k4, x1, x2⟩ ⟨hk1, iv1_0, ln3, hR⟩
  replace hk1 : k4 = (a2 - x1).toNat := hk1
  replace hR : s210_l1 a1 a3 k4 x1 x2 = some R := hR
  replace iv1_0 : (a1 + 1) ≤ x1 := iv1_0
  replace ln3 : List.length x2 = N0 := ln3
  refine aw_seq ?_
  refine aw_seq ?_
  refine aw_region [.p, .p, .p] ?_
  refine st rfl rfl (eff_moveg rfl rfl) rfl ?_
  refine st rfl rfl (eff_moveg rfl rfl) rfl ?_
  refine st rfl rfl (eff_lss rfl rfl rfl) rfl ?_
  refine st_nil ?_
  refine aw_cond _ rfl (fun h1 => ?_) (fun h1 => ?_)
  ·replace h1 : (decide (x1 < a2)) = true := h1
   replace h1 := decT h1
   obtain ⟨k4, rfl⟩ : ∃ m, k4 = m + 1 := ⟨k4 - 1, by omega⟩
   rw [s210_l1] at hR
   try dsimp only at hR
   refine aw_skip ?_
   refine aw_seq ?_
   refine aw_block ?_
   refine aw_seq ?_
   refine aw_region [.p, .p] ?_
   refine st rfl rfl (eff_moveg rfl rfl) rfl ?_
   refine st rfl rfl (eff_assigng rfl rfl) rfl ?_
   refine st_nil ?_
   refine aw_block ?_
   refine aw_loop_g (γ := Nat × Int × (List S110)) (fun g => ([(0, .osl 0 4 0 (N0)), (1, .g (G.int a1)), (2, .g (G.int a2)), (3, .g (ca3)), (8, .g (G.int x1)), (9, .g (G.int g.2.1))], [(0, .arr 111 4 (List.map S110.c g.2.2))])) (fun g => (g.2.1 - a1).toNat < g.1 ∧ a1 ≤ g.2.1 ∧ g.2.1 ≤ 1000000 ∧ List.length g.2.2 = N0 ∧ s210_l2 (fun z0_ z1_ => s210_l1 a1 a3 k4 z0_ z1_) a1 a3 x1 g.1 g.2.1 g.2.2 = some R) (fun g => g.1) ⟨rfl, (((x1 - a1).toNat) + 1, x1, x2), ⟨rfl, rfl, rfl, rfl, rfl, rfl, trivial⟩, ⟨rfl, trivial⟩, rfl, ⟨Nat.lt_succ_self _, (by first | omega | (dsimp only; omega) | simp), (by first | omega | (dsimp only; omega) | simp), ln3, hR⟩, trivial⟩ ?_
   ·rintro ⟨k8, x5, x6⟩ ⟨hk2, iv2_0, iv2_1, ln7, hR⟩
    replace hk2 : (x5 - a1).toNat < k8 := hk2
    replace hR : s210_l2 (fun z0_ z1_ => s210_l1 a1 a3 k4 z0_ z1_) a1 a3 x1 k8 x5 x6 = some R := hR
    replace iv2_0 : a1 ≤ x5 := iv2_0
    replace iv2_1 : x5 ≤ 1000000 := iv2_1
    replace ln7 : List.length x6 = N0 := ln7
    obtain ⟨k8, rfl⟩ : ∃ m, k8 = m + 1 := ⟨k8 - 1, by omega⟩
    rw [s210_l2] at hR
    try dsimp only at hR
    refine aw_seq ?_
    refine aw_seq ?_
    obtain ⟨y9, by9, hR⟩ := bindO_inv hR
    obtain ⟨y10, by10, hR⟩ := bindO_inv hR
    obtain ⟨r11, br11, hR⟩ := bindO_inv hR
    refine aw_draw [.p, .p, .p, .p, .p, .p, .p, .p, .r, .p, .p, .p, .p, .r, .p, .p, .p] (by kernel_rfl) ?_
    refine st rfl rfl (eff_moveg rfl rfl) rfl ?_
    refine st rfl rfl (eff_moveg rfl rfl) rfl ?_
    refine st rfl rfl (eff_gtr rfl rfl rfl) rfl ?_
    refine st rfl rfl (eff_moveg rfl rfl) rfl ?_
    refine st_g rfl rfl rfl (gb_bool _ _) (fun h => eff_moveg rfl rfl) rfl ?_
    refine st_g rfl rfl rfl (gb_bool _ _) (fun h => eff_moveO rfl rfl) rfl ?_
    refine st_g rfl rfl rfl (gb_bool _ _) (fun h => eff_moveg rfl rfl) rfl ?_
    refine st_g rfl rfl rfl (gb_bool _ _) (fun h => eff_ixL rfl Tryz.underlying107 ty111 (gd h rfl) (gd h rfl) (ixO_nn (condT1 by9 h)) (Nat.lt_of_lt_of_eq (get_lt (ixO_get (condT1 by9 h))) ln7)) rfl ?_
    refine st_gr rfl rfl rfl (gb_bool _ _) (fun h => eff_ldEA (f := S110.c) (l := x6) (a := y9) rfl ty111 (gd h rfl) rfl (ixO_get (condT1 by9 h))) rfl ?_
    refine st_g rfl rfl rfl (gb_bool _ _) (fun h => eff_moveO rfl rfl) rfl ?_
    refine st_g rfl rfl rfl (gb_bool _ _) (fun h => eff_moveg rfl rfl) rfl ?_
    refine st_g rfl rfl rfl (gb_bool _ _) (fun h => eff_sub rfl (gd h rfl) rfl (by unfold I64; (try dsimp only); omega)) rfl ?_
    refine st_g rfl rfl rfl (gb_bool _ _) (fun h => eff_ixL rfl Tryz.underlying107 ty111 (gd h rfl) (gd h rfl) (ixO_nn (condT1 by10 h)) (Nat.lt_of_lt_of_eq (get_lt (ixO_get (condT1 by10 h))) ln7)) rfl ?_
    refine st_gr rfl rfl rfl (gb_bool _ _) (fun h => eff_ldEA (f := S110.c) (l := x6) (a := y10) rfl ty111 (gd h rfl) rfl (ixO_get (condT1 by10 h))) rfl ?_
    refine st_g rfl rfl rfl (gb_bool _ _) (fun h => eff_callf rfl ha3 Ka3 (gd h rfl) (Con.lend (Ha3 y9 y10 _ (condT1 br11 h))) (ag_cons (gd h rfl) (ag_cons (gd h rfl) ag_nil))) rfl ?_
    refine st_g rfl rfl rfl (gb_bool _ _) (fun h => eff_lss rfl (gd h rfl) rfl) rfl ?_
    refine st rfl rfl (eff_and rfl rfl rfl rfl) rfl ?_
    refine st_nil ?_
    refine aw_cond _ rfl (fun h3 => ?_) (fun h3 => ?_)
    ·replace h3 : ((decide (a1 < x5)) && (decide (r11 < 0))) = true := h3
     replace hR := condT hR h3
     try simp only [Bool.or_eq_true, Bool.and_eq_true, Bool.or_eq_false_iff, Bool.and_eq_false_iff, Bool.not_eq_true', Bool.not_eq_false', decide_eq_true_eq, decide_eq_false_iff_not] at h3
     refine aw_skip ?_
     refine aw_seq ?_
     refine aw_block ?_
     obtain ⟨y12, by12, hR⟩ := bindO_inv hR
     obtain ⟨y13, by13, hR⟩ := bindO_inv hR
     obtain ⟨y14, by14, hR⟩ := bindO_inv hR
     obtain ⟨y15, by15, hR⟩ := bindO_inv hR
     refine aw_draw [.p, .p, .p, .p, .p, .p, .p, .p, .p, .r, .p, .p, .p, .r, .p, .w, .p, .w] (by kernel_rfl) ?_
     refine st rfl rfl (eff_moveO rfl rfl) rfl ?_
     refine st rfl rfl (eff_moveg rfl rfl) rfl ?_
     refine st rfl rfl (eff_moveO rfl rfl) rfl ?_
     refine st rfl rfl (eff_moveg rfl rfl) rfl ?_
     refine st rfl rfl (eff_sub rfl rfl rfl (by unfold I64; (try dsimp only); omega)) rfl ?_
     refine st rfl rfl (eff_moveO rfl rfl) rfl ?_
     refine st rfl rfl (eff_moveg rfl rfl) rfl ?_
     refine st rfl rfl (eff_sub rfl rfl rfl (by unfold I64; (try dsimp only); omega)) rfl ?_
     refine st rfl rfl (eff_ixL rfl Tryz.underlying107 ty111 rfl rfl (ixO_nn by12) (Nat.lt_of_lt_of_eq (get_lt (ixO_get by12)) ln7)) rfl ?_
     refine st_r rfl rfl (eff_ldEA (f := S110.c) (l := x6) (a := y12) rfl ty111 rfl rfl (ixO_get by12)) rfl ?_
     refine st rfl rfl (eff_moveO rfl rfl) rfl ?_
     refine st rfl rfl (eff_moveg rfl rfl) rfl ?_
     refine st rfl rfl (eff_ixL rfl Tryz.underlying107 ty111 rfl rfl (ixO_nn by13) (Nat.lt_of_lt_of_eq (get_lt (ixO_get by13)) ln7)) rfl ?_
     refine st_r rfl rfl (eff_ldEA (f := S110.c) (l := x6) (a := y13) rfl ty111 rfl rfl (ixO_get by13)) rfl ?_
     refine st rfl rfl (eff_ixL rfl Tryz.underlying107 ty111 rfl rfl (ixO_nn by14) (Nat.lt_of_lt_of_eq (get_lt (ixO_get by14)) ln7)) rfl ?_
     refine st_wn rfl rfl (eff_setL (f := S110.c) (l := x6) (a' := y12) rfl ty111 rfl rfl rfl (Nat.lt_of_lt_of_eq (Nat.lt_of_lt_of_eq (get_lt (ixO_get by14)) ln7) (Eq.symm ln7)) rfl (fun _ => rfl)) ?_
     refine st rfl rfl (eff_ixL rfl Tryz.underlying107 ty111 rfl rfl (ixO_nn by15) (Nat.lt_of_lt_of_eq (get_lt (ixO_get by15)) ((List.length_set ..).trans ln7))) rfl ?_
     refine st_wn rfl rfl (eff_setL (f := S110.c) (l := List.set x6 (Int.toNat x5) y12) (a' := y13) rfl ty111 rfl rfl rfl (Nat.lt_of_lt_of_eq (Nat.lt_of_lt_of_eq (get_lt (ixO_get by15)) ((List.length_set ..).trans ln7)) (Eq.symm ((List.length_set ..).trans ln7))) rfl (fun _ => rfl)) ?_
     refine st_nil ?_
     refine aw_region [.p, .p, .p] ?_
     refine st rfl rfl (eff_moveg rfl rfl) rfl ?_
     refine st rfl rfl (eff_sub rfl rfl rfl (by unfold I64; (try dsimp only); omega)) rfl ?_
     refine st rfl rfl (eff_assigng rfl rfl) rfl ?_
     refine st_nil ?_
     exact ⟨rfl, (k8, x5 - 1, List.set (List.set x6 (Int.toNat x5) y12) (Int.toNat (x5 - 1)) y13), ⟨(by simp only [List.length_set]; rfl), rfl, rfl, rfl, rfl, rfl, trivial⟩, ⟨rfl, trivial⟩, rfl, ⟨(by first | omega | (dsimp only; omega) | (simp at *; omega)), (by first | omega | (dsimp only; omega) | (simp at *; omega)), (by first | omega | (dsimp only; omega) | (simp at *; omega)), ((List.length_set ..).trans ((List.length_set ..).trans ln7)), hR⟩, by simp⟩
    ·replace h3 : ((decide (a1 < x5)) && (decide (r11 < 0))) = false := h3
     replace hR := condF hR h3
     try simp only [Bool.or_eq_true, Bool.and_eq_true, Bool.or_eq_false_iff, Bool.and_eq_false_iff, Bool.not_eq_true', Bool.not_eq_false', decide_eq_true_eq, decide_eq_false_iff_not] at h3
     refine aw_exit ?_
     refine aw_region [.p, .p, .p] ?_
     refine st rfl rfl (eff_moveg rfl rfl) rfl ?_
     refine st rfl rfl (eff_add rfl rfl rfl (by (try dsimp only); unfold I64; omega)) rfl ?_
     refine st rfl rfl (eff_assigng rfl rfl) rfl ?_
     refine st_nil ?_
     exact ⟨rfl, (k4, x1 + 1, x6), ⟨rfl, rfl, rfl, rfl, rfl, trivial⟩, ⟨rfl, trivial⟩, rfl, ⟨(by first | omega | (dsimp only; omega) | (simp at *; omega)), (by first | omega | (dsimp only; omega) | (simp at *; omega)), ln7, hR⟩, by simp⟩
  ·replace h1 : (decide (x1 < a2)) = false := h1
   replace h1 := decF h1
   obtain rfl : k4 = 0 := by omega
   rw [s210_l1] at hR
   refine aw_exit ?_
   obtain rfl := Option.some.inj hR
   show ResOk _ _ _ _ ∧ MemL _ _
   exact ⟨res0 rfl, ⟨rfl, trivial⟩⟩
end Go.Sim

set_option linter.unusedVariables false
namespace Go.Sim
theorem len210_l2 (rec1 : Int → List S110 → Option (List S110)) (hrec : ∀ x l r, rec1 x l = some r → r.length = l.length) (a1 : Int) (a3 : S110 → S110 → Option Int) (x1 : Int) : ∀ (k : Nat) (x : Int) (l r : List S110), s210_l2 rec1 a1 a3 x1 k x l = some r → r.length = l.length
  | 0, _, _, _, h => by rw [s210_l2] at h; cases h
  | k + 1, x, l, r, h => by
    rw [s210_l2] at h
    obtain ⟨y1, _, h⟩ := bindO_inv h
    obtain ⟨y2, _, h⟩ := bindO_inv h
    obtain ⟨y3, _, h⟩ := bindO_inv h
    cases hc : (decide (a1 < x) && decide (y3 < 0)) with
    | true =>
      have h := condT h hc
      obtain ⟨y4, _, h⟩ := bindO_inv h
      obtain ⟨y5, _, h⟩ := bindO_inv h
      obtain ⟨y6, _, h⟩ := bindO_inv h
      obtain ⟨y7, _, h⟩ := bindO_inv h
      have := len210_l2 rec1 hrec a1 a3 x1 k _ _ _ h
      simpa using this
    | false => exact hrec _ _ _ (condF h hc)
theorem len210_l1 (a1 : Int) (a3 : S110 → S110 → Option Int) : ∀ (k : Nat) (x : Int) (l r : List S110), s210_l1 a1 a3 k x l = some r → r.length = l.length
  | 0, _, _, _, h => by rw [s210_l1] at h; cases h; rfl
  | k + 1, x, l, r, h => by
    rw [s210_l1] at h
    exact len210_l2 _ (fun x l r h => len210_l1 a1 a3 k x l r h) a1 a3 x _ _ _ _ h
theorem len210 {a0 : List S110} {a1 a2 : Int} {a3 : S110 → S110 → Option Int} {R : List S110} (h : s210 a0 a1 a2 a3 = some R) : R.length = a0.length := len210_l1 _ _ _ _ _ _ h
end Go.Sim

set_option linter.unusedSimpArgs false
set_option linter.unusedVariables false
set_option maxRecDepth 10000
namespace Go.Sim
open Go.Proofs


/-- slices.pdqsortCmpFunc[use.Row] -/
def s181_l1 (a0 : List S110) (a4 : S110 → S110 → Option Int) : Nat → Int → Int → Int → Bool → Bool → Option (List S110)
 | 0, _, _, _, _, _ => none
 | k6 + 1, x1, x2, x3, x4, x5 => bindO (s210 a0 x1 x2 a4) fun r7 => some r7
def s181 (a0 : List S110) (a1 : Int) (a2 : Int) (a3 : Int) (a4 : S110 → S110 → Option Int) : Option (List S110) :=
 s181_l1 a0 a4 ((0) + 1) a1 a2 a3 true true
theorem c181 {g : List (Nat × List Value)} (a0 : List S110) (a1 : Int) (a2 : Int) (a3 : Int) (a4 : S110 → S110 → Option Int) {R : List S110} {N0 : Nat} (hN0 : List.length a0 = N0) {ca4 : G} {ia4 : FuncId} {ka4 : List G} (ha4 : FnIs ca4 ia4 ka4) (Ka4 : Known Tryz.prog ia4) (Ha4 : ∀ (x0 : S110) (x1 : S110) (r : Int), a4 x0 x1 = some r → Con (EG g) ia4 ([G.agg [G.str x0.Name, G.int x0.Ratio.Flown, G.int x0.Ratio.Due, G.bool x0.Kept], G.agg [G.str x1.Name, G.int x1.Ratio.Flown, G.int x1.Ratio.Due, G.bool x1.Kept]] ++ ka4) (G.int r)) (hA : 0 ≤ a1) (hA2 : a1 ≤ 12) (hB0 : 0 ≤ a2) (hB : a2 ≤ 12) (hR : s181 a0 a1 a2 a3 a4 = some R) : ConB (EG g) 181 [.osl 0 4 0 N0, .g (G.int a1), .g (G.int a2), .g (G.int a3), .g (ca4)] [(0, .arr 111 4 (List.map S110.c a0))] (G.tup []) [(0, .arr 111 4 (List.map S110.c R))] := by
 unfold s181 at hR
 refine conB_of_aw Tryz.func181 rfl rfl rfl fun w0 M0 x => ?_
 refine len_osl (f := S110.c) (l := a0) 0 rfl fun hla0 => ?_
 refine aw_seq ?_
 refine aw_region [.p] ?_
 refine st rfl rfl (eff_assigng rfl rfl) rfl ?_
 refine st_nil ?_
 refine aw_seq ?_
 refine aw_region [.p] ?_
 refine st rfl rfl (eff_assigng rfl rfl) rfl ?_
 refine st_nil ?_
 refine aw_block ?_
 refine aw_loop_g (γ := Nat × Int × Int × Int × Bool × Bool) (fun g => ([(0, .osl 0 4 0 (N0)), (1, .g (G.int g.2.1)), (2, .g (G.int g.2.2.1)), (3, .g (G.int g.2.2.2.1)), (4, .g (ca4)), (10, .g (G.bool g.2.2.2.2.1)), (11, .g (G.bool g.2.2.2.2.2))], [(0, .arr 111 4 (List.map S110.c a0))])) (fun g => 0 < g.1 ∧ 0 ≤ g.2.1 ∧ g.2.1 ≤ 12 ∧ 0 ≤ g.2.2.1 ∧ g.2.2.1 ≤ 12 ∧ s181_l1 a0 a4 g.1 g.2.1 g.2.2.1 g.2.2.2.1 g.2.2.2.2.1 g.2.2.2.2.2 = some R) (fun g => g.1) ⟨rfl, ((0) + 1, a1, a2, a3, true, true), ⟨rfl, rfl, rfl, rfl, rfl, rfl, rfl, trivial⟩, ⟨rfl, trivial⟩, rfl, ⟨Nat.lt_succ_self _, (by first | omega | (dsimp only; omega) | simp), (by first | omega | (dsimp only; omega) | simp), (by first | omega | (dsimp only; omega) | simp), (by first | omega | (dsimp only; omega) | simp), hR⟩, trivial⟩ ?_
 ·rintro ⟨k6, x1, x2, x3, x4, x5⟩ ⟨hk1, iv1_0, iv1_1, iv1_2, iv1_3, hR⟩
  replace hk1 : 0 < k6 := hk1
  replace hR : s181_l1 a0 a4 k6 x1 x2 x3 x4 x5 = some R := hR
  replace iv1_0 : 0 ≤ x1 := iv1_0
  replace iv1_1 : x1 ≤ 12 := iv1_1
  replace iv1_2 : 0 ≤ x2 := iv1_2
  replace iv1_3 : x2 ≤ 12 := iv1_3
  obtain ⟨k6, rfl⟩ : ∃ m, k6 = m + 1 := ⟨k6 - 1, by omega⟩
  rw [s181_l1] at hR
  try dsimp only at hR
  refine aw_block ?_
  refine aw_seq ?_
  refine aw_region [.p, .p, .p, .p] ?_
  refine st rfl rfl (eff_moveg rfl rfl) rfl ?_
  refine st rfl rfl (eff_moveg rfl rfl) rfl ?_
  refine st rfl rfl (eff_sub rfl rfl rfl (by unfold I64; (try dsimp only); omega)) rfl ?_
  refine st rfl rfl (eff_assigng rfl rfl) rfl ?_
  refine st_nil ?_
  refine aw_seq ?_
  refine aw_seq ?_
  refine aw_region [.p, .p] ?_
  refine st rfl rfl (eff_moveg rfl rfl) rfl ?_
  refine st rfl rfl (eff_leq rfl rfl rfl) rfl ?_
  refine st_nil ?_
  refine aw_cond _ rfl (fun h1 => ?_) (fun h1 => ?_)
  ·replace h1 : (decide (x2 - x1 ≤ 12)) = true := h1
   try simp only [decide_eq_true_eq] at h1
   refine aw_seq ?_
   obtain ⟨r7, br7, hR⟩ := bindO_inv hR
   refine aw_region [.p, .p, .p, .p, .w] ?_
   refine st rfl rfl (eff_moveO rfl rfl) rfl ?_
   refine st rfl rfl (eff_moveg rfl rfl) rfl ?_
   refine st rfl rfl (eff_moveg rfl rfl) rfl ?_
   refine st rfl rfl (eff_moveg rfl rfl) rfl ?_
   refine st_w rfl rfl (eff_callB1 0 0 rfl K210 rfl (ConB.lend (c210 a0 x1 x2 a4 hN0 ha4 Ka4 Ha4 (by first | assumption | omega | (simp [copyL_len]; omega)) (by first | assumption | omega | (simp [copyL_len]; omega)) (by first | assumption | omega | (simp [copyL_len]; omega)) br7)) (at_cons rfl rfl (at_cons rfl rfl (at_cons rfl rfl (at_cons rfl rfl at_nil)))) rfl rfl rfl) rfl ?_
   refine st_nil ?_
   refine aw_ret ?_
   obtain rfl := Option.some.inj hR
   show ResOk _ _ _ _ ∧ MemL _ _
   exact ⟨res0 rfl, ⟨rfl, trivial⟩⟩
  ·try simp only [Bool.or_eq_true, Bool.and_eq_true, Bool.or_eq_false_iff, Bool.and_eq_false_iff, Bool.not_eq_true', Bool.not_eq_false', decide_eq_true_eq, decide_eq_false_iff_not] at h1
   exfalso; omega
end Go.Sim

set_option linter.unusedVariables false
namespace Go.Sim
theorem len181 {a0 : List S110} {a1 a2 a3 : Int} {a4 : S110 → S110 → Option Int} {R : List S110} (h : s181 a0 a1 a2 a3 a4 = some R) : R.length = a0.length := by
  unfold s181 at h
  rw [s181_l1] at h
  obtain ⟨y1, h1, h⟩ := bindO_inv h
  cases h
  exact len210 h1
end Go.Sim

set_option linter.unusedSimpArgs false
set_option linter.unusedVariables false
set_option maxRecDepth 10000
namespace Go.Sim
open Go.Proofs


/-- slices.SortFunc[[]use.Row,use.Row] -/
def s131 (a0 : List S110) (a1 : S110 → S110 → Option Int) : Option (List S110) :=
 bindO (s181 a0 0 (List.length a0 : Int) (lenU (List.length a0 : Int)) a1) fun r1 => some r1
theorem c131 (a0 : List S110) (a1 : S110 → S110 → Option Int) {R : List S110} {N0 : Nat} (hN0 : List.length a0 = N0) {ca1 : G} {ia1 : FuncId} {ka1 : List G} (ha1 : FnIs ca1 ia1 ka1) (Ka1 : Known Tryz.prog ia1) (Ha1 : ∀ (x0 : S110) (x1 : S110) (r : Int), a1 x0 x1 = some r → Con (EG glT) ia1 ([G.agg [G.str x0.Name, G.int x0.Ratio.Flown, G.int x0.Ratio.Due, G.bool x0.Kept], G.agg [G.str x1.Name, G.int x1.Ratio.Flown, G.int x1.Ratio.Due, G.bool x1.Kept]] ++ ka1) (G.int r)) (hB : (List.length a0 : Int) ≤ 12) (hR : s131 a0 a1 = some R) : ConB (EG glT) 131 [.osl 0 4 0 N0, .g (ca1)] [(0, .arr 111 4 (List.map S110.c a0))] (G.tup []) [(0, .arr 111 4 (List.map S110.c R))] := by
 unfold s131 at hR
 refine conB_of_aw Tryz.func131 rfl rfl rfl fun w0 M0 x => ?_
 refine len_osl (f := S110.c) (l := a0) 0 rfl fun hla0 => ?_
 refine aw_seq ?_
 refine aw_region [.p, .p, .p] ?_
 refine st rfl rfl (eff_moveO rfl rfl) rfl ?_
 refine st rfl rfl (eff_lenON hN0 rfl Tryz.underlying107 rfl) rfl ?_
 refine st rfl rfl (eff_assigng rfl rfl) rfl ?_
 refine st_nil ?_
 obtain ⟨r1, br1, hR⟩ := bindO_inv hR
 refine aw_region [.p, .p, .p, .p, .p, .p, .w] ?_
 refine st rfl rfl (eff_moveO rfl rfl) rfl ?_
 refine st rfl rfl (eff_moveg rfl rfl) rfl ?_
 refine st rfl rfl (eff_moveg rfl rfl) rfl ?_
 refine st rfl rfl (eff_conv rfl Tryz.underlying3 Tryz.underlying257 rfl) rfl ?_
 refine st rfl rfl (eff_call rfl K182 rfl (Con.lend (c182w (List.length a0 : Int) (by omega))) (ag_cons rfl ag_nil)) rfl ?_
 refine st rfl rfl (eff_moveg rfl rfl) rfl ?_
 refine st_w rfl rfl (eff_callB1 0 0 rfl K181 rfl (ConB.lend (c181 a0 0 (List.length a0 : Int) (lenU (List.length a0 : Int)) a1 hN0 ha1 Ka1 Ha1 (by first | assumption | omega | (simp [copyL_len]; omega)) (by first | assumption | omega | (simp [copyL_len]; omega)) (by first | assumption | omega | (simp [copyL_len]; omega)) (by first | assumption | omega | (simp [copyL_len]; omega)) br1)) (at_cons rfl rfl (at_cons rfl rfl (at_cons rfl rfl (at_cons rfl rfl (at_cons rfl rfl at_nil))))) rfl rfl rfl) rfl ?_
 refine st_nil ?_
 obtain rfl := Option.some.inj hR
 show ResOk _ _ _ _ ∧ MemL _ _
 exact ⟨res0 rfl, ⟨rfl, trivial⟩⟩
end Go.Sim

set_option linter.unusedVariables false
namespace Go.Sim
theorem len131 {a0 : List S110} {a1 : S110 → S110 → Option Int} {R : List S110} (h : s131 a0 a1 = some R) : R.length = a0.length := by
  unfold s131 at h
  obtain ⟨y1, h1, h⟩ := bindO_inv h
  cases h
  exact len181 h1
end Go.Sim

set_option linter.unusedSimpArgs false
set_option linter.unusedVariables false
set_option maxRecDepth 10000
namespace Go.Sim
open Go.Proofs


/-- use.Table -/
def s63_b2 (a0 : S23) (g : (List S110)) (y10 : ByteArray × S55) : (List S110) :=
 g ++ [(S110.mk y10.1 (S55.mk y10.2.Flown y10.2.Due) (s106 a0 y10.2))]
def s63_e2  (g : (List S110)) : Option ((List S110) × Int) :=
 bindO (s131 g (fun x0_ x1_ => some (s132 x0_ x1_))) fun r11 => some (r11, 0)
def s63_l1 (a0 : S23) (a1 : List S151) : List Int → Nat → (List (ByteArray × S55)) → Option ((List S110) × Int)
 | [], k4, x3 => s63_e2 (List.foldl (s63_b2 a0) [] x3)
 | y5 :: t6, k4, x3 => bindO (ixO a1 ((k4 : Nat) : Int)) fun y12 => bindO (ixO a1 ((k4 : Nat) : Int)) fun y13 => s63_l1 a0 a1 t6 (k4 + 1) (mset x3 y13.Name (s126 (mgetD x3 y12.Name (S55.mk 0 0)) y5))
def s63 (a0 : S23) (a1 : List S151) (a2 : List S104) : Option ((List S110) × Int) :=
 (bif decide ((s122 a0 a1 a2) ≠ 0) then some ([], (s122 a0 a1 a2)) else bindO (s124 a0 a1 a2) fun r1 => s63_l1 a0 a1 r1 0 [])
theorem c63 (a0 : S23) (a1 : List S151) (a2 : List S104) {R : (List S110) × Int}  (hb : ¬ s122 a0 a1 a2 ≠ 0 → a1.length ≤ 12 ∧ a2.length ≤ 12) (hc1 : a1.length * 40 ≤ 140737488351232) (hc2 : a2.length * 96 ≤ 140737488351232) (hpm2 : ∀ (a0 : S23) (l_ m_ : List (ByteArray × S55)), (m_.map Prod.fst).Nodup → l_.Perm m_ → s63_e2 (List.foldl (s63_b2 a0) [] l_) = s63_e2 (List.foldl (s63_b2 a0) [] m_)) (hR : s63 a0 a1 a2 = some R) : Con (EG glT) 63 [G.agg [G.int a0.Before, G.int a0.After, G.int a0.Notice, G.int a0.Share, G.sl 1 (List.map cStr a0.Causes), G.int a0.Off, G.int a0.Run], G.sl 3 (List.map S151.c a1), G.sl 8 (List.map S104.c a2)] (G.tup [G.sl 4 (List.map S110.c R.1), G.int R.2]) := by
 unfold s63 at hR
 refine con_of_aw Tryz.func63 rfl rfl fun w0 M0 => ?_
 refine len_sl (f := S151.c) (l := a1) 1 rfl fun hla1 => ?_
 refine len_sl (f := S104.c) (l := a2) 2 rfl fun hla2 => ?_
 refine aw_seq ?_
 refine aw_region [.p, .p, .p] ?_
 refine st rfl rfl (eff_box rfl rfl) rfl ?_
 refine st rfl rfl (eff_assigng rfl rfl) rfl ?_
 refine st rfl rfl (eff_assigng rfl rfl) rfl ?_
 refine st_nil ?_
 refine aw_seq ?_
 refine aw_seq ?_
 refine aw_region [.p, .p, .p, .p, .p] ?_
 refine st rfl rfl (eff_loadA rfl ty24 rfl rfl rfl) rfl ?_
 refine st rfl rfl (eff_moveg rfl rfl) rfl ?_
 refine st rfl rfl (eff_moveg rfl rfl) rfl ?_
 refine st rfl rfl (eff_call rfl K122 rfl (c122 a0 a1 a2 (by first | assumption | omega | (simp [copyL_len]; omega)) (by first | assumption | omega | (simp [copyL_len]; omega))) (ag_cons rfl (ag_cons rfl (ag_cons rfl ag_nil)))) rfl ?_
 refine st rfl rfl (eff_assigng rfl rfl) rfl ?_
 refine st_nil ?_
 refine aw_seq ?_
 refine aw_region [.p, .p] ?_
 refine st rfl rfl (eff_moveg rfl rfl) rfl ?_
 refine st rfl rfl (eff_neq rfl rfl rfl) rfl ?_
 refine st_nil ?_
 refine aw_cond _ rfl (fun h1 => ?_) (fun h1 => ?_)
 ·replace h1 : (decide ((s122 a0 a1 a2) ≠ 0)) = true := h1
  replace hR := condT hR h1
  try simp only [decide_eq_true_eq] at h1
  refine aw_seq ?_
  refine aw_region [.p, .p, .p] ?_
  refine st rfl rfl (eff_moveg rfl rfl) rfl ?_
  refine st rfl rfl (eff_assigng rfl rfl) rfl ?_
  refine st rfl rfl (eff_assigng rfl rfl) rfl ?_
  refine st_nil ?_
  refine aw_ret ?_
  obtain rfl := Option.some.inj hR
  exact resN rfl ⟨rv_nilG rfl (nil_sl _), rv_g rfl, trivial⟩ (by simp)
 ·replace h1 : (decide ((s122 a0 a1 a2) ≠ 0)) = false := h1
  replace hR := condF hR h1
  try simp only [decide_eq_false_iff_not] at h1
  obtain ⟨hb1, hb2⟩ := hb h1
  refine aw_skip ?_
  refine aw_seq ?_
  refine aw_region [.w, .p] ?_
  refine st_w rfl rfl (eff_makeMap 23 rfl rfl) rfl ?_
  refine st rfl rfl (eff_assignM rfl rfl) rfl ?_
  refine st_nil ?_
  refine aw_seq ?_
  refine aw_seq ?_
  obtain ⟨r1, br1, hR⟩ := bindO_inv hR
  refine aw_region [.p, .p, .p, .p, .p, .p] ?_
  refine st rfl rfl (eff_loadA rfl ty24 rfl rfl rfl) rfl ?_
  refine st rfl rfl (eff_moveg rfl rfl) rfl ?_
  refine st rfl rfl (eff_moveg rfl rfl) rfl ?_
  refine st rfl rfl (eff_call rfl K124 rfl (c124 a0 a1 a2 (by first | assumption | omega | (simp [copyL_len]; omega)) (by first | assumption | omega | (simp [copyL_len]; omega)) br1) (ag_cons rfl (ag_cons rfl (ag_cons rfl ag_nil)))) rfl ?_
  refine st rfl rfl (eff_lenM (f := cInt) (l := r1) rfl Tryz.underlying82 rfl) rfl ?_
  refine st rfl rfl (eff_moveg rfl rfl) rfl ?_
  refine st_nil ?_
  have hl124 := len124 br1
  refine aw_block ?_
  refine aw_loop_g (γ := Nat × (List Int) × (List (ByteArray × S55))) (fun g => ([(1, .g (G.sl 3 (List.map S151.c a1))), (3, .g (G.ref [G.int a0.Before, G.int a0.After, G.int a0.Notice, G.int a0.Share, G.sl 1 (List.map cStr a0.Causes), G.int a0.Off, G.int a0.Run])), (9, .omap 23), (27, .g (G.sl 1 (List.map cInt r1))), (28, .g (G.int (List.length r1 : Int))), (29, .g (G.int ((g.1 : Nat) : Int)))], [(23, mpB (K := ByteArray) (V := S55) (Value.string) (fun (v : S55) => G.agg [G.int v.Flown, G.int v.Due]) g.2.2)])) (fun g => g.2.2.length ≤ g.1 ∧ g.1 ≤ List.length r1 ∧ r1.drop g.1 = g.2.1 ∧ s63_l1 a0 a1 g.2.1 g.1 g.2.2 = some R) (fun g => List.length g.2.1) ⟨rfl, (0, r1, []), ⟨rfl, rfl, rfl, rfl, rfl, rfl, trivial⟩, ⟨rfl, trivial⟩, rfl, ⟨(by first | (simp; done) | (simp; omega)), (by first | (simp; done) | (simp; omega)), rfl, hR⟩, trivial⟩ ?_
  ·rintro ⟨k4, t6, x3⟩ ⟨iv1_0, iv1_1, hd, hR⟩
   replace hd : r1.drop k4 = t6 := hd
   replace hR : s63_l1 a0 a1 t6 k4 x3 = some R := hR
   replace iv1_0 : x3.length ≤ k4 := iv1_0
   replace iv1_1 : k4 ≤ List.length r1 := iv1_1
   refine aw_seq ?_
   refine aw_region [.p] ?_
   refine st rfl rfl (eff_lss rfl rfl rfl) rfl ?_
   refine st_nil ?_
   refine len_sl (f := cInt) (l := r1) 27 rfl fun hlz1 => ?_
   refine aw_seq ?_
   refine aw_cond _ rfl (fun h2 => ?_) (fun h2 => ?_)
   ·replace h2 : (decide (((k4 : Nat) : Int) < (List.length r1 : Int))) = true := h2
    obtain ⟨y5, t6, rfl, hx1, hd⟩ := drop_cons hd (decT h2)
    replace h2 := decT h2
    rw [s63_l1] at hR
    try dsimp only at hR
    refine aw_skip ?_
    refine aw_seq ?_
    refine aw_block ?_
    refine aw_seq ?_
    refine aw_region [.p, .p, .p, .p, .p] ?_
    refine st rfl rfl (eff_moveg rfl rfl) rfl ?_
    refine st rfl rfl (eff_ix (f := cInt) (l := r1) (a := y5) rfl Tryz.underlying82 ty3 rfl rfl (Int.natCast_nonneg _) hx1) rfl ?_
    refine st rfl rfl (eff_load rfl ty3 rfl) rfl ?_
    refine st rfl rfl (eff_assigng rfl rfl) rfl ?_
    refine st rfl rfl (eff_assigng rfl rfl) rfl ?_
    refine st_nil ?_
    refine aw_seq ?_
    obtain ⟨y12, by12, hR⟩ := bindO_inv hR
    refine aw_region [.p, .p, .p, .p, .p, .p, .r, .w, .w] ?_
    refine st rfl rfl (eff_moveM rfl rfl) rfl ?_
    refine st rfl rfl (eff_moveg rfl rfl) rfl ?_
    refine st rfl rfl (eff_moveg rfl rfl) rfl ?_
    refine st rfl rfl (eff_ix (f := S151.c) (l := a1) (a := y12) rfl Tryz.underlying25 ty152 rfl rfl (ixO_nn by12) (ixO_get by12)) rfl ?_
    refine st rfl rfl (eff_fieldAddr rfl fl152_0 rfl) rfl ?_
    refine st rfl rfl (eff_load rfl ty9 rfl) rfl ?_
    refine st_r rfl rfl (eff_lookup (kf := Value.string) (vf := (fun (v : S55) => G.agg [G.int v.Flown, G.int v.Due])) (m := x3) (k := y12.Name) (z := (S55.mk 0 0)) rfl Tryz.underlying205 Tryz.underlying9 zr56 (fun _ _ => ⟨_, rfl, ⟨⟨rfl, rfl⟩, ⟨⟨rfl, rfl⟩, trivial⟩⟩⟩) rfl rfl rfl) rfl ?_
    refine st_w rfl rfl (eff_alloc 12 rfl z56 rfl rfl) rfl ?_
    refine st_wn rfl rfl (eff_store (tv := .g (G.agg [G.int ((mgetD x3 y12.Name (S55.mk 0 0)).Flown), G.int ((mgetD x3 y12.Name (S55.mk 0 0)).Due)])) rfl ty56 rfl rfl rfl rfl rfl) ?_
    refine st_nil ?_
    refine aw_seq ?_
    refine aw_region [.p, .w] ?_
    refine st rfl rfl (eff_moveg rfl rfl) rfl ?_
    refine st_w rfl rfl (eff_callB1 0 12 rfl K126 rfl (c126 (mgetD x3 y12.Name (S55.mk 0 0)) y5) (at_cons rfl rfl (at_cons rfl rfl at_nil)) rfl rfl rfl) rfl ?_
    refine st_nil ?_
    obtain ⟨y13, by13, hR⟩ := bindO_inv hR
    refine aw_draw [.p, .p, .p, .p, .p, .p, .r, .w] (by kernel_rfl) ?_
    refine st rfl rfl (eff_moveM rfl rfl) rfl ?_
    refine st rfl rfl (eff_moveg rfl rfl) rfl ?_
    refine st rfl rfl (eff_moveg rfl rfl) rfl ?_
    refine st rfl rfl (eff_ix (f := S151.c) (l := a1) (a := y13) rfl Tryz.underlying25 ty152 rfl rfl (ixO_nn by13) (ixO_get by13)) rfl ?_
    refine st rfl rfl (eff_fieldAddr rfl fl152_0 rfl) rfl ?_
    refine st rfl rfl (eff_load rfl ty9 rfl) rfl ?_
    refine st_r rfl rfl (eff_loadOA rfl ty56 rfl rfl rfl rfl) rfl ?_
    refine st_wn rfl rfl (eff_update (kf := Value.string) (vf := (fun (v : S55) => G.agg [G.int v.Flown, G.int v.Due])) (m := x3) (k := y13.Name) (v := (s126 (mgetD x3 y12.Name (S55.mk 0 0)) y5)) (ins := false) rfl Tryz.underlying205 Tryz.underlying9 rfl rfl rfl rfl) ?_
    refine st_nil ?_
    refine aw_region [.p, .p] ?_
    refine st rfl rfl (eff_add rfl rfl rfl (by unfold I64; omega)) rfl ?_
    refine st rfl rfl (eff_moveg rfl rfl) rfl ?_
    refine st_nil ?_
    exact ⟨rfl, (k4 + 1, t6, mset x3 y13.Name (s126 (mgetD x3 y12.Name (S55.mk 0 0)) y5)), ⟨rfl, rfl, rfl, rfl, rfl, rfl, trivial⟩, ⟨rfl, trivial⟩, rfl, ⟨(Nat.le_trans (mset_len _ _ _) (Nat.succ_le_succ iv1_0)), (by omega), hd, hR⟩, by simp⟩
   ·replace h2 : (decide (((k4 : Nat) : Int) < (List.length r1 : Int))) = false := h2
    obtain rfl := drop_nil hd (decF h2)
    rw [s63_l1] at hR
    refine aw_exit ?_
    refine aw_seq ?_
    refine aw_region [.w] ?_
    refine st_w rfl rfl (eff_nilL 13 111 4 rfl rfl rfl) rfl ?_
    refine st_nil ?_
    refine aw_seq ?_
    refine aw_seq ?_
    refine aw_freeze (l := [(3, .g (G.ref [G.int a0.Before, G.int a0.After, G.int a0.Notice, G.int a0.Share, G.sl 1 (List.map cStr a0.Causes), G.int a0.Off, G.int a0.Run])), (9, .g (G.mpf (List.map (fun p => ((Value.string) p.1, ((fun (v : S55) => G.agg [G.int v.Flown, G.int v.Due])) p.2)) x3))), (13, .osl 13 4 0 0)]) (m := [(13, .arr 111 4 (List.map S110.c []))]) 23 rfl ⟨.inl ⟨rfl, rfl⟩, .inr frz_map, .inl ⟨rfl, rfl⟩, trivial⟩ ⟨rfl, trivial⟩ rfl rfl ?_
    refine aw_region [.p, .w] ?_
    refine st rfl rfl (eff_moveg rfl rfl) rfl ?_
    refine st_w rfl rfl (eff_rangeM 52 rfl Tryz.underlying205 rfl rfl) rfl ?_
    refine st_nil ?_
    refine aw_block ?_
    refine aw_loop_g (γ := (List Nat) × (List (ByteArray × S55)) × (List S110)) (fun g => ([(3, .g (G.ref [G.int a0.Before, G.int a0.After, G.int a0.Notice, G.int a0.Share, G.sl 1 (List.map cStr a0.Causes), G.int a0.Off, G.int a0.Run])), (13, .osl 13 4 0 (List.length g.2.2)), (52, .ptr 52 0)], [(13, .arr 111 4 (List.map S110.c g.2.2)), (52, .mit (List.map (fun p => ((Value.string) p.1, ((fun (v : S55) => G.agg [G.int v.Flown, G.int v.Due])) p.2)) x3) g.1)])) (fun g => MOrd x3 g.1 g.2.1 ∧ List.foldl (s63_b2 a0) [] g.2.1 = g.2.2 ∧ g.2.2.length ≤ g.2.1.length) (fun g => List.length x3 - List.length g.1) ⟨rfl, ([], [], []), ⟨rfl, rfl, rfl, trivial⟩, ⟨rfl, rfl, trivial⟩, rfl, ⟨mord_nil, rfl, (by simp)⟩, trivial⟩ ?_
    ·rintro ⟨sn8, l9, x7⟩ ⟨hmo_, hfd_, iv2_0⟩
     replace iv2_0 : x7.length ≤ l9.length := iv2_0
     replace hmo_ : MOrd x3 sn8 l9 := hmo_
     replace hfd_ : List.foldl (s63_b2 a0) [] l9 = x7 := hfd_
     have hml_ := hmo_.len
     refine aw_seq ?_
     refine aw_next (cs := [.p]) rfl rfl rfl rfl rfl rfl rfl (fun hal_ hnk_ => ?_) (fun jx_ kx_ gx_ hj_ hnx_ => ?_)
     ·refine st rfl rfl (eff_extract rfl rfl rfl) rfl ?_
      refine st_nil ?_
      refine aw_seq ?_
      have hpl_ := (hmo_.perm (mp_all (kf := Value.string) (vf := (fun (v : S55) => G.agg [G.int v.Flown, G.int v.Due])) (m := x3) hal_)).length_eq
      replace hR : s63_e2 (List.foldl (s63_b2 a0) [] x3) = some R := hR
      rw [← hpm2 a0 l9 x3 (mp_nodup (kf := Value.string) (vf := (fun (v : S55) => G.agg [G.int v.Flown, G.int v.Due])) (m := x3) hnk_) (hmo_.perm (mp_all (kf := Value.string) (vf := (fun (v : S55) => G.agg [G.int v.Flown, G.int v.Due])) (m := x3) hal_)), hfd_] at hR
      unfold s63_e2 at hR
      try dsimp only at hR
      refine aw_cond _ rfl (fun h4 => ?_) (fun h4 => ?_)
      ·exact Bool.noConfusion h4
      ·refine aw_exit ?_
       refine aw_seq ?_
       obtain ⟨r11, br11, hR⟩ := bindO_inv hR
       refine aw_region [.p, .w] ?_
       refine st rfl rfl (eff_moveO rfl rfl) rfl ?_
       refine st_w rfl rfl (eff_callB1 0 13 rfl K131 rfl (c131 x7 (fun x0_ x1_ => some (s132 x0_ x1_)) rfl fnis_lit K132 (fun x0_ x1_ r_ h_ => Option.some.inj h_ ▸ (fun x0 x1 => c132 x0 x1) x0_ x1_) (by first | assumption | omega | (simp [copyL_len]; omega)) br11) (at_cons rfl rfl (at_cons rfl rfl at_nil)) rfl rfl rfl) rfl ?_
       refine st_nil ?_
       refine aw_seq ?_
       refine aw_region [.p, .p, .p] ?_
       refine st rfl rfl (eff_moveO rfl rfl) rfl ?_
       refine st rfl rfl (eff_assignO rfl rfl) rfl ?_
       refine st rfl rfl (eff_assigng rfl rfl) rfl ?_
       refine st_nil ?_
       refine aw_ret ?_
       obtain rfl := Option.some.inj hR
       exact resN rfl ⟨rv_viewLN ((len131 br11).trans rfl) rfl rfl, rv_g rfl, trivial⟩ (by simp)
     ·obtain ⟨y10, hy_, rfl, rfl⟩ := mp_get (kf := Value.string) (vf := (fun (v : S55) => G.agg [G.int v.Flown, G.int v.Due])) (m := x3) hj_
      refine st rfl rfl (eff_extract rfl rfl rfl) rfl ?_
      refine st_nil ?_
      refine aw_seq ?_
      refine aw_cond _ rfl (fun h5 => ?_) (fun h5 => ?_)
      ·refine aw_skip ?_
       refine aw_block ?_
       refine aw_seq ?_
       refine aw_region [.r, .p, .p, .w, .p, .w] ?_
       refine st_r rfl rfl (eff_entryM rfl rfl rfl hj_) rfl ?_
       refine st rfl rfl (eff_extract rfl rfl rfl) rfl ?_
       refine st rfl rfl (eff_extract rfl rfl rfl) rfl ?_
       refine st_w rfl rfl (eff_alloc 15 rfl z56 rfl rfl) rfl ?_
       refine st rfl rfl (eff_assigng rfl rfl) rfl ?_
       refine st_wn rfl rfl (eff_store (tv := .g (G.agg [G.int y10.2.Flown, G.int y10.2.Due])) rfl ty56 rfl rfl rfl rfl rfl) ?_
       refine st_nil ?_
       refine aw_draw2 [.p, .pn 13, .r, .pn 13, .r, .pn 13, .pn 13, .pn 13, .kn 13, .p] (by kernel_rfl) ?_
       refine st rfl rfl (eff_moveO rfl rfl) rfl ?_
       refine st_pn rfl rfl (eff_moveg rfl rfl) rfl rfl rfl ?_
       refine st_r rfl rfl (eff_loadOA rfl ty56 rfl rfl rfl rfl) rfl ?_
       refine st_pn rfl rfl (eff_loadA rfl ty24 rfl rfl rfl) rfl rfl rfl ?_
       refine st_r rfl rfl (eff_loadOA rfl ty56 rfl rfl rfl rfl) rfl ?_
       refine st_pn rfl rfl (eff_call rfl K106 rfl (c106 a0 y10.2) (ag_cons rfl (ag_cons rfl ag_nil))) rfl rfl rfl ?_
       refine st_pn rfl rfl (eff_build rfl z111 rfl pl111 (pb_cons rfl (pb_cons rfl (pb_cons rfl pb_nil))) rfl) rfl rfl rfl ?_
       refine st_pn rfl rfl (eff_buildSlice rfl Tryz.underlying107 ty111 z111 rfl (ps_cons rfl ps_nil) rfl (by exact lens rfl) (by decide)) rfl rfl rfl ?_
       refine st_kn rfl rfl (eff_appL (f := S110.c) (out := x7) (new := [(S110.mk y10.1 (S55.mk y10.2.Flown y10.2.Due) (s106 a0 y10.2))]) rfl app107 rfl rfl (src_eq rfl (src_sl (by decide) (by simp [S110.c, S55.c]))) (refsN rfl) (by simp; omega)) rfl ?_
       refine st rfl rfl (eff_assignO rfl rfl) rfl ?_
       refine st_nil ?_
       exact ⟨rfl, (jx_ :: sn8, l9 ++ [y10], x7 ++ [(S110.mk y10.1 (S55.mk y10.2.Flown y10.2.Due) (s106 a0 y10.2))]), ⟨rfl, rfl, rfl, trivial⟩, ⟨rfl, rfl, trivial⟩, rfl, ⟨hmo_.snoc hy_ hnx_, (by rw [List.foldl_append, hfd_]; rfl), (by first | omega | (dsimp only; omega) | (simp at *; omega))⟩, (hmo_.snoc hy_ hnx_).dec⟩
      ·exact Bool.noConfusion h5
end Go.Sim

set_option linter.unusedVariables false
set_option linter.unusedSimpArgs false
namespace Go.Sim
theorem s210_l2_ok (rec1 : Int → List S110 → Option (List S110)) (cmp : S110 → S110 → Option Int) (lt : S110 → S110 → Bool) (x1 : Int) (x : S110) : ∀ (P B : List S110) (k : Nat), P.length < k → (∀ y ∈ P, ∃ c, cmp x y = some c ∧ decide (c < 0) = lt x y) →
    s210_l2 rec1 0 cmp x1 k (P.length : Int) (P.reverse ++ x :: B) = rec1 (x1 + 1) ((insB lt x P).reverse ++ B)
  | [], B, 0, h, _ => by omega
  | [], B, k + 1, h, _ => by
    rw [s210_l2]
    have e : decide ((0 : Int) < (([] : List S110).length : Int)) = false := by simp
    simp only [e, cond_false, bindO, Bool.false_and, insB]
    simp
  | y :: r, B, 0, h, _ => by omega
  | y :: r, B, k + 1, h, hc => by
    have e : decide ((0 : Int) < ((y :: r).length : Int)) = true := by simp <;> omega
    have l1 : (y :: r).reverse ++ x :: B = (r.reverse ++ [y]) ++ x :: B := by simp
    have l2 : (r.reverse ++ [y]) ++ x :: B = r.reverse ++ y :: (x :: B) := by simp
    have i1 : ixO ((r.reverse ++ [y]) ++ x :: B) ((y :: r).length : Int) = some x := ixO_app' (by simp)
    have i2 : ixO ((r.reverse ++ [y]) ++ x :: B) (((y :: r).length : Int) - 1) = some y := by rw [l2]; exact ixO_app' (by simp)
    obtain ⟨c, c1, c2⟩ := hc y List.mem_cons_self
    rw [s210_l2, l1]
    simp only [e, cond_true, i1, i2, bindO, c1, Bool.true_and, c2]
    cases hl : lt x y with
    | true =>
      have e1 : List.set ((r.reverse ++ [y]) ++ x :: B) (Int.toNat ((y :: r).length : Int)) y = (r.reverse ++ [y]) ++ y :: B := set_app (by simp)
      have e2 : List.set ((r.reverse ++ [y]) ++ y :: B) (Int.toNat (((y :: r).length : Int) - 1)) x = r.reverse ++ x :: (y :: B) := by
        rw [show (r.reverse ++ [y]) ++ y :: B = r.reverse ++ y :: (y :: B) by simp]
        exact set_app (by simp)
      have e3 : (((y :: r).length : Int) - 1) = (r.length : Int) := by simp
      have hih := s210_l2_ok rec1 cmp lt x1 x r (y :: B) k (by simp at h; omega) (fun z hz => hc z (List.mem_cons_of_mem _ hz))
      have i3 : ixO (List.set ((r.reverse ++ [y]) ++ x :: B) (Int.toNat ((y :: r).length : Int)) y) (((y :: r).length : Int) - 1) = some y := by
        rw [e1, show (r.reverse ++ [y]) ++ y :: B = r.reverse ++ y :: (y :: B) by simp]
        exact ixO_app' (by simp)
      rw [cond_true]
      simp only [i3]
      rw [e1, e2, e3, hih]
      simp [insB, hl]
    | false =>
      rw [cond_false]
      simp [insB, hl]
theorem s210_l1_ok (cmp : S110 → S110 → Option Int) (lt : S110 → S110 → Bool) : ∀ (l P : List S110), (∀ y ∈ P ++ l, ∀ x ∈ l, ∃ c, cmp x y = some c ∧ decide (c < 0) = lt x y) → s210_l1 0 cmp l.length (P.length : Int) (P.reverse ++ l) = some (insS lt P l)
  | [], P, _ => by rw [List.length_nil, s210_l1, insS, List.append_nil]
  | x :: l, P, h => by
    rw [List.length_cons, s210_l1, s210_l2_ok _ cmp lt _ x P l _ (by omega) (fun y hy => h y (List.mem_append_left _ hy) x List.mem_cons_self), insS]
    have := s210_l1_ok cmp lt l (insB lt x P) (fun y hy z hz => h y (by
      rcases List.mem_append.1 hy with hy | hy
      · rcases List.mem_cons.1 ((insB_perm lt x P).mem_iff.1 hy) with rfl | hy
        · simp
        · simp [hy]
      · simp [hy]) z (List.mem_cons_of_mem _ hz))
    rw [← this, insB_len]
    simp
theorem s210_ok {cmp : S110 → S110 → Option Int} {lt : S110 → S110 → Bool} {l : List S110} (h : ∀ y ∈ l, ∀ x ∈ l, ∃ c, cmp x y = some c ∧ decide (c < 0) = lt x y) : s210 l 0 (l.length : Int) cmp = some (isort lt l) := by
  unfold s210 isort
  cases l with
  | nil => rfl
  | cons x l =>
    have e : ((((x :: l).length : Int) - (0 + 1)).toNat) = l.length := by simp
    rw [e, insS]
    exact s210_l1_ok cmp lt l [x] (fun y hy z hz => h y hy z (List.mem_cons_of_mem _ hz))
theorem s131_ok {cmp : S110 → S110 → Option Int} {lt : S110 → S110 → Bool} {l : List S110} (h : ∀ y ∈ l, ∀ x ∈ l, ∃ c, cmp x y = some c ∧ decide (c < 0) = lt x y) : s131 l cmp = some (isort lt l) := by
  unfold s131 s181
  rw [s181_l1, s210_ok h]
  simp only [bindO]
end Go.Sim

namespace Go.Sim
/-! ## the rows of the table, whatever the order of the map -/
def ltR (a b : S110) : Bool := strLt a.Name b.Name
theorem s132_lt (a b : S110) : decide (s132 a b < 0) = ltR a b := by
  unfold s132 ltR
  rw [s133_eq]
  cases h : strLt a.Name b.Name
  · by_cases h2 : a.Name = b.Name <;> simp [h2]
  · rfl
def rowOf (a0 : S23) (y : ByteArray × S55) : S110 := S110.mk y.1 (S55.mk y.2.Flown y.2.Due) (s106 a0 y.2)
theorem b2_map (a0 : S23) : ∀ (l : List (ByteArray × S55)) (g : List S110), List.foldl (s63_b2 a0) g l = g ++ l.map (rowOf a0)
  | [], g => by simp
  | y :: l, g => by rw [List.foldl_cons, b2_map a0 l]; simp [s63_b2, rowOf]
theorem e2_eq (g : List S110) : s63_e2 g = some (isort ltR g, 0) := by
  unfold s63_e2
  rw [s131_ok (lt := ltR) (fun y _ x _ => ⟨_, rfl, s132_lt x y⟩)]
  rfl
def RelR (a b : S110) : Prop := strLt b.Name a.Name = false
theorem RelR.tr (a b c : S110) (h : RelR a b) (k : RelR b c) : RelR a c := by
  unfold RelR at *
  cases hc : strLt c.Name a.Name
  · rfl
  · cases hb : strLt b.Name c.Name
    · have := sl_tri hb k
      rw [this] at h; rw [h] at hc; cases hc
    · rw [sl_tr hb hc] at h; cases h
theorem isortR_sorted (g : List S110) : (isort ltR g).Pairwise RelR :=
  isort_sorted RelR.tr (List.pairwise_of_forall fun y x => ⟨fun h => by
    unfold RelR
    cases hc : strLt y.Name x.Name
    · rfl
    · exact (sl_as h hc).elim, fun h => h⟩)
theorem rows_strict {a0 : S23} {m : List (ByteArray × S55)} (hn : (m.map Prod.fst).Nodup) : ∀ x ∈ m.map (rowOf a0), ∀ y ∈ m.map (rowOf a0), x.Name = y.Name → x = y := by
  intro x hx y hy h
  obtain ⟨p, hp, rfl⟩ := List.mem_map.1 hx
  obtain ⟨q, hq, rfl⟩ := List.mem_map.1 hy
  have : p = q := by
    have h : p.1 = q.1 := h
    clear hx hy
    induction m with
    | nil => cases hp
    | cons a m ih =>
      rw [List.map_cons, List.nodup_cons] at hn
      rcases List.mem_cons.1 hp with e1 | hp2
      · rcases List.mem_cons.1 hq with e2 | hq2
        · rw [e1, e2]
        · have := List.mem_map_of_mem (f := Prod.fst) hq2
          rw [← h, e1] at this
          exact absurd this hn.1
      · rcases List.mem_cons.1 hq with e2 | hq2
        · have := List.mem_map_of_mem (f := Prod.fst) hp2
          rw [h, e2] at this
          exact absurd this hn.1
        · exact ih hn.2 hp2 hq2
  rw [this]
theorem RelR.eq {a b : S110} (h : RelR a b) (k : RelR b a) : a.Name = b.Name := sl_tri k h
theorem hpm63 (a0 : S23) (l m : List (ByteArray × S55)) (hn : (m.map Prod.fst).Nodup) (hp : l.Perm m) : s63_e2 (List.foldl (s63_b2 a0) [] l) = s63_e2 (List.foldl (s63_b2 a0) [] m) := by
  rw [b2_map, b2_map, e2_eq, e2_eq]
  simp only [List.nil_append]
  congr 2
  have hpm : (l.map (rowOf a0)).Perm (m.map (rowOf a0)) := hp.map _
  refine sorted_unique ((isort_perm _ _).trans (hpm.trans (isort_perm _ _).symm)) (isortR_sorted _) (isortR_sorted _) fun x hx y hy h k => ?_
  have hx' : x ∈ m.map (rowOf a0) := hpm.mem_iff.1 ((isort_perm _ _).mem_iff.1 hx)
  have hy' : y ∈ m.map (rowOf a0) := hpm.mem_iff.1 ((isort_perm _ _).mem_iff.1 hy)
  exact rows_strict hn x hx' y hy' (RelR.eq h k)
end Go.Sim

