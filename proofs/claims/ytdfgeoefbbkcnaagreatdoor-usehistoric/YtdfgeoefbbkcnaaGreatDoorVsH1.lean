/-
  What is proved: the walk of the calendar, of both ways of joining, and of UseHistoric.
-/
import Derived.Test.YtdfgeoefbbkcnaaGreatDoorVaA6
import Derived.Test.YtdfgeoefbbkcnaaGreatDoorVaA9
import Derived.Test.YtdfgeoefbbkcnaaGreatDoorVaA4
set_option linter.unusedSectionVars false
set_option linter.unusedSimpArgs false
set_option linter.unusedVariables false
set_option linter.unnecessarySimpa false
set_option linter.deprecated false
set_option linter.unusedSimpArgs false
set_option linter.unusedVariables false
set_option maxRecDepth 10000
namespace Go.Sim
open Go.Proofs


/-- turnroundref01.CheckPeriod -/
def s40 (a0 : S45) : Int :=
  (bif (decide ((s109 a0.fFrom) ≠ 0)) || (decide ((s109 a0.fTo) ≠ 0)) then 3 else (bif decide (a0.fTo < a0.fFrom) then 11 else (bif decide (400 < IntKind.i64.wrap (a0.fTo - a0.fFrom)) then 4 else (s90 a0.Days 1 127))))
theorem c40 {g : List (Nat × List Value)} (a0 : S45)    : Con (EG g) 40 [G.agg [G.int a0.fFrom, G.int a0.fTo, G.int a0.Days]] (G.int (s40 a0)) := by
  generalize hR : s40 a0 = R
  unfold s40 at hR
  refine con_of_aw Tryz.func40 rfl rfl fun w0 M0 => ?_
  refine aw_seq ?_
  refine aw_region [.p, .p] ?_
  refine st rfl rfl (eff_box rfl rfl) rfl ?_
  refine st rfl rfl (eff_assigng rfl rfl) rfl ?_
  refine st_nil ?_
  refine aw_seq ?_
  refine aw_seq ?_
  refine aw_region [.p, .p, .p, .p, .p, .p, .p, .p, .p, .p] ?_
  refine st rfl rfl (eff_fieldAddr rfl fl46_0 rfl) rfl ?_
  refine st rfl rfl (eff_load rfl ty3 rfl) rfl ?_
  refine st rfl rfl (eff_call rfl K109 rfl (c109 a0.fFrom) (ag_cons rfl ag_nil)) rfl ?_
  refine st rfl rfl (eff_neq rfl rfl rfl) rfl ?_
  refine st rfl rfl (eff_moveg rfl rfl) rfl ?_
  refine st_g rfl rfl rfl (gb_bool _ _) (fun h => eff_fieldAddr rfl fl46_1 rfl) rfl ?_
  refine st_g rfl rfl rfl (gb_bool _ _) (fun h => eff_load rfl ty3 (gd h rfl)) rfl ?_
  refine st_g rfl rfl rfl (gb_bool _ _) (fun h => eff_call rfl K109 rfl (c109 a0.fTo) (ag_cons (gd h rfl) ag_nil)) rfl ?_
  refine st_g rfl rfl rfl (gb_bool _ _) (fun h => eff_neq rfl (gd h rfl) rfl) rfl ?_
  refine st rfl rfl (eff_or rfl rfl rfl rfl) rfl ?_
  refine st_nil ?_
  refine aw_cond _ rfl (fun h1 => ?_) (fun h1 => ?_)
  · replace h1 : ((decide ((s109 a0.fFrom) ≠ 0)) || (decide ((s109 a0.fTo) ≠ 0))) = true := h1
    replace hR := condT hR h1
    try simp only [Bool.or_eq_true, Bool.and_eq_true, Bool.or_eq_false_iff, Bool.and_eq_false_iff, Bool.not_eq_true', Bool.not_eq_false', decide_eq_true_eq, decide_eq_false_iff_not] at h1
    refine aw_seq ?_
    refine aw_region [.p] ?_
    refine st rfl rfl (eff_assigng rfl rfl) rfl ?_
    refine st_nil ?_
    refine aw_ret ?_
    subst hR
    exact res_c rfl (rv_g rfl)
  · replace h1 : ((decide ((s109 a0.fFrom) ≠ 0)) || (decide ((s109 a0.fTo) ≠ 0))) = false := h1
    replace hR := condF hR h1
    try simp only [Bool.or_eq_true, Bool.and_eq_true, Bool.or_eq_false_iff, Bool.and_eq_false_iff, Bool.not_eq_true', Bool.not_eq_false', decide_eq_true_eq, decide_eq_false_iff_not] at h1
    refine aw_skip ?_
    refine aw_seq ?_
    refine aw_seq ?_
    refine aw_region [.p, .p, .p, .p, .p] ?_
    refine st rfl rfl (eff_fieldAddr rfl fl46_1 rfl) rfl ?_
    refine st rfl rfl (eff_load rfl ty3 rfl) rfl ?_
    refine st rfl rfl (eff_fieldAddr rfl fl46_0 rfl) rfl ?_
    refine st rfl rfl (eff_load rfl ty3 rfl) rfl ?_
    refine st rfl rfl (eff_lss rfl rfl rfl) rfl ?_
    refine st_nil ?_
    refine aw_cond _ rfl (fun h2 => ?_) (fun h2 => ?_)
    · replace h2 : (decide (a0.fTo < a0.fFrom)) = true := h2
      replace hR := condT hR h2
      try simp only [Bool.or_eq_true, Bool.and_eq_true, Bool.or_eq_false_iff, Bool.and_eq_false_iff, Bool.not_eq_true', Bool.not_eq_false', decide_eq_true_eq, decide_eq_false_iff_not] at h2
      refine aw_seq ?_
      refine aw_region [.p] ?_
      refine st rfl rfl (eff_assigng rfl rfl) rfl ?_
      refine st_nil ?_
      refine aw_ret ?_
      subst hR
      exact res_c rfl (rv_g rfl)
    · replace h2 : (decide (a0.fTo < a0.fFrom)) = false := h2
      replace hR := condF hR h2
      try simp only [Bool.or_eq_true, Bool.and_eq_true, Bool.or_eq_false_iff, Bool.and_eq_false_iff, Bool.not_eq_true', Bool.not_eq_false', decide_eq_true_eq, decide_eq_false_iff_not] at h2
      refine aw_skip ?_
      refine aw_seq ?_
      refine aw_seq ?_
      refine aw_region [.p, .p, .p, .p, .p, .p] ?_
      refine st rfl rfl (eff_fieldAddr rfl fl46_1 rfl) rfl ?_
      refine st rfl rfl (eff_load rfl ty3 rfl) rfl ?_
      refine st rfl rfl (eff_fieldAddr rfl fl46_0 rfl) rfl ?_
      refine st rfl rfl (eff_load rfl ty3 rfl) rfl ?_
      refine st rfl rfl (eff_subw rfl rfl rfl) rfl ?_
      refine st rfl rfl (eff_gtr rfl rfl rfl) rfl ?_
      refine st_nil ?_
      refine aw_cond _ rfl (fun h3 => ?_) (fun h3 => ?_)
      · replace h3 : (decide (400 < IntKind.i64.wrap (a0.fTo - a0.fFrom))) = true := h3
        replace hR := condT hR h3
        try simp only [Bool.or_eq_true, Bool.and_eq_true, Bool.or_eq_false_iff, Bool.and_eq_false_iff, Bool.not_eq_true', Bool.not_eq_false', decide_eq_true_eq, decide_eq_false_iff_not] at h3
        refine aw_seq ?_
        refine aw_region [.p] ?_
        refine st rfl rfl (eff_assigng rfl rfl) rfl ?_
        refine st_nil ?_
        refine aw_ret ?_
        subst hR
        exact res_c rfl (rv_g rfl)
      · replace h3 : (decide (400 < IntKind.i64.wrap (a0.fTo - a0.fFrom))) = false := h3
        replace hR := condF hR h3
        try simp only [Bool.or_eq_true, Bool.and_eq_true, Bool.or_eq_false_iff, Bool.and_eq_false_iff, Bool.not_eq_true', Bool.not_eq_false', decide_eq_true_eq, decide_eq_false_iff_not] at h3
        refine aw_skip ?_
        refine aw_seq ?_
        refine aw_region [.p, .p, .p, .p] ?_
        refine st rfl rfl (eff_fieldAddr rfl fl46_2 rfl) rfl ?_
        refine st rfl rfl (eff_load rfl ty3 rfl) rfl ?_
        refine st rfl rfl (eff_call rfl K90 rfl (c90 a0.Days 1 127) (ag_cons rfl (ag_cons rfl (ag_cons rfl ag_nil)))) rfl ?_
        refine st rfl rfl (eff_assigng rfl rfl) rfl ?_
        refine st_nil ?_
        refine aw_ret ?_
        subst hR
        exact res_c rfl (rv_g rfl)

/-- turnroundref01.Weekday -/
def s180 (a0 : Int) : Int :=
  Int.tmod (IntKind.i64.wrap (a0 + 5)) 7
theorem c180 {g : List (Nat × List Value)} (a0 : Int)    : Con (EG g) 180 [G.int a0] (G.int (s180 a0)) := by
  generalize hR : s180 a0 = R
  unfold s180 at hR
  refine con_of_aw Tryz.func180 rfl rfl fun w0 M0 => ?_
  refine aw_seq ?_
  refine aw_region [.p] ?_
  refine st rfl rfl (eff_assigng rfl rfl) rfl ?_
  refine st_nil ?_
  refine aw_seq ?_
  refine aw_region [.p, .p, .p, .p] ?_
  refine st rfl rfl (eff_moveg rfl rfl) rfl ?_
  refine st rfl rfl (eff_addw rfl rfl rfl) rfl ?_
  refine st rfl rfl (eff_remt rfl rfl rfl (by decide)) rfl ?_
  refine st rfl rfl (eff_assigng rfl rfl) rfl ?_
  refine st_nil ?_
  refine aw_ret ?_
  subst hR
  exact res_c rfl (rv_g rfl)
end Go.Sim

namespace Go.Sim
theorem s180_le (x : Int) : s180 x ≤ 7 := by
  unfold s180
  generalize IntKind.i64.wrap (x + 5) = y
  have := Int.tmod_lt_of_pos y (show (0 : Int) < 7 by decide)
  omega
end Go.Sim

set_option linter.unusedSimpArgs false
set_option linter.unusedVariables false
set_option maxRecDepth 10000
namespace Go.Sim
open Go.Proofs


/-- turnroundref01.InMask -/
def s192_l1  : Nat → Int → Int → Bool
  | 0, x1, x2 => decide (Int.tmod x1 2 = 1)
  | k4 + 1, x1, x2 => s192_l1 k4 (IntKind.i64.wrap (Int.tdiv x1 2)) (x2 + 1)
def s192 (a0 : Int) (a1 : Int) : Bool :=
  s192_l1 ((a1 - 0).toNat) a0 0
theorem c192 {g : List (Nat × List Value)} (a0 : Int) (a1 : Int)  (hw : a1 ≤ 7)  : Con (EG g) 192 [G.int a0, G.int a1] (G.bool (s192 a0 a1)) := by
  generalize hR : s192 a0 a1 = R
  unfold s192 at hR
  refine con_of_aw Tryz.func192 rfl rfl fun w0 M0 => ?_
  refine aw_seq ?_
  refine aw_region [.p] ?_
  refine st rfl rfl (eff_assigng rfl rfl) rfl ?_
  refine st_nil ?_
  refine aw_seq ?_
  refine aw_seq ?_
  refine aw_region [.p] ?_
  refine st rfl rfl (eff_assigng rfl rfl) rfl ?_
  refine st_nil ?_
  refine aw_block ?_
  refine aw_loop_g (γ := Nat × Int × Int) (fun g => ([(0, .g (G.int g.2.1)), (1, .g (G.int a1)), (5, .g (G.int g.2.2))], [])) (fun g => g.1 = (a1 - g.2.2).toNat ∧ 0 ≤ g.2.2 ∧ s192_l1 g.1 g.2.1 g.2.2 = R) (fun g => g.1) ⟨rfl, ((a1 - 0).toNat, a0, 0), ⟨rfl, rfl, rfl, trivial⟩, trivial, rfl, ⟨rfl, (by first | omega | (dsimp only; omega) | simp), hR⟩, trivial⟩ ?_
  · rintro ⟨k4, x1, x2⟩ ⟨hk1, iv1_0, hR⟩
    replace hk1 : k4 = (a1 - x2).toNat := hk1
    replace hR : s192_l1 k4 x1 x2 = R := hR
    replace iv1_0 : 0 ≤ x2 := iv1_0
    refine aw_seq ?_
    refine aw_seq ?_
    refine aw_region [.p, .p, .p] ?_
    refine st rfl rfl (eff_moveg rfl rfl) rfl ?_
    refine st rfl rfl (eff_moveg rfl rfl) rfl ?_
    refine st rfl rfl (eff_lss rfl rfl rfl) rfl ?_
    refine st_nil ?_
    refine aw_cond _ rfl (fun h1 => ?_) (fun h1 => ?_)
    · replace h1 : (decide (x2 < a1)) = true := h1
      replace h1 := decT h1
      obtain ⟨k4, rfl⟩ : ∃ m, k4 = m + 1 := ⟨k4 - 1, by omega⟩
      rw [s192_l1] at hR
      try dsimp only at hR
      refine aw_skip ?_
      refine aw_seq ?_
      refine aw_block ?_
      refine aw_region [.p, .p, .p] ?_
      refine st rfl rfl (eff_moveg rfl rfl) rfl ?_
      refine st rfl rfl (eff_quow rfl rfl rfl (by decide)) rfl ?_
      refine st rfl rfl (eff_assigng rfl rfl) rfl ?_
      refine st_nil ?_
      refine aw_region [.p, .p, .p] ?_
      refine st rfl rfl (eff_moveg rfl rfl) rfl ?_
      refine st rfl rfl (eff_add rfl rfl rfl (by (try dsimp only); unfold I64; omega)) rfl ?_
      refine st rfl rfl (eff_assigng rfl rfl) rfl ?_
      refine st_nil ?_
      exact ⟨rfl, (k4, IntKind.i64.wrap (Int.tdiv x1 2), x2 + 1), ⟨rfl, rfl, rfl, trivial⟩, trivial, rfl, ⟨(by first | omega | (dsimp only; omega) | (simp at *; omega)), (by first | omega | (dsimp only; omega) | (simp at *; omega)), hR⟩, by simp⟩
    · replace h1 : (decide (x2 < a1)) = false := h1
      replace h1 := decF h1
      obtain rfl : k4 = 0 := by omega
      rw [s192_l1] at hR
      refine aw_exit ?_
      refine aw_seq ?_
      refine aw_region [.p, .p, .p, .p] ?_
      refine st rfl rfl (eff_moveg rfl rfl) rfl ?_
      refine st rfl rfl (eff_remt rfl rfl rfl (by decide)) rfl ?_
      refine st rfl rfl (eff_eql rfl rfl rfl) rfl ?_
      refine st rfl rfl (eff_assigng rfl rfl) rfl ?_
      refine st_nil ?_
      refine aw_ret ?_
      subst hR
      exact res_c rfl (rv_g rfl)

/-- turnroundref01.Has -/
def s157 (a0 : S45) (a1 : Int) : Bool :=
  ((decide (a0.fFrom ≤ a1)) && (decide (a1 ≤ a0.fTo))) && (s192 a0.Days (s180 a1))
theorem c157 {g : List (Nat × List Value)} (a0 : S45) (a1 : Int)    : Con (EG g) 157 [G.agg [G.int a0.fFrom, G.int a0.fTo, G.int a0.Days], G.int a1] (G.bool (s157 a0 a1)) := by
  generalize hR : s157 a0 a1 = R
  unfold s157 at hR
  refine con_of_aw Tryz.func157 rfl rfl fun w0 M0 => ?_
  refine aw_seq ?_
  refine aw_region [.p, .p] ?_
  refine st rfl rfl (eff_box rfl rfl) rfl ?_
  refine st rfl rfl (eff_assigng rfl rfl) rfl ?_
  refine st_nil ?_
  refine aw_seq ?_
  refine aw_draw [.p, .p, .p, .p, .p, .p, .p, .p, .p, .p, .p, .p, .p, .p, .p, .p, .p, .p] (by kernel_rfl) ?_
  refine st rfl rfl (eff_moveg rfl rfl) rfl ?_
  refine st rfl rfl (eff_fieldAddr rfl fl46_0 rfl) rfl ?_
  refine st rfl rfl (eff_load rfl ty3 rfl) rfl ?_
  refine st rfl rfl (eff_geq rfl rfl rfl) rfl ?_
  refine st rfl rfl (eff_moveg rfl rfl) rfl ?_
  refine st_g rfl rfl rfl (gb_bool _ _) (fun h => eff_moveg rfl rfl) rfl ?_
  refine st_g rfl rfl rfl (gb_bool _ _) (fun h => eff_fieldAddr rfl fl46_1 rfl) rfl ?_
  refine st_g rfl rfl rfl (gb_bool _ _) (fun h => eff_load rfl ty3 (gd h rfl)) rfl ?_
  refine st_g rfl rfl rfl (gb_bool _ _) (fun h => eff_leq rfl (gd h rfl) (gd h rfl)) rfl ?_
  refine st rfl rfl (eff_and rfl rfl rfl rfl) rfl ?_
  refine st rfl rfl (eff_moveg rfl rfl) rfl ?_
  refine st_g rfl rfl rfl (gb_bool _ _) (fun h => eff_fieldAddr rfl fl46_2 rfl) rfl ?_
  refine st_g rfl rfl rfl (gb_bool _ _) (fun h => eff_load rfl ty3 (gd h rfl)) rfl ?_
  refine st_g rfl rfl rfl (gb_bool _ _) (fun h => eff_moveg rfl rfl) rfl ?_
  refine st_g rfl rfl rfl (gb_bool _ _) (fun h => eff_call rfl K180 rfl (c180 a1) (ag_cons (gd h rfl) ag_nil)) rfl ?_
  refine st_g rfl rfl rfl (gb_bool _ _) (fun h => eff_call rfl K192 rfl (c192 a0.Days (s180 a1) (s180_le _)) (ag_cons (gd h rfl) (ag_cons (gd h rfl) ag_nil))) rfl ?_
  refine st rfl rfl (eff_and rfl rfl rfl rfl) rfl ?_
  refine st rfl rfl (eff_assigng rfl rfl) rfl ?_
  refine st_nil ?_
  refine aw_ret ?_
  subst hR
  exact res_c rfl (rv_g rfl)

/-- turnroundref01.DaysOf -/
def s104_j1 (rec1 : (List Int) → Int → List Int) (x2 : Int) (x4 : List Int) : List Int :=
  rec1 x4 (x2 + 1)
def s104_l1 (a0 : S45) : Nat → (List Int) → Int → List Int
  | 0, x1, x2 => x1
  | k3 + 1, x1, x2 => (bif (s157 a0 x2) then s104_j1 (fun z0_ z1_ => s104_l1 a0 k3 z0_ z1_) x2 (x1 ++ [x2]) else s104_j1 (fun z0_ z1_ => s104_l1 a0 k3 z0_ z1_) x2 x1)
def s104 (a0 : S45) : List Int :=
  s104_l1 a0 (((a0.fTo + 1) - a0.fFrom).toNat) [] a0.fFrom
theorem c104 {g : List (Nat × List Value)} (a0 : S45)  (hp0 : 0 ≤ a0.fFrom) (hp1 : a0.fTo ≤ 1000000)  : Con (EG g) 104 [G.agg [G.int a0.fFrom, G.int a0.fTo, G.int a0.Days]] (G.sl 1 (List.map cInt (s104 a0))) := by
  generalize hR : s104 a0 = R
  unfold s104 at hR
  refine con_of_aw Tryz.func104 rfl rfl fun w0 M0 => ?_
  refine aw_seq ?_
  refine aw_region [.p, .w] ?_
  refine st rfl rfl (eff_box rfl rfl) rfl ?_
  refine st_w rfl rfl (eff_nilL 2 3 1 rfl rfl rfl) rfl ?_
  refine st_nil ?_
  refine aw_seq ?_
  refine aw_region [.w] ?_
  refine st_w rfl rfl (eff_nilL 3 3 1 rfl rfl rfl) rfl ?_
  refine st_nil ?_
  refine aw_seq ?_
  refine aw_seq ?_
  refine aw_region [.p, .p, .p] ?_
  refine st rfl rfl (eff_fieldAddr rfl fl46_0 rfl) rfl ?_
  refine st rfl rfl (eff_load rfl ty3 rfl) rfl ?_
  refine st rfl rfl (eff_assigng rfl rfl) rfl ?_
  refine st_nil ?_
  refine aw_block ?_
  refine aw_loop_g (γ := Nat × (List Int) × Int) (fun g => ([(1, .g (G.ref [G.int a0.fFrom, G.int a0.fTo, G.int a0.Days])), (3, .osl 3 1 0 (List.length g.2.1)), (4, .g (G.int g.2.2))], [(3, .arr 3 1 (List.map cInt g.2.1))])) (fun g => g.1 = ((a0.fTo + 1) - g.2.2).toNat ∧ a0.fFrom ≤ g.2.2 ∧ g.2.1.length ≤ (g.2.2 - a0.fFrom).toNat ∧ s104_l1 a0 g.1 g.2.1 g.2.2 = R) (fun g => g.1) ⟨rfl, (((a0.fTo + 1) - a0.fFrom).toNat, [], a0.fFrom), ⟨rfl, rfl, rfl, trivial⟩, ⟨rfl, trivial⟩, rfl, ⟨rfl, (by first | omega | (dsimp only; omega) | simp), (by first | omega | (dsimp only; omega) | simp), hR⟩, trivial⟩ ?_
  · rintro ⟨k3, x1, x2⟩ ⟨hk1, iv1_0, iv1_1, hR⟩
    replace hk1 : k3 = ((a0.fTo + 1) - x2).toNat := hk1
    replace hR : s104_l1 a0 k3 x1 x2 = R := hR
    replace iv1_0 : a0.fFrom ≤ x2 := iv1_0
    replace iv1_1 : x1.length ≤ (x2 - a0.fFrom).toNat := iv1_1
    refine aw_seq ?_
    refine aw_seq ?_
    refine aw_region [.p, .p, .p, .p] ?_
    refine st rfl rfl (eff_moveg rfl rfl) rfl ?_
    refine st rfl rfl (eff_fieldAddr rfl fl46_1 rfl) rfl ?_
    refine st rfl rfl (eff_load rfl ty3 rfl) rfl ?_
    refine st rfl rfl (eff_leq rfl rfl rfl) rfl ?_
    refine st_nil ?_
    refine aw_cond _ rfl (fun h1 => ?_) (fun h1 => ?_)
    · replace h1 : (decide (x2 ≤ a0.fTo)) = true := h1
      replace h1 := decT h1
      obtain ⟨k3, rfl⟩ : ∃ m, k3 = m + 1 := ⟨k3 - 1, by omega⟩
      rw [s104_l1] at hR
      try dsimp only at hR
      refine aw_skip ?_
      refine aw_cut_g (γ := (List Int)) (fun g => ([(1, .g (G.ref [G.int a0.fFrom, G.int a0.fTo, G.int a0.Days])), (3, .osl 3 1 0 (List.length g)), (4, .g (G.int x2))], [(3, .arr 3 1 (List.map cInt g))])) (fun g => g.length ≤ (x2 + 1 - a0.fFrom).toNat ∧ s104_j1 (fun z0_ z1_ => s104_l1 a0 k3 z0_ z1_) x2 g = R) ?_ ?_
      · refine aw_block ?_
        refine aw_seq ?_
        refine aw_region [.p, .p, .p] ?_
        refine st rfl rfl (eff_loadA rfl ty46 rfl rfl rfl) rfl ?_
        refine st rfl rfl (eff_moveg rfl rfl) rfl ?_
        refine st rfl rfl (eff_call rfl K157 rfl (c157 a0 x2) (ag_cons rfl (ag_cons rfl ag_nil))) rfl ?_
        refine st_nil ?_
        refine aw_cond _ rfl (fun h3 => ?_) (fun h3 => ?_)
        · replace h3 : ((s157 a0 x2)) = true := h3
          replace hR := condT hR h3
          try simp only [Bool.or_eq_true, Bool.and_eq_true, Bool.or_eq_false_iff, Bool.and_eq_false_iff, Bool.not_eq_true', Bool.not_eq_false', decide_eq_true_eq, decide_eq_false_iff_not] at h3
          refine aw_region [.p, .p, .p, .k, .p] ?_
          refine st rfl rfl (eff_moveO rfl rfl) rfl ?_
          refine st rfl rfl (eff_moveg rfl rfl) rfl ?_
          refine st rfl rfl (eff_buildSlice rfl Tryz.underlying82 ty3 z3 rfl (ps_cons rfl ps_nil) rfl (by simp []) (by decide)) rfl ?_
          refine st_k rfl rfl (eff_appL (f := cInt) (out := x1) (new := [x2]) rfl app82 rfl rfl (src_eq rfl (src_sl (by decide) (by simp []))) (refsN rfl) (by simp; omega)) rfl ?_
          refine st rfl rfl (eff_assignO rfl rfl) rfl ?_
          refine st_nil ?_
          exact ⟨rfl, x1 ++ [x2], ⟨rfl, rfl, rfl, trivial⟩, ⟨rfl, trivial⟩, rfl, ⟨(by first | omega | (dsimp only; omega) | (simp at *; omega)), hR⟩, trivial⟩
        · replace h3 : ((s157 a0 x2)) = false := h3
          replace hR := condF hR h3
          try simp only [Bool.or_eq_true, Bool.and_eq_true, Bool.or_eq_false_iff, Bool.and_eq_false_iff, Bool.not_eq_true', Bool.not_eq_false', decide_eq_true_eq, decide_eq_false_iff_not] at h3
          refine aw_skip ?_
          exact ⟨rfl, x1, ⟨rfl, rfl, rfl, trivial⟩, ⟨rfl, trivial⟩, rfl, ⟨(by first | omega | (dsimp only; omega) | (simp at *; omega)), hR⟩, trivial⟩
      · rintro x4 ⟨jv1_0, hR⟩
        replace jv1_0 : x4.length ≤ (x2 + 1 - a0.fFrom).toNat := jv1_0
        replace hR : s104_j1 (fun z0_ z1_ => s104_l1 a0 k3 z0_ z1_) x2 x4 = R := hR
        unfold s104_j1 at hR
        refine aw_region [.p, .p, .p] ?_
        refine st rfl rfl (eff_moveg rfl rfl) rfl ?_
        refine st rfl rfl (eff_add rfl rfl rfl (by (try dsimp only); unfold I64; omega)) rfl ?_
        refine st rfl rfl (eff_assigng rfl rfl) rfl ?_
        refine st_nil ?_
        exact ⟨rfl, (k3, x4, x2 + 1), ⟨rfl, rfl, rfl, trivial⟩, ⟨rfl, trivial⟩, rfl, ⟨(by first | omega | (dsimp only; omega) | (simp at *; omega)), (by first | omega | (dsimp only; omega) | (simp at *; omega)), (by first | omega | (dsimp only; omega) | (simp at *; omega)), hR⟩, by simp⟩
    · replace h1 : (decide (x2 ≤ a0.fTo)) = false := h1
      replace h1 := decF h1
      obtain rfl : k3 = 0 := by omega
      rw [s104_l1] at hR
      refine aw_exit ?_
      refine aw_seq ?_
      refine aw_region [.p, .p] ?_
      refine st rfl rfl (eff_moveO rfl rfl) rfl ?_
      refine st rfl rfl (eff_assignO rfl rfl) rfl ?_
      refine st_nil ?_
      refine aw_ret ?_
      subst hR
      exact res_c rfl (rv_viewL rfl rfl)

/-- turnroundref09.SameSlots -/
def s32_l1 (a1 : List S151) : List S151 → Nat → Option Bool
  | [], k2 => some true
  | y3 :: t4, k2 => bindO (ixO a1 ((k2 : Nat) : Int)) fun y5 => (bif !(eqAnd [decide (y3.Name = y5.Name), decide (y3.Moment = y5.Moment), decide (y3.Kind = y5.Kind)]) then some false else s32_l1 a1 t4 (k2 + 1))
def s32 (a0 : List S151) (a1 : List S151) : Option Bool :=
  (bif decide ((List.length a0 : Int) ≠ (List.length a1 : Int)) then some false else s32_l1 a1 a0 0)
theorem c32 {g : List (Nat × List Value)} (a0 : List S151) (a1 : List S151) {R : Bool}   (hR : s32 a0 a1 = some R) : Con (EG g) 32 [G.sl 3 (List.map S151.c a0), G.sl 3 (List.map S151.c a1)] (G.bool R) := by
  unfold s32 at hR
  refine con_of_aw Tryz.func32 rfl rfl fun w0 M0 => ?_
  refine len_sl (f := S151.c) (l := a0) 0 rfl fun hla0 => ?_
  refine len_sl (f := S151.c) (l := a1) 1 rfl fun hla1 => ?_
  refine aw_seq ?_
  refine aw_region [.p] ?_
  refine st rfl rfl (eff_assigng rfl rfl) rfl ?_
  refine st_nil ?_
  refine aw_seq ?_
  refine aw_seq ?_
  refine aw_region [.p, .p, .p, .p, .p] ?_
  refine st rfl rfl (eff_moveg rfl rfl) rfl ?_
  refine st rfl rfl (eff_lenM (f := S151.c) (l := a0) rfl Tryz.underlying32 rfl) rfl ?_
  refine st rfl rfl (eff_moveg rfl rfl) rfl ?_
  refine st rfl rfl (eff_lenM (f := S151.c) (l := a1) rfl Tryz.underlying32 rfl) rfl ?_
  refine st rfl rfl (eff_neq rfl rfl rfl) rfl ?_
  refine st_nil ?_
  refine aw_cond _ rfl (fun h1 => ?_) (fun h1 => ?_)
  · replace h1 : (decide ((List.length a0 : Int) ≠ (List.length a1 : Int))) = true := h1
    replace hR := condT hR h1
    try simp only [Bool.or_eq_true, Bool.and_eq_true, Bool.or_eq_false_iff, Bool.and_eq_false_iff, Bool.not_eq_true', Bool.not_eq_false', decide_eq_true_eq, decide_eq_false_iff_not] at h1
    refine aw_seq ?_
    refine aw_region [.p] ?_
    refine st rfl rfl (eff_assigng rfl rfl) rfl ?_
    refine st_nil ?_
    refine aw_ret ?_
    obtain rfl := Option.some.inj hR
    exact res_c rfl (rv_g rfl)
  · replace h1 : (decide ((List.length a0 : Int) ≠ (List.length a1 : Int))) = false := h1
    replace hR := condF hR h1
    try simp only [Bool.or_eq_true, Bool.and_eq_true, Bool.or_eq_false_iff, Bool.and_eq_false_iff, Bool.not_eq_true', Bool.not_eq_false', decide_eq_true_eq, decide_eq_false_iff_not] at h1
    refine aw_skip ?_
    refine aw_seq ?_
    refine aw_seq ?_
    refine aw_region [.p] ?_
    refine st rfl rfl (eff_assigng rfl rfl) rfl ?_
    refine st_nil ?_
    refine aw_block ?_
    refine aw_loop_g (γ := Nat × (List S151)) (fun g => ([(0, .g (G.sl 3 (List.map S151.c a0))), (1, .g (G.sl 3 (List.map S151.c a1))), (5, .g (G.int ((g.1 : Nat) : Int)))], [])) (fun g => a0.drop g.1 = g.2 ∧ s32_l1 a1 g.2 g.1 = some R) (fun g => List.length g.2) ⟨rfl, (0, a0), ⟨rfl, rfl, rfl, trivial⟩, trivial, rfl, ⟨rfl, hR⟩, trivial⟩ ?_
    · rintro ⟨k2, t4⟩ ⟨hd, hR⟩
      replace hd : a0.drop k2 = t4 := hd
      replace hR : s32_l1 a1 t4 k2 = some R := hR
      refine aw_seq ?_
      refine aw_seq ?_
      refine aw_region [.p, .p, .p, .p] ?_
      refine st rfl rfl (eff_moveg rfl rfl) rfl ?_
      refine st rfl rfl (eff_moveg rfl rfl) rfl ?_
      refine st rfl rfl (eff_lenM (f := S151.c) (l := a0) rfl Tryz.underlying32 rfl) rfl ?_
      refine st rfl rfl (eff_lss rfl rfl rfl) rfl ?_
      refine st_nil ?_
      refine len_sl (f := S151.c) (l := a0) 0 rfl fun hlz1 => ?_
      refine aw_cond _ rfl (fun h2 => ?_) (fun h2 => ?_)
      · replace h2 : (decide (((k2 : Nat) : Int) < (List.length a0 : Int))) = true := h2
        obtain ⟨y3, t4, rfl, hx1, hd⟩ := drop_cons hd (decT h2)
        replace h2 := decT h2
        rw [s32_l1] at hR
        try dsimp only at hR
        refine aw_skip ?_
        refine aw_seq ?_
        refine aw_block ?_
        refine aw_seq ?_
        obtain ⟨y5, by5, hR⟩ := bindO_inv hR
        refine aw_draw [.p, .p, .p, .p, .p, .p, .p, .p, .p] (by kernel_rfl) ?_
        refine st rfl rfl (eff_moveg rfl rfl) rfl ?_
        refine st rfl rfl (eff_moveg rfl rfl) rfl ?_
        refine st rfl rfl (eff_ix (f := S151.c) (l := a0) (a := y3) rfl Tryz.underlying32 ty160 rfl rfl (Int.natCast_nonneg _) hx1) rfl ?_
        refine st rfl rfl (eff_loadA rfl ty160 rfl rfl rfl) rfl ?_
        refine st rfl rfl (eff_moveg rfl rfl) rfl ?_
        refine st rfl rfl (eff_moveg rfl rfl) rfl ?_
        refine st rfl rfl (eff_ix (f := S151.c) (l := a1) (a := y5) rfl Tryz.underlying32 ty160 rfl rfl (ixO_nn by5) (ixO_get by5)) rfl ?_
        refine st rfl rfl (eff_loadA rfl ty160 rfl rfl rfl) rfl ?_
        refine st rfl rfl (eff_aneq [.string y3.Name, .int .i64 y3.Moment, .string y3.Kind] [.string y5.Name, .int .i64 y5.Moment, .string y5.Kind] rfl flat160 rfl rfl rfl rfl rfl) rfl ?_
        refine st_nil ?_
        refine aw_cond _ rfl (fun h4 => ?_) (fun h4 => ?_)
        · replace h4 : (!(eqAnd [decide (y3.Name = y5.Name), decide (y3.Moment = y5.Moment), decide (y3.Kind = y5.Kind)])) = true := h4
          replace hR := condT hR h4
          try simp only [Bool.or_eq_true, Bool.and_eq_true, Bool.or_eq_false_iff, Bool.and_eq_false_iff, Bool.not_eq_true', Bool.not_eq_false', decide_eq_true_eq, decide_eq_false_iff_not] at h4
          refine aw_seq ?_
          refine aw_region [.p] ?_
          refine st rfl rfl (eff_assigng rfl rfl) rfl ?_
          refine st_nil ?_
          refine aw_ret ?_
          obtain rfl := Option.some.inj hR
          exact res_c rfl (rv_g rfl)
        · replace h4 : (!(eqAnd [decide (y3.Name = y5.Name), decide (y3.Moment = y5.Moment), decide (y3.Kind = y5.Kind)])) = false := h4
          replace hR := condF hR h4
          try simp only [Bool.or_eq_true, Bool.and_eq_true, Bool.or_eq_false_iff, Bool.and_eq_false_iff, Bool.not_eq_true', Bool.not_eq_false', decide_eq_true_eq, decide_eq_false_iff_not] at h4
          refine aw_skip ?_
          refine aw_region [.p, .p, .p] ?_
          refine st rfl rfl (eff_moveg rfl rfl) rfl ?_
          refine st rfl rfl (eff_add rfl rfl rfl (by unfold I64; omega)) rfl ?_
          refine st rfl rfl (eff_assigng rfl rfl) rfl ?_
          refine st_nil ?_
          exact ⟨rfl, (k2 + 1, t4), ⟨rfl, rfl, rfl, trivial⟩, trivial, rfl, ⟨hd, hR⟩, by simp⟩
      · replace h2 : (decide (((k2 : Nat) : Int) < (List.length a0 : Int))) = false := h2
        obtain rfl := drop_nil hd (decF h2)
        rw [s32_l1] at hR
        refine aw_exit ?_
        refine aw_seq ?_
        refine aw_region [.p] ?_
        refine st rfl rfl (eff_assigng rfl rfl) rfl ?_
        refine st_nil ?_
        refine aw_ret ?_
        obtain rfl := Option.some.inj hR
        exact res_c rfl (rv_g rfl)

/-- turnroundref09.CheckSeries -/
def s30 (a0 : ByteArray) (a1 : ByteArray) (a2 : S45) (a3 : Int) : Int :=
  (s89 [(s95 a0), (s97 a1), (s40 a2), (s90 a3 0 1439)])
theorem c30 {g : List (Nat × List Value)} (a0 : ByteArray) (a1 : ByteArray) (a2 : S45) (a3 : Int)    : Con (EG g) 30 [G.str a0, G.str a1, G.agg [G.int a2.fFrom, G.int a2.fTo, G.int a2.Days], G.int a3] (G.int (s30 a0 a1 a2 a3)) := by
  generalize hR : s30 a0 a1 a2 a3 = R
  unfold s30 at hR
  refine con_of_aw Tryz.func30 rfl rfl fun w0 M0 => ?_
  refine aw_seq ?_
  refine aw_region [.p, .p] ?_
  refine st rfl rfl (eff_box rfl rfl) rfl ?_
  refine st rfl rfl (eff_assigng rfl rfl) rfl ?_
  refine st_nil ?_
  refine aw_seq ?_
  refine aw_draw [.p, .p, .p, .p, .p, .p, .p, .p, .p, .p, .p] (by kernel_rfl) ?_
  refine st rfl rfl (eff_moveg rfl rfl) rfl ?_
  refine st rfl rfl (eff_call rfl K95 rfl (c95 a0) (ag_cons rfl ag_nil)) rfl ?_
  refine st rfl rfl (eff_moveg rfl rfl) rfl ?_
  refine st rfl rfl (eff_call rfl K97 rfl (c97 a1) (ag_cons rfl ag_nil)) rfl ?_
  refine st rfl rfl (eff_loadA rfl ty46 rfl rfl rfl) rfl ?_
  refine st rfl rfl (eff_call rfl K40 rfl (c40 a2) (ag_cons rfl ag_nil)) rfl ?_
  refine st rfl rfl (eff_moveg rfl rfl) rfl ?_
  refine st rfl rfl (eff_call rfl K90 rfl (c90 a3 0 1439) (ag_cons rfl (ag_cons rfl (ag_cons rfl ag_nil)))) rfl ?_
  refine st rfl rfl (eff_buildSlice rfl Tryz.underlying82 ty3 z3 rfl (ps_cons rfl (ps_cons rfl (ps_cons rfl (ps_cons rfl ps_nil)))) rfl (by simp []) (by decide)) rfl ?_
  refine st rfl rfl (eff_call rfl K89 rfl (c89 [(s95 a0), (s97 a1), (s40 a2), (s90 a3 0 1439)]) (ag_cons rfl ag_nil)) rfl ?_
  refine st rfl rfl (eff_assigng rfl rfl) rfl ?_
  refine st_nil ?_
  refine aw_ret ?_
  subst hR
  exact res_c rfl (rv_g rfl)

/-- turnroundref09.SlotsOf -/
def s31_l1 (a0 : ByteArray) (a1 : ByteArray) (a3 : Int) : List Int → Nat → (List S151) → List S151
  | [], k3, x1 => x1
  | y4 :: t5, k3, x1 => s31_l1 a0 a1 a3 t5 (k3 + 1) (x1 ++ [(S151.mk a0 (IntKind.i64.wrap ((IntKind.i64.wrap (1440 * y4)) + a3)) a1)])
def s31 (a0 : ByteArray) (a1 : ByteArray) (a2 : S45) (a3 : Int) : List S151 :=
  s31_l1 a0 a1 a3 (s104 a2) 0 []
theorem c31 {g : List (Nat × List Value)} (a0 : ByteArray) (a1 : ByteArray) (a2 : S45) (a3 : Int)  (hp0 : 0 ≤ a2.fFrom) (hp1 : a2.fTo ≤ 1000000) (hm0 : (s104 a2).length ≤ 1000001)  : Con (EG g) 31 [G.str a0, G.str a1, G.agg [G.int a2.fFrom, G.int a2.fTo, G.int a2.Days], G.int a3] (G.sl 3 (List.map S151.c (s31 a0 a1 a2 a3))) := by
  generalize hR : s31 a0 a1 a2 a3 = R
  unfold s31 at hR
  refine con_of_aw Tryz.func31 rfl rfl fun w0 M0 => ?_
  refine aw_seq ?_
  refine aw_region [.p, .w] ?_
  refine st rfl rfl (eff_box rfl rfl) rfl ?_
  refine st_w rfl rfl (eff_nilL 8 160 3 rfl rfl rfl) rfl ?_
  refine st_nil ?_
  refine aw_seq ?_
  refine aw_region [.w] ?_
  refine st_w rfl rfl (eff_nilL 9 160 3 rfl rfl rfl) rfl ?_
  refine st_nil ?_
  refine aw_seq ?_
  refine aw_region [.p, .p, .p] ?_
  refine st rfl rfl (eff_loadA rfl ty46 rfl rfl rfl) rfl ?_
  refine st rfl rfl (eff_call rfl K104 rfl (c104 a2 (by first | assumption | omega | (simp [copyL_len]; omega)) (by first | assumption | omega | (simp [copyL_len]; omega))) (ag_cons rfl ag_nil)) rfl ?_
  refine st rfl rfl (eff_assigng rfl rfl) rfl ?_
  refine st_nil ?_
  refine aw_seq ?_
  refine aw_seq ?_
  refine aw_region [.p] ?_
  refine st rfl rfl (eff_assigng rfl rfl) rfl ?_
  refine st_nil ?_
  refine aw_block ?_
  refine aw_loop_g (γ := Nat × (List Int) × (List S151)) (fun g => ([(0, .g (G.str a0)), (1, .g (G.str a1)), (3, .g (G.int a3)), (9, .osl 9 3 0 (List.length g.2.2)), (10, .g (G.sl 1 (List.map cInt (s104 a2)))), (11, .g (G.int ((g.1 : Nat) : Int)))], [(9, .arr 160 3 (List.map S151.c g.2.2))])) (fun g => g.2.2.length ≤ g.1 ∧ (s104 a2).drop g.1 = g.2.1 ∧ s31_l1 a0 a1 a3 g.2.1 g.1 g.2.2 = R) (fun g => List.length g.2.1) ⟨rfl, (0, (s104 a2), []), ⟨rfl, rfl, rfl, rfl, rfl, rfl, trivial⟩, ⟨rfl, trivial⟩, rfl, ⟨(by first | (simp; done) | (simp; omega)), rfl, hR⟩, trivial⟩ ?_
  · rintro ⟨k3, t5, x1⟩ ⟨iv1_0, hd, hR⟩
    replace hd : (s104 a2).drop k3 = t5 := hd
    replace hR : s31_l1 a0 a1 a3 t5 k3 x1 = R := hR
    replace iv1_0 : x1.length ≤ k3 := iv1_0
    refine aw_seq ?_
    refine aw_seq ?_
    refine aw_region [.p, .p, .p, .p] ?_
    refine st rfl rfl (eff_moveg rfl rfl) rfl ?_
    refine st rfl rfl (eff_moveg rfl rfl) rfl ?_
    refine st rfl rfl (eff_lenM (f := cInt) (l := (s104 a2)) rfl Tryz.underlying82 rfl) rfl ?_
    refine st rfl rfl (eff_lss rfl rfl rfl) rfl ?_
    refine st_nil ?_
    refine len_sl (f := cInt) (l := (s104 a2)) 10 rfl fun hlz1 => ?_
    refine aw_cond _ rfl (fun h1 => ?_) (fun h1 => ?_)
    · replace h1 : (decide (((k3 : Nat) : Int) < (List.length (s104 a2) : Int))) = true := h1
      obtain ⟨y4, t5, rfl, hx1, hd⟩ := drop_cons hd (decT h1)
      replace h1 := decT h1
      rw [s31_l1] at hR
      try dsimp only at hR
      refine aw_skip ?_
      refine aw_seq ?_
      refine aw_block ?_
      refine aw_region [.p, .p, .p, .p, .p, .p, .p, .p, .p, .p, .p, .p, .k, .p] ?_
      refine st rfl rfl (eff_moveO rfl rfl) rfl ?_
      refine st rfl rfl (eff_moveg rfl rfl) rfl ?_
      refine st rfl rfl (eff_moveg rfl rfl) rfl ?_
      refine st rfl rfl (eff_moveg rfl rfl) rfl ?_
      refine st rfl rfl (eff_ix (f := cInt) (l := (s104 a2)) (a := y4) rfl Tryz.underlying82 ty3 rfl rfl (Int.natCast_nonneg _) hx1) rfl ?_
      refine st rfl rfl (eff_load rfl ty3 rfl) rfl ?_
      refine st rfl rfl (eff_mulw rfl rfl rfl) rfl ?_
      refine st rfl rfl (eff_moveg rfl rfl) rfl ?_
      refine st rfl rfl (eff_addw rfl rfl rfl) rfl ?_
      refine st rfl rfl (eff_moveg rfl rfl) rfl ?_
      refine st rfl rfl (eff_build rfl z160 rfl pl160 (pb_cons rfl (pb_cons rfl (pb_cons rfl pb_nil))) rfl) rfl ?_
      refine st rfl rfl (eff_buildSlice rfl Tryz.underlying32 ty160 z160 rfl (ps_cons rfl ps_nil) rfl (by simp only [List.mem_singleton, forall_eq]; rfl) (by decide)) rfl ?_
      refine st_k rfl rfl (eff_appL (f := S151.c) (out := x1) (new := [(S151.mk a0 (IntKind.i64.wrap ((IntKind.i64.wrap (1440 * y4)) + a3)) a1)]) rfl app32 rfl rfl (src_eq rfl (src_sl (by decide) (by simp [S151.c]))) (refsN rfl) (by simp; omega)) rfl ?_
      refine st rfl rfl (eff_assignO rfl rfl) rfl ?_
      refine st_nil ?_
      refine aw_region [.p, .p, .p] ?_
      refine st rfl rfl (eff_moveg rfl rfl) rfl ?_
      refine st rfl rfl (eff_add rfl rfl rfl (by unfold I64; omega)) rfl ?_
      refine st rfl rfl (eff_assigng rfl rfl) rfl ?_
      refine st_nil ?_
      exact ⟨rfl, (k3 + 1, t5, x1 ++ [(S151.mk a0 (IntKind.i64.wrap ((IntKind.i64.wrap (1440 * y4)) + a3)) a1)]), ⟨rfl, rfl, rfl, rfl, rfl, rfl, trivial⟩, ⟨rfl, trivial⟩, rfl, ⟨(by first | omega | (dsimp only; omega) | (simp at *; omega)), hd, hR⟩, by simp⟩
    · replace h1 : (decide (((k3 : Nat) : Int) < (List.length (s104 a2) : Int))) = false := h1
      obtain rfl := drop_nil hd (decF h1)
      rw [s31_l1] at hR
      refine aw_exit ?_
      refine aw_seq ?_
      refine aw_region [.p, .p] ?_
      refine st rfl rfl (eff_moveO rfl rfl) rfl ?_
      refine st rfl rfl (eff_assignO rfl rfl) rfl ?_
      refine st_nil ?_
      refine aw_ret ?_
      subst hR
      exact res_c rfl (rv_viewL rfl rfl)
end Go.Sim

namespace Go.Sim
theorem s84_zero {l : List Int} (h : s84 l = 0) : ∀ x ∈ l, x = 0 := by
  have key : ∀ (l : List Int) (k : Nat), s84_l1 l k = 0 → ∀ x ∈ l, x = 0 := by
    intro l
    induction l with
    | nil => intro k _ x hx; cases hx
    | cons y l ih =>
      intro k h x hx
      rw [s84_l1] at h
      by_cases hy : y = 0
      · subst hy
        simp at h
        rcases List.mem_cons.1 hx with rfl | hx
        · rfl
        · exact ih _ h x hx
      · simp [hy] at h
  exact key l 0 h
theorem s85_zero {a b c : Int} (h : s85 a b c = 0) : b ≤ a ∧ a ≤ c := by
  unfold s85 s86 at h
  by_cases h1 : a < b
  · simp [h1] at h
  · by_cases h2 : c < a
    · simp [h2] at h
    · omega
theorem series_ok (a0 a1 : ByteArray) (a2 : S45) (a3 : Int) (h : s84 [s87 a0, s101 a1, s102 a2, s85 a3 0 1439] = 0) : s102 a2 = 0 ∧ 0 ≤ a3 ∧ a3 ≤ 1439 := by
  have h1 := s84_zero h (s102 a2) (by simp)
  have h2 := s85_zero (s84_zero h (s85 a3 0 1439) (by simp))
  exact ⟨h1, h2⟩
end Go.Sim

set_option linter.unusedSimpArgs false
set_option linter.unusedVariables false
set_option maxRecDepth 10000
namespace Go.Sim
open Go.Proofs


/-- use.SlotsOf -/
def s29 (a0 : ByteArray) (a1 : ByteArray) (a2 : S45) (a3 : Int) : (List S151) × Int :=
  (bif decide ((s84 [(s87 a0), (s101 a1), (s102 a2), (s85 a3 0 1439)]) ≠ 0) then ([], (s84 [(s87 a0), (s101 a1), (s102 a2), (s85 a3 0 1439)])) else (slotsL a0 a1 (momL a3 (dayL a2.Days (a2.fTo + 1 - a2.fFrom).toNat a2.fFrom)), 0))
theorem c29 {g : List (Nat × List Value)} (a0 : ByteArray) (a1 : ByteArray) (a2 : S45) (a3 : Int)    : Con (EG g) 29 [G.str a0, G.str a1, G.agg [G.int a2.fFrom, G.int a2.fTo, G.int a2.Days], G.int a3] (G.tup [G.slX 3 (List.map S151.c ((s29 a0 a1 a2 a3)).1), G.int ((s29 a0 a1 a2 a3)).2]) := by
  generalize hR : s29 a0 a1 a2 a3 = R
  unfold s29 at hR
  refine con_of_aw Tryz.func29 rfl rfl fun w0 M0 => ?_
  refine aw_seq ?_
  refine aw_region [.p, .p, .p] ?_
  refine st rfl rfl (eff_box rfl rfl) rfl ?_
  refine st rfl rfl (eff_assigng rfl rfl) rfl ?_
  refine st rfl rfl (eff_assigng rfl rfl) rfl ?_
  refine st_nil ?_
  refine aw_seq ?_
  refine aw_seq ?_
  refine aw_draw [.p, .p, .p, .p, .p, .p, .p, .p, .p, .p, .p] (by kernel_rfl) ?_
  refine st rfl rfl (eff_moveg rfl rfl) rfl ?_
  refine st rfl rfl (eff_call rfl K87 rfl (c87 a0) (ag_cons rfl ag_nil)) rfl ?_
  refine st rfl rfl (eff_moveg rfl rfl) rfl ?_
  refine st rfl rfl (eff_call rfl K101 rfl (c101 a1) (ag_cons rfl ag_nil)) rfl ?_
  refine st rfl rfl (eff_loadA rfl ty46 rfl rfl rfl) rfl ?_
  refine st rfl rfl (eff_call rfl K102 rfl (c102 a2) (ag_cons rfl ag_nil)) rfl ?_
  refine st rfl rfl (eff_moveg rfl rfl) rfl ?_
  refine st rfl rfl (eff_call rfl K85 rfl (c85 a3 0 1439) (ag_cons rfl (ag_cons rfl (ag_cons rfl ag_nil)))) rfl ?_
  refine st rfl rfl (eff_buildSlice rfl Tryz.underlying170 ty37 z37 rfl (ps_cons rfl (ps_cons rfl (ps_cons rfl (ps_cons rfl ps_nil)))) rfl (by simp []) (by decide)) rfl ?_
  refine st rfl rfl (eff_call rfl K84 rfl (c84 [(s87 a0), (s101 a1), (s102 a2), (s85 a3 0 1439)]) (ag_cons rfl ag_nil)) rfl ?_
  refine st rfl rfl (eff_assigng rfl rfl) rfl ?_
  refine st_nil ?_
  refine aw_seq ?_
  refine aw_region [.p, .p] ?_
  refine st rfl rfl (eff_moveg rfl rfl) rfl ?_
  refine st rfl rfl (eff_neq rfl rfl rfl) rfl ?_
  refine st_nil ?_
  refine aw_cond _ rfl (fun h1 => ?_) (fun h1 => ?_)
  · replace h1 : (decide ((s84 [(s87 a0), (s101 a1), (s102 a2), (s85 a3 0 1439)]) ≠ 0)) = true := h1
    replace hR := condT hR h1
    try simp only [Bool.or_eq_true, Bool.and_eq_true, Bool.or_eq_false_iff, Bool.and_eq_false_iff, Bool.not_eq_true', Bool.not_eq_false', decide_eq_true_eq, decide_eq_false_iff_not] at h1
    refine aw_seq ?_
    refine aw_region [.p, .p, .p] ?_
    refine st rfl rfl (eff_moveg rfl rfl) rfl ?_
    refine st rfl rfl (eff_assigng rfl rfl) rfl ?_
    refine st rfl rfl (eff_assigng rfl rfl) rfl ?_
    refine st_nil ?_
    refine aw_ret ?_
    subst hR
    exact resN rfl ⟨rv_nilG rfl (nil_slX _), rv_g rfl, trivial⟩ (by simp)
  · replace h1 : (decide ((s84 [(s87 a0), (s101 a1), (s102 a2), (s85 a3 0 1439)]) ≠ 0)) = false := h1
    replace hR := condF hR h1
    try simp only [Bool.or_eq_true, Bool.and_eq_true, Bool.or_eq_false_iff, Bool.and_eq_false_iff, Bool.not_eq_true', Bool.not_eq_false', decide_eq_true_eq, decide_eq_false_iff_not] at h1
    have hp := series_ok a0 a1 a2 a3 (by simpa using h1)
    refine aw_skip ?_
    refine aw_seq ?_
    refine aw_region [.p, .p, .p, .p, .p, .p, .p] ?_
    refine st rfl rfl (eff_moveg rfl rfl) rfl ?_
    refine st rfl rfl (eff_moveg rfl rfl) rfl ?_
    refine st rfl rfl (eff_loadA rfl ty46 rfl rfl rfl) rfl ?_
    refine st rfl rfl (eff_moveg rfl rfl) rfl ?_
    refine st rfl rfl (eff_call rfl K103 rfl (c103X a0 a1 a2 a3 hp.1 hp.2.1 (by omega)) (ag_cons rfl (ag_cons rfl (ag_cons rfl (ag_cons rfl ag_nil))))) rfl ?_
    refine st rfl rfl (eff_assigng rfl rfl) rfl ?_
    refine st rfl rfl (eff_assigng rfl rfl) rfl ?_
    refine st_nil ?_
    refine aw_ret ?_
    subst hR
    exact resN rfl ⟨rv_g rfl, rv_g rfl, trivial⟩ (by simp)
end Go.Sim

namespace Go.Sim
open Go.Proofs
theorem c29' {g : List (Nat × List Value)} (a0 a1 : ByteArray) (a2 : S45) (a3 : Int) : Con (EG g) 29 [G.str a0, G.str a1, G.agg [G.int a2.fFrom, G.int a2.fTo, G.int a2.Days], G.int a3] (G.tup [G.sl 3 (List.map S151.c ((s29 a0 a1 a2 a3)).1), G.int ((s29 a0 a1 a2 a3)).2]) := by
  intro w M vs hM hgl hv
  refine (c29 a0 a1 a2 a3 w M vs hM hgl hv).mono ?_
  rintro e w' ⟨v, h1, h2, us, h3, h4⟩
  refine ⟨v, h1, h2, us, h3, ?_⟩
  match us, h4 with
  | [u1, u2], ⟨k1, k2, k3⟩ => exact ⟨slX_sl k1, k2, k3⟩
theorem c32n {g : List (Nat × List Value)} (a0 : List S151) {R : Bool} (hR : s32 a0 [] = some R) : Con (EG g) 32 [G.sl 3 (List.map S151.c a0), G.lit (.slice none 0 0)] (G.bool R) := by
  intro w M vs hM hgl hv
  match vs, hv with
  | [v1, v2], ⟨h1, h2, _⟩ =>
    have h2 : v2 = .slice none 0 0 := h2
    subst h2
    exact c32 a0 [] hR w M _ hM hgl ⟨h1, nil_sl 3 w M, trivial⟩
theorem s29_len (a0 a1 : ByteArray) (a2 : S45) (a3 : Int) : (s29 a0 a1 a2 a3).1.length * 40 ≤ 140737488351232 := by
  unfold s29
  by_cases h : s84 [(s87 a0), (s101 a1), (s102 a2), (s85 a3 0 1439)] = 0
  · rw [decide_eq_false (by simpa using h), cond_false]
    obtain ⟨h1, _, _⟩ := series_ok a0 a1 a2 a3 h
    obtain ⟨q1, q2, q3, q4, _, _⟩ := period_ok a2 h1
    have := dayL_len a2.Days (a2.fTo + 1 - a2.fFrom).toNat a2.fFrom
    simp only [slotsL, momL, List.length_map]
    omega
  · rw [decide_eq_true (by simpa using h), cond_true]
    show (0 : Nat) * 40 ≤ 140737488351232
    decide
theorem period_eq (p : S45) : s102 p = s40 p := by
  unfold s102 s40
  have e : ∀ l, s152 l = s89 l := fun l => by
    unfold s152 s89
    generalize 0 = k
    induction l generalizing k with
    | nil => rfl
    | cons x l ih => rw [s152_l1, s89_l1, ih]
  simp only [e, s89_cons, s89_nil, s153, s155, s109, s90, s154]
  by_cases h1 : p.fFrom < 0 <;> by_cases h1' : 99999 < p.fFrom <;> by_cases h2 : p.fTo < 0 <;> by_cases h2' : 99999 < p.fTo <;> simp only [h1, h1', h2, h2', decide_true, decide_false, Bool.or_true, Bool.true_or, Bool.or_false, cond_true, cond_false] <;> try rfl
  by_cases h3 : p.fTo < p.fFrom <;> by_cases h4 : 400 < IntKind.i64.wrap (p.fTo - p.fFrom) <;> by_cases h5 : p.Days < 1 <;> by_cases h6 : 127 < p.Days <;> simp [h3, h4, h5, h6]
theorem codes_eq (a0 a1 : ByteArray) (a2 : S45) (a3 : Int) : s84 [s87 a0, s101 a1, s102 a2, s85 a3 0 1439] = s30 a0 a1 a2 a3 := by
  unfold s30
  rw [s84_s89, s87_s95, s101_s97, period_eq]; rfl
set_option maxRecDepth 100000 in
theorem mask_all : ∀ m : Fin 128, ∀ w : Fin 7, s192 (m.1 : Int) (w.1 : Int) = decide (andI (shrI (m.1 : Int) (w.1 : Int)) 1 = 1) := by decide +kernel
theorem mask_eq {m d : Int} (h1 : 1 ≤ m) (h2 : m ≤ 127) (h3 : 0 ≤ d) (h4 : d ≤ 1000000) : s192 m (s180 d) = inM m d := by
  have hw : s180 d = (d + 5) % 7 := by
    unfold s180
    rw [wrap_i64 (by unfold I64; omega), Int.tmod_eq_emod_of_nonneg (by omega)]
  rw [hw]
  have := mask_all ⟨m.toNat, by omega⟩ ⟨((d + 5) % 7).toNat, by omega⟩
  simp only at this
  rw [Int.toNat_of_nonneg (by omega), Int.toNat_of_nonneg (by omega)] at this
  exact this
theorem s104_loop (p : S45) (h1 : 1 ≤ p.Days) (h2 : p.Days ≤ 127) (h3 : 0 ≤ p.fFrom) (h4 : p.fTo ≤ 99999) : ∀ (n : Nat) (x : List Int) (d : Int), p.fFrom ≤ d → n = (p.fTo + 1 - d).toNat → s104_l1 p n x d = x ++ dayL p.Days n d
  | 0, x, d, _, _ => by simp [s104_l1, dayL]
  | n + 1, x, d, hd, hn => by
    rw [s104_l1, dayL]
    have hs : s157 p d = inM p.Days d := by
      unfold s157
      rw [mask_eq h1 h2 (by omega) (by omega), decide_eq_true (by omega), decide_eq_true (by omega)]
      simp
    rw [hs]
    unfold s104_j1
    have ih := fun x => s104_loop p h1 h2 h3 h4 n x (d + 1) (by omega) (by omega)
    show (bif inM p.Days d then s104_l1 p n (x ++ [d]) (d + 1) else s104_l1 p n x (d + 1)) = _
    rw [ih, ih]
    cases inM p.Days d <;> simp
theorem days_eq (p : S45) (h : s102 p = 0) : s104 p = dayL p.Days (p.fTo + 1 - p.fFrom).toNat p.fFrom := by
  obtain ⟨q1, q2, q3, q4, q5, q6⟩ := period_ok p h
  unfold s104
  rw [s104_loop p q5 q6 q1 q3 _ _ _ (Int.le_refl _) rfl]; rfl
theorem ref_ok (a0 a1 : ByteArray) (a2 : S45) (a3 : Int) (h : s30 a0 a1 a2 a3 = 0) : 0 ≤ a2.fFrom ∧ a2.fTo ≤ 1000000 ∧ (s104 a2).length ≤ 1000001 := by
  rw [← codes_eq] at h
  obtain ⟨h1, _, _⟩ := series_ok a0 a1 a2 a3 h
  obtain ⟨q1, q2, q3, q4, _, _⟩ := period_ok a2 h1
  have := dayL_len a2.Days (a2.fTo + 1 - a2.fFrom).toNat a2.fFrom
  rw [days_eq a2 h1]
  omega
theorem dayL_range (m : Int) : ∀ (n : Nat) (f : Int), ∀ d ∈ dayL m n f, f ≤ d ∧ d < f + n
  | 0, f, d, h => by simp [dayL] at h
  | n + 1, f, d, h => by
    unfold dayL at h
    split at h
    · rcases List.mem_cons.1 h with rfl | h
      · omega
      · have := dayL_range m n _ d h; omega
    · have := dayL_range m n _ d h; omega
end Go.Sim

set_option linter.unusedSimpArgs false
set_option linter.unusedVariables false
set_option maxRecDepth 10000
namespace Go.Sim
open Go.Proofs


/-- turnroundlaw09.UseSeries -/
noncomputable def s4 (a0 : S47) : Option Bool :=
  (bif ((!s16) || (decide (60 < (ByteArray.size a0.Name : Int)))) || (decide (60 < (ByteArray.size a0.Kind : Int))) then some s16 else (bif decide ((s30 a0.Name a0.Kind (S45.mk a0.Period.fFrom a0.Period.fTo a0.Period.Days) a0.Minute) = 0) then bindO (s32 (s20 ((s29 a0.Name a0.Kind (S45.mk a0.Period.fFrom a0.Period.fTo a0.Period.Days) a0.Minute).1)) (s31 a0.Name a0.Kind (S45.mk a0.Period.fFrom a0.Period.fTo a0.Period.Days) a0.Minute)) fun r1 => some (r1 && (decide ((s29 a0.Name a0.Kind (S45.mk a0.Period.fFrom a0.Period.fTo a0.Period.Days) a0.Minute).2 = (s30 a0.Name a0.Kind (S45.mk a0.Period.fFrom a0.Period.fTo a0.Period.Days) a0.Minute)))) else bindO (s32 (s20 ((s29 a0.Name a0.Kind (S45.mk a0.Period.fFrom a0.Period.fTo a0.Period.Days) a0.Minute).1)) []) fun r2 => some (r2 && (decide ((s29 a0.Name a0.Kind (S45.mk a0.Period.fFrom a0.Period.fTo a0.Period.Days) a0.Minute).2 = (s30 a0.Name a0.Kind (S45.mk a0.Period.fFrom a0.Period.fTo a0.Period.Days) a0.Minute))))))
theorem c4 (a0 : S47) {R : Bool}   (hR : s4 a0 = some R) : Con (EG glT) 4 [G.agg [G.str a0.Name, G.str a0.Kind, G.int a0.Period.fFrom, G.int a0.Period.fTo, G.int a0.Period.Days, G.int a0.Minute]] (G.bool R) := by
  unfold s4 at hR
  refine con_of_aw Tryz.func4 rfl rfl fun w0 M0 => ?_
  refine aw_seq ?_
  refine aw_region [.p, .p] ?_
  refine st rfl rfl (eff_box rfl rfl) rfl ?_
  refine st rfl rfl (eff_assigng rfl rfl) rfl ?_
  refine st_nil ?_
  refine aw_seq ?_
  refine aw_seq ?_
  refine aw_region [.p, .p, .p, .p, .p, .p, .p, .p, .p, .p, .p, .p, .p, .p] ?_
  refine st rfl rfl (eff_call rfl K16 rfl (c16) ag_nil) rfl ?_
  refine st rfl rfl (eff_not rfl rfl) rfl ?_
  refine st rfl rfl (eff_moveg rfl rfl) rfl ?_
  refine st_g rfl rfl rfl (gb_bool _ _) (fun h => eff_fieldAddr rfl fl48_0 rfl) rfl ?_
  refine st_g rfl rfl rfl (gb_bool _ _) (fun h => eff_load rfl ty9 (gd h rfl)) rfl ?_
  refine st_g rfl rfl rfl (gb_bool _ _) (fun h => eff_lenS rfl Tryz.underlying9 (gd h rfl)) rfl ?_
  refine st_g rfl rfl rfl (gb_bool _ _) (fun h => eff_gtr rfl (gd h rfl) rfl) rfl ?_
  refine st rfl rfl (eff_or rfl rfl rfl rfl) rfl ?_
  refine st rfl rfl (eff_moveg rfl rfl) rfl ?_
  refine st_g rfl rfl rfl (gb_bool _ _) (fun h => eff_fieldAddr rfl fl48_1 rfl) rfl ?_
  refine st_g rfl rfl rfl (gb_bool _ _) (fun h => eff_load rfl ty9 (gd h rfl)) rfl ?_
  refine st_g rfl rfl rfl (gb_bool _ _) (fun h => eff_lenS rfl Tryz.underlying9 (gd h rfl)) rfl ?_
  refine st_g rfl rfl rfl (gb_bool _ _) (fun h => eff_gtr rfl (gd h rfl) rfl) rfl ?_
  refine st rfl rfl (eff_or rfl rfl rfl rfl) rfl ?_
  refine st_nil ?_
  refine aw_cond _ rfl (fun h1 => ?_) (fun h1 => ?_)
  · replace h1 : (((!s16) || (decide (60 < (ByteArray.size a0.Name : Int)))) || (decide (60 < (ByteArray.size a0.Kind : Int)))) = true := h1
    replace hR := condT hR h1
    try simp only [Bool.or_eq_true, Bool.and_eq_true, Bool.or_eq_false_iff, Bool.and_eq_false_iff, Bool.not_eq_true', Bool.not_eq_false', decide_eq_true_eq, decide_eq_false_iff_not] at h1
    refine aw_seq ?_
    refine aw_region [.p, .p] ?_
    refine st rfl rfl (eff_call rfl K16 rfl (c16) ag_nil) rfl ?_
    refine st rfl rfl (eff_assigng rfl rfl) rfl ?_
    refine st_nil ?_
    refine aw_ret ?_
    obtain rfl := Option.some.inj hR
    exact res_c rfl (rv_g rfl)
  · replace h1 : (((!s16) || (decide (60 < (ByteArray.size a0.Name : Int)))) || (decide (60 < (ByteArray.size a0.Kind : Int)))) = false := h1
    replace hR := condF hR h1
    try simp only [Bool.or_eq_true, Bool.and_eq_true, Bool.or_eq_false_iff, Bool.and_eq_false_iff, Bool.not_eq_true', Bool.not_eq_false', decide_eq_true_eq, decide_eq_false_iff_not] at h1
    refine aw_skip ?_
    refine aw_seq ?_
    refine aw_region [.p, .p, .p, .p, .p, .p, .p, .p, .p, .p, .p, .p, .p, .p] ?_
    refine st rfl rfl (eff_fieldAddr rfl fl48_0 rfl) rfl ?_
    refine st rfl rfl (eff_load rfl ty9 rfl) rfl ?_
    refine st rfl rfl (eff_fieldAddr rfl fl48_1 rfl) rfl ?_
    refine st rfl rfl (eff_load rfl ty9 rfl) rfl ?_
    refine st rfl rfl (eff_fieldAddr rfl fl48_2 rfl) rfl ?_
    refine st rfl rfl (eff_loadA rfl ty46 rfl rfl rfl) rfl ?_
    refine st rfl rfl (eff_fieldAddr rfl fl48_3 rfl) rfl ?_
    refine st rfl rfl (eff_load rfl ty3 rfl) rfl ?_
    refine st rfl rfl (eff_call rfl K29 rfl (c29' a0.Name a0.Kind (S45.mk a0.Period.fFrom a0.Period.fTo a0.Period.Days) a0.Minute) (ag_cons rfl (ag_cons rfl (ag_cons rfl (ag_cons rfl ag_nil))))) rfl ?_
    refine st rfl rfl (eff_moveg rfl rfl) rfl ?_
    refine st rfl rfl (eff_extract rfl rfl rfl) rfl ?_
    refine st rfl rfl (eff_extract rfl rfl rfl) rfl ?_
    refine st rfl rfl (eff_assigng rfl rfl) rfl ?_
    refine st rfl rfl (eff_assigng rfl rfl) rfl ?_
    refine st_nil ?_
    refine aw_seq ?_
    refine aw_region [.p, .p, .p, .p, .p, .p, .p, .p, .p, .p] ?_
    refine st rfl rfl (eff_fieldAddr rfl fl48_0 rfl) rfl ?_
    refine st rfl rfl (eff_load rfl ty9 rfl) rfl ?_
    refine st rfl rfl (eff_fieldAddr rfl fl48_1 rfl) rfl ?_
    refine st rfl rfl (eff_load rfl ty9 rfl) rfl ?_
    refine st rfl rfl (eff_fieldAddr rfl fl48_2 rfl) rfl ?_
    refine st rfl rfl (eff_loadA rfl ty46 rfl rfl rfl) rfl ?_
    refine st rfl rfl (eff_fieldAddr rfl fl48_3 rfl) rfl ?_
    refine st rfl rfl (eff_load rfl ty3 rfl) rfl ?_
    refine st rfl rfl (eff_call rfl K30 rfl (c30 a0.Name a0.Kind (S45.mk a0.Period.fFrom a0.Period.fTo a0.Period.Days) a0.Minute) (ag_cons rfl (ag_cons rfl (ag_cons rfl (ag_cons rfl ag_nil))))) rfl ?_
    refine st rfl rfl (eff_assigng rfl rfl) rfl ?_
    refine st_nil ?_
    refine aw_seq ?_
    refine aw_region [.p] ?_
    refine st rfl rfl (eff_assigng rfl rfl) rfl ?_
    refine st_nil ?_
    refine aw_seq ?_
    refine aw_seq ?_
    refine aw_region [.p, .p] ?_
    refine st rfl rfl (eff_moveg rfl rfl) rfl ?_
    refine st rfl rfl (eff_eql rfl rfl rfl) rfl ?_
    refine st_nil ?_
    refine aw_cond _ rfl (fun h2 => ?_) (fun h2 => ?_)
    · replace h2 : (decide ((s30 a0.Name a0.Kind (S45.mk a0.Period.fFrom a0.Period.fTo a0.Period.Days) a0.Minute) = 0)) = true := h2
      replace hR := condT hR h2
      try simp only [Bool.or_eq_true, Bool.and_eq_true, Bool.or_eq_false_iff, Bool.and_eq_false_iff, Bool.not_eq_true', Bool.not_eq_false', decide_eq_true_eq, decide_eq_false_iff_not] at h2
      obtain ⟨hq0, hq1, hq2⟩ := ref_ok _ _ _ _ h2
      refine aw_region [.p, .p, .p, .p, .p, .p, .p, .p, .p, .p] ?_
      refine st rfl rfl (eff_fieldAddr rfl fl48_0 rfl) rfl ?_
      refine st rfl rfl (eff_load rfl ty9 rfl) rfl ?_
      refine st rfl rfl (eff_fieldAddr rfl fl48_1 rfl) rfl ?_
      refine st rfl rfl (eff_load rfl ty9 rfl) rfl ?_
      refine st rfl rfl (eff_fieldAddr rfl fl48_2 rfl) rfl ?_
      refine st rfl rfl (eff_loadA rfl ty46 rfl rfl rfl) rfl ?_
      refine st rfl rfl (eff_fieldAddr rfl fl48_3 rfl) rfl ?_
      refine st rfl rfl (eff_load rfl ty3 rfl) rfl ?_
      refine st rfl rfl (eff_call rfl K31 rfl (c31 a0.Name a0.Kind (S45.mk a0.Period.fFrom a0.Period.fTo a0.Period.Days) a0.Minute (by first | assumption | omega | (simp [copyL_len]; omega)) (by first | assumption | omega | (simp [copyL_len]; omega)) (by first | assumption | omega | (simp [copyL_len]; omega))) (ag_cons rfl (ag_cons rfl (ag_cons rfl (ag_cons rfl ag_nil))))) rfl ?_
      refine st rfl rfl (eff_assigng rfl rfl) rfl ?_
      refine st_nil ?_
      refine aw_seq ?_
      obtain ⟨r1, br1, hR⟩ := bindO_inv hR
      refine aw_region [.p, .p, .p, .p, .p, .p, .p, .p, .p, .p] ?_
      refine st rfl rfl (eff_moveg rfl rfl) rfl ?_
      refine st rfl rfl (eff_call rfl K20 rfl (c20 ((s29 a0.Name a0.Kind (S45.mk a0.Period.fFrom a0.Period.fTo a0.Period.Days) a0.Minute).1) (s29_len _ _ _ _)) (ag_cons rfl ag_nil)) rfl ?_
      refine st rfl rfl (eff_moveg rfl rfl) rfl ?_
      refine st rfl rfl (eff_call rfl K32 rfl (c32 (s20 ((s29 a0.Name a0.Kind (S45.mk a0.Period.fFrom a0.Period.fTo a0.Period.Days) a0.Minute).1)) (s31 a0.Name a0.Kind (S45.mk a0.Period.fFrom a0.Period.fTo a0.Period.Days) a0.Minute) br1) (ag_cons rfl (ag_cons rfl ag_nil))) rfl ?_
      refine st rfl rfl (eff_moveg rfl rfl) rfl ?_
      refine st_g rfl rfl rfl (gb_bool _ _) (fun h => eff_moveg rfl rfl) rfl ?_
      refine st_g rfl rfl rfl (gb_bool _ _) (fun h => eff_moveg rfl rfl) rfl ?_
      refine st_g rfl rfl rfl (gb_bool _ _) (fun h => eff_eql rfl (gd h rfl) (gd h rfl)) rfl ?_
      refine st rfl rfl (eff_and rfl rfl rfl rfl) rfl ?_
      refine st rfl rfl (eff_assigng rfl rfl) rfl ?_
      refine st_nil ?_
      refine aw_ret ?_
      obtain rfl := Option.some.inj hR
      exact res_c rfl (rv_g rfl)
    · replace h2 : (decide ((s30 a0.Name a0.Kind (S45.mk a0.Period.fFrom a0.Period.fTo a0.Period.Days) a0.Minute) = 0)) = false := h2
      replace hR := condF hR h2
      try simp only [Bool.or_eq_true, Bool.and_eq_true, Bool.or_eq_false_iff, Bool.and_eq_false_iff, Bool.not_eq_true', Bool.not_eq_false', decide_eq_true_eq, decide_eq_false_iff_not] at h2
      refine aw_skip ?_
      refine aw_seq ?_
      obtain ⟨r2, br2, hR⟩ := bindO_inv hR
      refine aw_region [.p, .p, .p, .p, .p, .p, .p, .p, .p, .p] ?_
      refine st rfl rfl (eff_moveg rfl rfl) rfl ?_
      refine st rfl rfl (eff_call rfl K20 rfl (c20 ((s29 a0.Name a0.Kind (S45.mk a0.Period.fFrom a0.Period.fTo a0.Period.Days) a0.Minute).1) (s29_len _ _ _ _)) (ag_cons rfl ag_nil)) rfl ?_
      refine st rfl rfl (eff_moveg rfl rfl) rfl ?_
      refine st rfl rfl (eff_call rfl K32 rfl (c32n (s20 ((s29 a0.Name a0.Kind (S45.mk a0.Period.fFrom a0.Period.fTo a0.Period.Days) a0.Minute).1)) br2) (ag_cons rfl (ag_cons rfl ag_nil))) rfl ?_
      refine st rfl rfl (eff_moveg rfl rfl) rfl ?_
      refine st_g rfl rfl rfl (gb_bool _ _) (fun h => eff_moveg rfl rfl) rfl ?_
      refine st_g rfl rfl rfl (gb_bool _ _) (fun h => eff_moveg rfl rfl) rfl ?_
      refine st_g rfl rfl rfl (gb_bool _ _) (fun h => eff_eql rfl (gd h rfl) (gd h rfl)) rfl ?_
      refine st rfl rfl (eff_and rfl rfl rfl rfl) rfl ?_
      refine st rfl rfl (eff_assigng rfl rfl) rfl ?_
      refine st_nil ?_
      refine aw_ret ?_
      obtain rfl := Option.some.inj hR
      exact res_c rfl (rv_g rfl)
end Go.Sim

namespace Go.Sim
end Go.Sim

namespace Go.Sim
def lenL : List Int := [31, 28, 31, 30, 31, 30, 31, 31, 30, 31, 30, 31]
theorem wrap_rng (n : Int) : -9223372036854775808 ≤ IntKind.i64.wrap n ∧ IntKind.i64.wrap n ≤ 9223372036854775807 := by rw [IntKind.wrap_i64]; omega
end Go.Sim

set_option linter.unusedSimpArgs false
set_option linter.unusedVariables false
set_option maxRecDepth 10000
namespace Go.Sim
open Go.Proofs


/-- calendar.leap -/
def s248 (a0 : Int) : Bool :=
  (decide (Int.tmod a0 4 = 0)) && ((decide (Int.tmod a0 100 ≠ 0)) || (decide (Int.tmod a0 400 = 0)))
theorem c248 {g : List (Nat × List Value)} (a0 : Int)    : Con (EG g) 248 [G.int a0] (G.bool (s248 a0)) := by
  generalize hR : s248 a0 = R
  unfold s248 at hR
  refine con_of_aw Tryz.func248 rfl rfl fun w0 M0 => ?_
  refine aw_seq ?_
  refine aw_region [.p] ?_
  refine st rfl rfl (eff_assigng rfl rfl) rfl ?_
  refine st_nil ?_
  refine aw_seq ?_
  refine aw_region [.p, .p, .p, .p, .p, .p, .p, .p, .p, .p, .p, .p, .p, .p] ?_
  refine st rfl rfl (eff_moveg rfl rfl) rfl ?_
  refine st rfl rfl (eff_remt rfl rfl rfl (by decide)) rfl ?_
  refine st rfl rfl (eff_eql rfl rfl rfl) rfl ?_
  refine st rfl rfl (eff_moveg rfl rfl) rfl ?_
  refine st_g rfl rfl rfl (gb_bool _ _) (fun h => eff_moveg rfl rfl) rfl ?_
  refine st_g rfl rfl rfl (gb_bool _ _) (fun h => eff_remt rfl (gd h rfl) rfl (by decide)) rfl ?_
  refine st_g rfl rfl rfl (gb_bool _ _) (fun h => eff_neq rfl (gd h rfl) rfl) rfl ?_
  refine st_g rfl rfl rfl (gb_bool _ _) (fun h => eff_moveg rfl (gd h rfl)) rfl ?_
  refine st_g rfl rfl rfl (gb_if _ _ _) (fun h => eff_moveg rfl rfl) rfl ?_
  refine st_g rfl rfl rfl (gb_if _ _ _) (fun h => eff_remt rfl (gd h rfl) rfl (by decide)) rfl ?_
  refine st_g rfl rfl rfl (gb_if _ _ _) (fun h => eff_eql rfl (gd h rfl) rfl) rfl ?_
  refine st_g rfl rfl rfl (gb_bool _ _) (fun h => eff_or rfl (gd h rfl) rfl (gd2 h rfl)) rfl ?_
  refine st rfl rfl (eff_and rfl rfl rfl rfl) rfl ?_
  refine st rfl rfl (eff_assigng rfl rfl) rfl ?_
  refine st_nil ?_
  refine aw_ret ?_
  subst hR
  exact res_c rfl (rv_g rfl)

/-- calendar.length -/
def s223 (a0 : Int) (a1 : Int) : Option Int :=
  (bif (decide (a1 = 2)) && (s248 a0) then bindO (ixO lenL 1) fun y1 => some (IntKind.i64.wrap (y1 + 1)) else bindO (ixO lenL (IntKind.i64.wrap (a1 - 1))) fun y2 => some y2)
theorem c223 (a0 : Int) (a1 : Int) {R : Int}   (hR : s223 a0 a1 = some R) : Con (EG glT) 223 [G.int a0, G.int a1] (G.int R) := by
  unfold s223 at hR
  refine con_of_aw Tryz.func223 rfl rfl fun w0 M0 => ?_
  refine aw_seq ?_
  refine aw_region [.p] ?_
  refine st rfl rfl (eff_assigng rfl rfl) rfl ?_
  refine st_nil ?_
  refine aw_seq ?_
  refine aw_seq ?_
  refine aw_region [.p, .p, .p, .p, .p, .p] ?_
  refine st rfl rfl (eff_moveg rfl rfl) rfl ?_
  refine st rfl rfl (eff_eql rfl rfl rfl) rfl ?_
  refine st rfl rfl (eff_moveg rfl rfl) rfl ?_
  refine st_g rfl rfl rfl (gb_bool _ _) (fun h => eff_moveg rfl rfl) rfl ?_
  refine st_g rfl rfl rfl (gb_bool _ _) (fun h => eff_call rfl K248 rfl (c248 a0) (ag_cons (gd h rfl) ag_nil)) rfl ?_
  refine st rfl rfl (eff_and rfl rfl rfl rfl) rfl ?_
  refine st_nil ?_
  refine aw_cond _ rfl (fun h1 => ?_) (fun h1 => ?_)
  · replace h1 : ((decide (a1 = 2)) && (s248 a0)) = true := h1
    replace hR := condT hR h1
    try simp only [Bool.or_eq_true, Bool.and_eq_true, Bool.or_eq_false_iff, Bool.and_eq_false_iff, Bool.not_eq_true', Bool.not_eq_false', decide_eq_true_eq, decide_eq_false_iff_not] at h1
    refine aw_seq ?_
    obtain ⟨y1, by1, hR⟩ := bindO_inv hR
    refine aw_region [.p, .p, .p, .p] ?_
    refine st rfl rfl (eff_ixArr (f := cInt) (l := lenL) rfl Tryz.underlying296 ty3 rfl rfl (fun _ => rfl) rfl rfl (ixO_nn by1) (ixO_get by1)) rfl ?_
    refine st rfl rfl (eff_load rfl ty3 rfl) rfl ?_
    refine st rfl rfl (eff_addw rfl rfl rfl) rfl ?_
    refine st rfl rfl (eff_assigng rfl rfl) rfl ?_
    refine st_nil ?_
    refine aw_ret ?_
    obtain rfl := Option.some.inj hR
    exact res_c rfl (rv_g rfl)
  · replace h1 : ((decide (a1 = 2)) && (s248 a0)) = false := h1
    replace hR := condF hR h1
    try simp only [Bool.or_eq_true, Bool.and_eq_true, Bool.or_eq_false_iff, Bool.and_eq_false_iff, Bool.not_eq_true', Bool.not_eq_false', decide_eq_true_eq, decide_eq_false_iff_not] at h1
    refine aw_skip ?_
    refine aw_seq ?_
    obtain ⟨y2, by2, hR⟩ := bindO_inv hR
    refine aw_region [.p, .p, .p, .p, .p] ?_
    refine st rfl rfl (eff_moveg rfl rfl) rfl ?_
    refine st rfl rfl (eff_subw rfl rfl rfl) rfl ?_
    refine st rfl rfl (eff_ixArr (f := cInt) (l := lenL) rfl Tryz.underlying296 ty3 rfl rfl (fun _ => rfl) rfl rfl (ixO_nn by2) (ixO_get by2)) rfl ?_
    refine st rfl rfl (eff_load rfl ty3 rfl) rfl ?_
    refine st rfl rfl (eff_assigng rfl rfl) rfl ?_
    refine st_nil ?_
    refine aw_ret ?_
    obtain rfl := Option.some.inj hR
    exact res_c rfl (rv_g rfl)

/-- calendar.span -/
def s222 (a0 : Int) : Int :=
  (bif (s248 a0) then 366 else 365)
theorem c222 {g : List (Nat × List Value)} (a0 : Int)    : Con (EG g) 222 [G.int a0] (G.int (s222 a0)) := by
  generalize hR : s222 a0 = R
  unfold s222 at hR
  refine con_of_aw Tryz.func222 rfl rfl fun w0 M0 => ?_
  refine aw_seq ?_
  refine aw_region [.p] ?_
  refine st rfl rfl (eff_assigng rfl rfl) rfl ?_
  refine st_nil ?_
  refine aw_seq ?_
  refine aw_seq ?_
  refine aw_region [.p, .p] ?_
  refine st rfl rfl (eff_moveg rfl rfl) rfl ?_
  refine st rfl rfl (eff_call rfl K248 rfl (c248 a0) (ag_cons rfl ag_nil)) rfl ?_
  refine st_nil ?_
  refine aw_cond _ rfl (fun h1 => ?_) (fun h1 => ?_)
  · replace h1 : ((s248 a0)) = true := h1
    replace hR := condT hR h1
    try simp only [Bool.or_eq_true, Bool.and_eq_true, Bool.or_eq_false_iff, Bool.and_eq_false_iff, Bool.not_eq_true', Bool.not_eq_false', decide_eq_true_eq, decide_eq_false_iff_not] at h1
    refine aw_seq ?_
    refine aw_region [.p] ?_
    refine st rfl rfl (eff_assigng rfl rfl) rfl ?_
    refine st_nil ?_
    refine aw_ret ?_
    subst hR
    exact res_c rfl (rv_g rfl)
  · replace h1 : ((s248 a0)) = false := h1
    replace hR := condF hR h1
    try simp only [Bool.or_eq_true, Bool.and_eq_true, Bool.or_eq_false_iff, Bool.and_eq_false_iff, Bool.not_eq_true', Bool.not_eq_false', decide_eq_true_eq, decide_eq_false_iff_not] at h1
    refine aw_skip ?_
    refine aw_seq ?_
    refine aw_region [.p] ?_
    refine st rfl rfl (eff_assigng rfl rfl) rfl ?_
    refine st_nil ?_
    refine aw_ret ?_
    subst hR
    exact res_c rfl (rv_g rfl)

/-- calendar.number -/
def s221_l2 (a0 : Int) : Nat → Int → Int → Option Int
  | 0, x5, x6 => some x5
  | k8 + 1, x5, x6 => bindO (s223 a0 x6) fun r9 => s221_l2 a0 k8 (IntKind.i64.wrap (x5 + r9)) (x6 + 1)
def s221_l1 (a0 : Int) (a1 : Int) : Nat → Int → Int → Option Int
  | 0, x1, x2 => s221_l2 a0 ((a1 - 1).toNat) x1 1
  | k4 + 1, x1, x2 => s221_l1 a0 a1 k4 (IntKind.i64.wrap (x1 + (s222 (IntKind.i64.wrap (2000 + x2))))) (x2 + 1)
def s221 (a0 : Int) (a1 : Int) (a2 : Int) : Option Int :=
  s221_l1 a0 a1 (((IntKind.i64.wrap (a0 - 2000)) - 0).toNat) (IntKind.i64.wrap (a2 - 1)) 0
theorem c221 (a0 : Int) (a1 : Int) (a2 : Int) {R : Int}  (hm : a1 ≤ 12) (hR : s221 a0 a1 a2 = some R) : Con (EG glT) 221 [G.int a0, G.int a1, G.int a2] (G.int R) := by
  unfold s221 at hR
  refine con_of_aw Tryz.func221 rfl rfl fun w0 M0 => ?_
  have hw := wrap_rng (a0 - 2000)
  refine aw_seq ?_
  refine aw_region [.p] ?_
  refine st rfl rfl (eff_assigng rfl rfl) rfl ?_
  refine st_nil ?_
  refine aw_seq ?_
  refine aw_region [.p, .p, .p] ?_
  refine st rfl rfl (eff_moveg rfl rfl) rfl ?_
  refine st rfl rfl (eff_subw rfl rfl rfl) rfl ?_
  refine st rfl rfl (eff_assigng rfl rfl) rfl ?_
  refine st_nil ?_
  refine aw_seq ?_
  refine aw_seq ?_
  refine aw_region [.p, .p, .p] ?_
  refine st rfl rfl (eff_moveg rfl rfl) rfl ?_
  refine st rfl rfl (eff_subw rfl rfl rfl) rfl ?_
  refine st rfl rfl (eff_moveg rfl rfl) rfl ?_
  refine st_nil ?_
  refine aw_block ?_
  refine aw_loop_g (γ := Nat × Int × Int) (fun g => ([(0, .g (G.int a0)), (1, .g (G.int a1)), (7, .g (G.int g.2.1)), (13, .g (G.int (IntKind.i64.wrap (a0 - 2000)))), (14, .g (G.int g.2.2))], [])) (fun g => g.1 = ((IntKind.i64.wrap (a0 - 2000)) - g.2.2).toNat ∧ 0 ≤ g.2.2 ∧ s221_l1 a0 a1 g.1 g.2.1 g.2.2 = some R) (fun g => g.1) ⟨rfl, (((IntKind.i64.wrap (a0 - 2000)) - 0).toNat, IntKind.i64.wrap (a2 - 1), 0), ⟨rfl, rfl, rfl, rfl, rfl, trivial⟩, trivial, rfl, ⟨rfl, (by first | omega | (dsimp only; omega) | simp), hR⟩, trivial⟩ ?_
  · rintro ⟨k4, x1, x2⟩ ⟨hk1, iv1_0, hR⟩
    replace hk1 : k4 = ((IntKind.i64.wrap (a0 - 2000)) - x2).toNat := hk1
    replace hR : s221_l1 a0 a1 k4 x1 x2 = some R := hR
    replace iv1_0 : 0 ≤ x2 := iv1_0
    refine aw_seq ?_
    refine aw_region [.p] ?_
    refine st rfl rfl (eff_lss rfl rfl rfl) rfl ?_
    refine st_nil ?_
    refine aw_seq ?_
    refine aw_cond _ rfl (fun h1 => ?_) (fun h1 => ?_)
    · replace h1 : (decide (x2 < IntKind.i64.wrap (a0 - 2000))) = true := h1
      replace h1 := decT h1
      obtain ⟨k4, rfl⟩ : ∃ m, k4 = m + 1 := ⟨k4 - 1, by omega⟩
      rw [s221_l1] at hR
      try dsimp only at hR
      refine aw_skip ?_
      refine aw_seq ?_
      refine aw_block ?_
      refine aw_seq ?_
      refine aw_region [.p, .p] ?_
      refine st rfl rfl (eff_moveg rfl rfl) rfl ?_
      refine st rfl rfl (eff_assigng rfl rfl) rfl ?_
      refine st_nil ?_
      refine aw_region [.p, .p, .p, .p, .p, .p] ?_
      refine st rfl rfl (eff_moveg rfl rfl) rfl ?_
      refine st rfl rfl (eff_moveg rfl rfl) rfl ?_
      refine st rfl rfl (eff_addw rfl rfl rfl) rfl ?_
      refine st rfl rfl (eff_call rfl K222 rfl (c222 (IntKind.i64.wrap (2000 + x2))) (ag_cons rfl ag_nil)) rfl ?_
      refine st rfl rfl (eff_addw rfl rfl rfl) rfl ?_
      refine st rfl rfl (eff_assigng rfl rfl) rfl ?_
      refine st_nil ?_
      refine aw_region [.p, .p] ?_
      refine st rfl rfl (eff_add rfl rfl rfl (by (try dsimp only); unfold I64; omega)) rfl ?_
      refine st rfl rfl (eff_moveg rfl rfl) rfl ?_
      refine st_nil ?_
      exact ⟨rfl, (k4, IntKind.i64.wrap (x1 + (s222 (IntKind.i64.wrap (2000 + x2)))), x2 + 1), ⟨rfl, rfl, rfl, rfl, rfl, trivial⟩, trivial, rfl, ⟨(by first | omega | (dsimp only; omega) | (simp at *; omega)), (by first | omega | (dsimp only; omega) | (simp at *; omega)), hR⟩, by simp⟩
    · replace h1 : (decide (x2 < IntKind.i64.wrap (a0 - 2000))) = false := h1
      replace h1 := decF h1
      obtain rfl : k4 = 0 := by omega
      rw [s221_l1] at hR
      refine aw_exit ?_
      refine aw_seq ?_
      refine aw_seq ?_
      refine aw_region [.p] ?_
      refine st rfl rfl (eff_assigng rfl rfl) rfl ?_
      refine st_nil ?_
      refine aw_block ?_
      refine aw_loop_g (γ := Nat × Int × Int) (fun g => ([(0, .g (G.int a0)), (1, .g (G.int a1)), (7, .g (G.int g.2.1)), (9, .g (G.int g.2.2))], [])) (fun g => g.1 = (a1 - g.2.2).toNat ∧ 1 ≤ g.2.2 ∧ s221_l2 a0 g.1 g.2.1 g.2.2 = some R) (fun g => g.1) ⟨rfl, ((a1 - 1).toNat, x1, 1), ⟨rfl, rfl, rfl, rfl, trivial⟩, trivial, rfl, ⟨rfl, (by first | omega | (dsimp only; omega) | simp), hR⟩, trivial⟩ ?_
      · rintro ⟨k8, x5, x6⟩ ⟨hk2, iv2_0, hR⟩
        replace hk2 : k8 = (a1 - x6).toNat := hk2
        replace hR : s221_l2 a0 k8 x5 x6 = some R := hR
        replace iv2_0 : 1 ≤ x6 := iv2_0
        refine aw_seq ?_
        refine aw_seq ?_
        refine aw_region [.p, .p, .p] ?_
        refine st rfl rfl (eff_moveg rfl rfl) rfl ?_
        refine st rfl rfl (eff_moveg rfl rfl) rfl ?_
        refine st rfl rfl (eff_lss rfl rfl rfl) rfl ?_
        refine st_nil ?_
        refine aw_cond _ rfl (fun h3 => ?_) (fun h3 => ?_)
        · replace h3 : (decide (x6 < a1)) = true := h3
          replace h3 := decT h3
          obtain ⟨k8, rfl⟩ : ∃ m, k8 = m + 1 := ⟨k8 - 1, by omega⟩
          rw [s221_l2] at hR
          try dsimp only at hR
          refine aw_skip ?_
          refine aw_seq ?_
          refine aw_block ?_
          obtain ⟨r9, br9, hR⟩ := bindO_inv hR
          refine aw_region [.p, .p, .p, .p, .p, .p] ?_
          refine st rfl rfl (eff_moveg rfl rfl) rfl ?_
          refine st rfl rfl (eff_moveg rfl rfl) rfl ?_
          refine st rfl rfl (eff_moveg rfl rfl) rfl ?_
          refine st rfl rfl (eff_call rfl K223 rfl (c223 a0 x6 br9) (ag_cons rfl (ag_cons rfl ag_nil))) rfl ?_
          refine st rfl rfl (eff_addw rfl rfl rfl) rfl ?_
          refine st rfl rfl (eff_assigng rfl rfl) rfl ?_
          refine st_nil ?_
          refine aw_region [.p, .p, .p] ?_
          refine st rfl rfl (eff_moveg rfl rfl) rfl ?_
          refine st rfl rfl (eff_add rfl rfl rfl (by (try dsimp only); unfold I64; omega)) rfl ?_
          refine st rfl rfl (eff_assigng rfl rfl) rfl ?_
          refine st_nil ?_
          exact ⟨rfl, (k8, IntKind.i64.wrap (x5 + r9), x6 + 1), ⟨rfl, rfl, rfl, rfl, trivial⟩, trivial, rfl, ⟨(by first | omega | (dsimp only; omega) | (simp at *; omega)), (by first | omega | (dsimp only; omega) | (simp at *; omega)), hR⟩, by simp⟩
        · replace h3 : (decide (x6 < a1)) = false := h3
          replace h3 := decF h3
          obtain rfl : k8 = 0 := by omega
          rw [s221_l2] at hR
          refine aw_exit ?_
          refine aw_seq ?_
          refine aw_region [.p, .p] ?_
          refine st rfl rfl (eff_moveg rfl rfl) rfl ?_
          refine st rfl rfl (eff_assigng rfl rfl) rfl ?_
          refine st_nil ?_
          refine aw_ret ?_
          obtain rfl := Option.some.inj hR
          exact res_c rfl (rv_g rfl)

/-- calendar.lastSunday -/
def s189 (a0 : Int) (a1 : Int) : Option Int :=
  bindO (s221 a0 a1 31) fun r1 => some (IntKind.i64.wrap (r1 - (Int.tmod (IntKind.i64.wrap ((IntKind.i64.wrap ((s188 r1) + 7)) - 6)) 7)))
theorem c189 (a0 : Int) (a1 : Int) {R : Int}  (hm : a1 ≤ 12) (hR : s189 a0 a1 = some R) : Con (EG glT) 189 [G.int a0, G.int a1] (G.int R) := by
  unfold s189 at hR
  refine con_of_aw Tryz.func189 rfl rfl fun w0 M0 => ?_
  refine aw_seq ?_
  refine aw_region [.p] ?_
  refine st rfl rfl (eff_assigng rfl rfl) rfl ?_
  refine st_nil ?_
  refine aw_seq ?_
  obtain ⟨r1, br1, hR⟩ := bindO_inv hR
  refine aw_region [.p, .p, .p, .p] ?_
  refine st rfl rfl (eff_moveg rfl rfl) rfl ?_
  refine st rfl rfl (eff_moveg rfl rfl) rfl ?_
  refine st rfl rfl (eff_call rfl K221 rfl (c221 a0 a1 31 (by first | assumption | omega | (simp [copyL_len]; omega)) br1) (ag_cons rfl (ag_cons rfl (ag_cons rfl ag_nil)))) rfl ?_
  refine st rfl rfl (eff_assigng rfl rfl) rfl ?_
  refine st_nil ?_
  refine aw_seq ?_
  refine aw_region [.p, .p, .p, .p, .p, .p, .p, .p] ?_
  refine st rfl rfl (eff_moveg rfl rfl) rfl ?_
  refine st rfl rfl (eff_moveg rfl rfl) rfl ?_
  refine st rfl rfl (eff_call rfl K188 rfl (c188 r1) (ag_cons rfl ag_nil)) rfl ?_
  refine st rfl rfl (eff_addw rfl rfl rfl) rfl ?_
  refine st rfl rfl (eff_subw rfl rfl rfl) rfl ?_
  refine st rfl rfl (eff_remt rfl rfl rfl (by decide)) rfl ?_
  refine st rfl rfl (eff_subw rfl rfl rfl) rfl ?_
  refine st rfl rfl (eff_assigng rfl rfl) rfl ?_
  refine st_nil ?_
  refine aw_ret ?_
  obtain rfl := Option.some.inj hR
  exact res_c rfl (rv_g rfl)

/-- (calendar.Season).begin -/
def s138 (a0 : S67) : Option Int :=
  (bif decide (a0.Kind = (⟨#[83]⟩)) then bindO (s189 a0.Year 3) fun r1 => some r1 else bindO (s189 a0.Year 10) fun r2 => some r2)
theorem c138 (a0 : S67) {R : Int}   (hR : s138 a0 = some R) : Con (EG glT) 138 [G.agg [G.int a0.Year, G.str a0.Kind]] (G.int R) := by
  unfold s138 at hR
  refine con_of_aw Tryz.func138 rfl rfl fun w0 M0 => ?_
  refine aw_seq ?_
  refine aw_region [.p, .p] ?_
  refine st rfl rfl (eff_box rfl rfl) rfl ?_
  refine st rfl rfl (eff_assigng rfl rfl) rfl ?_
  refine st_nil ?_
  refine aw_seq ?_
  refine aw_seq ?_
  refine aw_region [.p, .p, .p] ?_
  refine st rfl rfl (eff_fieldAddr rfl fl68_1 rfl) rfl ?_
  refine st rfl rfl (eff_load rfl ty9 rfl) rfl ?_
  refine st rfl rfl (eff_seq rfl rfl rfl) rfl ?_
  refine st_nil ?_
  refine aw_cond _ rfl (fun h1 => ?_) (fun h1 => ?_)
  · replace h1 : (decide (a0.Kind = (⟨#[83]⟩))) = true := h1
    replace hR := condT hR h1
    try simp only [Bool.or_eq_true, Bool.and_eq_true, Bool.or_eq_false_iff, Bool.and_eq_false_iff, Bool.not_eq_true', Bool.not_eq_false', decide_eq_true_eq, decide_eq_false_iff_not] at h1
    refine aw_seq ?_
    obtain ⟨r1, br1, hR⟩ := bindO_inv hR
    refine aw_region [.p, .p, .p, .p] ?_
    refine st rfl rfl (eff_fieldAddr rfl fl68_0 rfl) rfl ?_
    refine st rfl rfl (eff_load rfl ty3 rfl) rfl ?_
    refine st rfl rfl (eff_call rfl K189 rfl (c189 a0.Year 3 (by first | assumption | omega | (simp [copyL_len]; omega)) br1) (ag_cons rfl (ag_cons rfl ag_nil))) rfl ?_
    refine st rfl rfl (eff_assigng rfl rfl) rfl ?_
    refine st_nil ?_
    refine aw_ret ?_
    obtain rfl := Option.some.inj hR
    exact res_c rfl (rv_g rfl)
  · replace h1 : (decide (a0.Kind = (⟨#[83]⟩))) = false := h1
    replace hR := condF hR h1
    try simp only [Bool.or_eq_true, Bool.and_eq_true, Bool.or_eq_false_iff, Bool.and_eq_false_iff, Bool.not_eq_true', Bool.not_eq_false', decide_eq_true_eq, decide_eq_false_iff_not] at h1
    refine aw_skip ?_
    refine aw_seq ?_
    obtain ⟨r2, br2, hR⟩ := bindO_inv hR
    refine aw_region [.p, .p, .p, .p] ?_
    refine st rfl rfl (eff_fieldAddr rfl fl68_0 rfl) rfl ?_
    refine st rfl rfl (eff_load rfl ty3 rfl) rfl ?_
    refine st rfl rfl (eff_call rfl K189 rfl (c189 a0.Year 10 (by first | assumption | omega | (simp [copyL_len]; omega)) br2) (ag_cons rfl (ag_cons rfl ag_nil))) rfl ?_
    refine st rfl rfl (eff_assigng rfl rfl) rfl ?_
    refine st_nil ?_
    refine aw_ret ?_
    obtain rfl := Option.some.inj hR
    exact res_c rfl (rv_g rfl)

/-- (calendar.Season).next -/
def s139 (a0 : S67) : S67 :=
  (bif decide (a0.Kind = (⟨#[83]⟩)) then (S67.mk a0.Year (⟨#[87]⟩)) else (S67.mk (IntKind.i64.wrap (a0.Year + 1)) (⟨#[83]⟩)))
theorem c139 {g : List (Nat × List Value)} (a0 : S67)    : Con (EG g) 139 [G.agg [G.int a0.Year, G.str a0.Kind]] (G.agg [G.int ((s139 a0).Year), G.str ((s139 a0).Kind)]) := by
  generalize hR : s139 a0 = R
  unfold s139 at hR
  refine con_of_aw Tryz.func139 rfl rfl fun w0 M0 => ?_
  refine aw_seq ?_
  refine aw_region [.p, .w] ?_
  refine st rfl rfl (eff_box rfl rfl) rfl ?_
  refine st_w rfl rfl (eff_alloc 2 rfl z68 rfl rfl) rfl ?_
  refine st_nil ?_
  refine aw_seq ?_
  refine aw_seq ?_
  refine aw_region [.p, .p, .p] ?_
  refine st rfl rfl (eff_fieldAddr rfl fl68_1 rfl) rfl ?_
  refine st rfl rfl (eff_load rfl ty9 rfl) rfl ?_
  refine st rfl rfl (eff_seq rfl rfl rfl) rfl ?_
  refine st_nil ?_
  refine aw_cond _ rfl (fun h1 => ?_) (fun h1 => ?_)
  · replace h1 : (decide (a0.Kind = (⟨#[83]⟩))) = true := h1
    replace hR := condT hR h1
    try simp only [Bool.or_eq_true, Bool.and_eq_true, Bool.or_eq_false_iff, Bool.and_eq_false_iff, Bool.not_eq_true', Bool.not_eq_false', decide_eq_true_eq, decide_eq_false_iff_not] at h1
    refine aw_seq ?_
    refine aw_region [.p, .p, .p, .w] ?_
    refine st rfl rfl (eff_fieldAddr rfl fl68_0 rfl) rfl ?_
    refine st rfl rfl (eff_load rfl ty3 rfl) rfl ?_
    refine st rfl rfl (eff_build rfl z68 rfl pl68 (pb_cons rfl (pb_cons rfl pb_nil)) rfl) rfl ?_
    refine st_wn rfl rfl (eff_store (tv := .g (G.agg [G.int a0.Year, G.str (⟨#[87]⟩)])) rfl ty68 rfl rfl rfl rfl rfl) ?_
    refine st_nil ?_
    refine aw_ret ?_
    subst hR
    exact res_c rfl (rv_cell rfl rfl ty68 rfl rfl)
  · replace h1 : (decide (a0.Kind = (⟨#[83]⟩))) = false := h1
    replace hR := condF hR h1
    try simp only [Bool.or_eq_true, Bool.and_eq_true, Bool.or_eq_false_iff, Bool.and_eq_false_iff, Bool.not_eq_true', Bool.not_eq_false', decide_eq_true_eq, decide_eq_false_iff_not] at h1
    refine aw_skip ?_
    refine aw_seq ?_
    refine aw_region [.p, .p, .p, .p, .w] ?_
    refine st rfl rfl (eff_fieldAddr rfl fl68_0 rfl) rfl ?_
    refine st rfl rfl (eff_load rfl ty3 rfl) rfl ?_
    refine st rfl rfl (eff_addw rfl rfl rfl) rfl ?_
    refine st rfl rfl (eff_build rfl z68 rfl pl68 (pb_cons rfl (pb_cons rfl pb_nil)) rfl) rfl ?_
    refine st_wn rfl rfl (eff_store (tv := .g (G.agg [G.int (IntKind.i64.wrap (a0.Year + 1)), G.str (⟨#[83]⟩)])) rfl ty68 rfl rfl rfl rfl rfl) ?_
    refine st_nil ?_
    refine aw_ret ?_
    subst hR
    exact res_c rfl (rv_cell rfl rfl ty68 rfl rfl)

/-- calendar.earliest -/
def s193  : S67 :=
  (S67.mk 2000 (⟨#[83]⟩))
theorem c193 {g : List (Nat × List Value)}     : Con (EG g) 193 [] (G.agg [G.int s193.Year, G.str s193.Kind]) := by
  generalize hR : s193  = R
  unfold s193 at hR
  refine con_of_aw Tryz.func193 rfl rfl fun w0 M0 => ?_
  refine aw_seq ?_
  refine aw_region [.w] ?_
  refine st_w rfl rfl (eff_alloc 0 rfl z68 rfl rfl) rfl ?_
  refine st_nil ?_
  refine aw_seq ?_
  refine aw_region [.p, .w] ?_
  refine st rfl rfl (eff_build rfl z68 rfl pl68 (pb_cons rfl (pb_cons rfl pb_nil)) rfl) rfl ?_
  refine st_wn rfl rfl (eff_store (tv := .g (G.agg [G.int 2000, G.str (⟨#[83]⟩)])) rfl ty68 rfl rfl rfl rfl rfl) ?_
  refine st_nil ?_
  refine aw_ret ?_
  subst hR
  exact res_c rfl (rv_cell rfl rfl ty68 rfl rfl)

/-- calendar.latest -/
def s194  : S67 :=
  (S67.mk 2272 (⟨#[87]⟩))
theorem c194 {g : List (Nat × List Value)}     : Con (EG g) 194 [] (G.agg [G.int s194.Year, G.str s194.Kind]) := by
  generalize hR : s194  = R
  unfold s194 at hR
  refine con_of_aw Tryz.func194 rfl rfl fun w0 M0 => ?_
  refine aw_seq ?_
  refine aw_region [.w] ?_
  refine st_w rfl rfl (eff_alloc 0 rfl z68 rfl rfl) rfl ?_
  refine st_nil ?_
  refine aw_seq ?_
  refine aw_region [.p, .w] ?_
  refine st rfl rfl (eff_build rfl z68 rfl pl68 (pb_cons rfl (pb_cons rfl pb_nil)) rfl) rfl ?_
  refine st_wn rfl rfl (eff_store (tv := .g (G.agg [G.int 2272, G.str (⟨#[87]⟩)])) rfl ty68 rfl rfl rfl rfl rfl) ?_
  refine st_nil ?_
  refine aw_ret ?_
  subst hR
  exact res_c rfl (rv_cell rfl rfl ty68 rfl rfl)

/-- calendar.weekOf -/
def s196 (a0 : Int) : Int :=
  IntKind.i64.wrap (Int.tdiv (IntKind.i64.wrap (a0 + 5)) 7)
theorem c196 {g : List (Nat × List Value)} (a0 : Int)    : Con (EG g) 196 [G.int a0] (G.int (s196 a0)) := by
  generalize hR : s196 a0 = R
  unfold s196 at hR
  refine con_of_aw Tryz.func196 rfl rfl fun w0 M0 => ?_
  refine aw_seq ?_
  refine aw_region [.p] ?_
  refine st rfl rfl (eff_assigng rfl rfl) rfl ?_
  refine st_nil ?_
  refine aw_seq ?_
  refine aw_region [.p, .p, .p, .p] ?_
  refine st rfl rfl (eff_moveg rfl rfl) rfl ?_
  refine st rfl rfl (eff_addw rfl rfl rfl) rfl ?_
  refine st rfl rfl (eff_quow rfl rfl rfl (by decide)) rfl ?_
  refine st rfl rfl (eff_assigng rfl rfl) rfl ?_
  refine st_nil ?_
  refine aw_ret ?_
  subst hR
  exact res_c rfl (rv_g rfl)

/-- calendar.CheckSeason -/
def s107 (a0 : S67) : Int :=
  (s152 [(s155 a0.Year 2000 2272), (s154 ((!decide (a0.Kind = (⟨#[83]⟩))) && (!decide (a0.Kind = (⟨#[87]⟩)))) 13)])
theorem c107 {g : List (Nat × List Value)} (a0 : S67)    : Con (EG g) 107 [G.agg [G.int a0.Year, G.str a0.Kind]] (G.int (s107 a0)) := by
  generalize hR : s107 a0 = R
  unfold s107 at hR
  refine con_of_aw Tryz.func107 rfl rfl fun w0 M0 => ?_
  refine aw_seq ?_
  refine aw_region [.p, .p] ?_
  refine st rfl rfl (eff_box rfl rfl) rfl ?_
  refine st rfl rfl (eff_assigng rfl rfl) rfl ?_
  refine st_nil ?_
  refine aw_seq ?_
  refine aw_draw [.p, .p, .p, .p, .p, .p, .p, .p, .p, .p, .p, .p, .p, .p, .p] (by kernel_rfl) ?_
  refine st rfl rfl (eff_fieldAddr rfl fl68_0 rfl) rfl ?_
  refine st rfl rfl (eff_load rfl ty3 rfl) rfl ?_
  refine st rfl rfl (eff_call rfl K155 rfl (c155 a0.Year 2000 2272) (ag_cons rfl (ag_cons rfl (ag_cons rfl ag_nil)))) rfl ?_
  refine st rfl rfl (eff_fieldAddr rfl fl68_1 rfl) rfl ?_
  refine st rfl rfl (eff_load rfl ty9 rfl) rfl ?_
  refine st rfl rfl (eff_sne rfl rfl rfl) rfl ?_
  refine st rfl rfl (eff_moveg rfl rfl) rfl ?_
  refine st_g rfl rfl rfl (gb_bool _ _) (fun h => eff_fieldAddr rfl fl68_1 rfl) rfl ?_
  refine st_g rfl rfl rfl (gb_bool _ _) (fun h => eff_load rfl ty9 (gd h rfl)) rfl ?_
  refine st_g rfl rfl rfl (gb_bool _ _) (fun h => eff_sne rfl (gd h rfl) rfl) rfl ?_
  refine st rfl rfl (eff_and rfl rfl rfl rfl) rfl ?_
  refine st rfl rfl (eff_call rfl K154 rfl (c154 ((!decide (a0.Kind = (⟨#[83]⟩))) && (!decide (a0.Kind = (⟨#[87]⟩)))) 13) (ag_cons rfl (ag_cons rfl ag_nil))) rfl ?_
  refine st rfl rfl (eff_buildSlice rfl Tryz.underlying170 ty37 z37 rfl (ps_cons rfl (ps_cons rfl ps_nil)) rfl (by simp []) (by decide)) rfl ?_
  refine st rfl rfl (eff_call rfl K152 rfl (c152 [(s155 a0.Year 2000 2272), (s154 ((!decide (a0.Kind = (⟨#[83]⟩))) && (!decide (a0.Kind = (⟨#[87]⟩)))) 13)]) (ag_cons rfl ag_nil)) rfl ?_
  refine st rfl rfl (eff_assigng rfl rfl) rfl ?_
  refine st_nil ?_
  refine aw_ret ?_
  subst hR
  exact res_c rfl (rv_g rfl)

/-- turnroundref01.leap -/
def s224 (a0 : Int) : Bool :=
  (decide (Int.tmod a0 4 = 0)) && ((decide (Int.tmod a0 100 ≠ 0)) || (decide (Int.tmod a0 400 = 0)))
theorem c224 {g : List (Nat × List Value)} (a0 : Int)    : Con (EG g) 224 [G.int a0] (G.bool (s224 a0)) := by
  generalize hR : s224 a0 = R
  unfold s224 at hR
  refine con_of_aw Tryz.func224 rfl rfl fun w0 M0 => ?_
  refine aw_seq ?_
  refine aw_region [.p] ?_
  refine st rfl rfl (eff_assigng rfl rfl) rfl ?_
  refine st_nil ?_
  refine aw_seq ?_
  refine aw_region [.p, .p, .p, .p, .p, .p, .p, .p, .p, .p, .p, .p, .p, .p] ?_
  refine st rfl rfl (eff_moveg rfl rfl) rfl ?_
  refine st rfl rfl (eff_remt rfl rfl rfl (by decide)) rfl ?_
  refine st rfl rfl (eff_eql rfl rfl rfl) rfl ?_
  refine st rfl rfl (eff_moveg rfl rfl) rfl ?_
  refine st_g rfl rfl rfl (gb_bool _ _) (fun h => eff_moveg rfl rfl) rfl ?_
  refine st_g rfl rfl rfl (gb_bool _ _) (fun h => eff_remt rfl (gd h rfl) rfl (by decide)) rfl ?_
  refine st_g rfl rfl rfl (gb_bool _ _) (fun h => eff_neq rfl (gd h rfl) rfl) rfl ?_
  refine st_g rfl rfl rfl (gb_bool _ _) (fun h => eff_moveg rfl (gd h rfl)) rfl ?_
  refine st_g rfl rfl rfl (gb_if _ _ _) (fun h => eff_moveg rfl rfl) rfl ?_
  refine st_g rfl rfl rfl (gb_if _ _ _) (fun h => eff_remt rfl (gd h rfl) rfl (by decide)) rfl ?_
  refine st_g rfl rfl rfl (gb_if _ _ _) (fun h => eff_eql rfl (gd h rfl) rfl) rfl ?_
  refine st_g rfl rfl rfl (gb_bool _ _) (fun h => eff_or rfl (gd h rfl) rfl (gd2 h rfl)) rfl ?_
  refine st rfl rfl (eff_and rfl rfl rfl rfl) rfl ?_
  refine st rfl rfl (eff_assigng rfl rfl) rfl ?_
  refine st_nil ?_
  refine aw_ret ?_
  subst hR
  exact res_c rfl (rv_g rfl)

/-- turnroundref01.Length -/
def s199 (a0 : Int) (a1 : Int) : Int :=
  (bif decide (a1 = 2) then (bif (s224 a0) then 29 else 28) else (bif (((decide (a1 = 4)) || (decide (a1 = 6))) || (decide (a1 = 9))) || (decide (a1 = 11)) then 30 else 31))
theorem c199 {g : List (Nat × List Value)} (a0 : Int) (a1 : Int)    : Con (EG g) 199 [G.int a0, G.int a1] (G.int (s199 a0 a1)) := by
  generalize hR : s199 a0 a1 = R
  unfold s199 at hR
  refine con_of_aw Tryz.func199 rfl rfl fun w0 M0 => ?_
  refine aw_seq ?_
  refine aw_region [.p] ?_
  refine st rfl rfl (eff_assigng rfl rfl) rfl ?_
  refine st_nil ?_
  refine aw_seq ?_
  refine aw_seq ?_
  refine aw_region [.p, .p] ?_
  refine st rfl rfl (eff_moveg rfl rfl) rfl ?_
  refine st rfl rfl (eff_eql rfl rfl rfl) rfl ?_
  refine st_nil ?_
  refine aw_cond _ rfl (fun h1 => ?_) (fun h1 => ?_)
  · replace h1 : (decide (a1 = 2)) = true := h1
    replace hR := condT hR h1
    try simp only [Bool.or_eq_true, Bool.and_eq_true, Bool.or_eq_false_iff, Bool.and_eq_false_iff, Bool.not_eq_true', Bool.not_eq_false', decide_eq_true_eq, decide_eq_false_iff_not] at h1
    refine aw_seq ?_
    refine aw_seq ?_
    refine aw_region [.p, .p] ?_
    refine st rfl rfl (eff_moveg rfl rfl) rfl ?_
    refine st rfl rfl (eff_call rfl K224 rfl (c224 a0) (ag_cons rfl ag_nil)) rfl ?_
    refine st_nil ?_
    refine aw_cond _ rfl (fun h2 => ?_) (fun h2 => ?_)
    · replace h2 : ((s224 a0)) = true := h2
      replace hR := condT hR h2
      try simp only [Bool.or_eq_true, Bool.and_eq_true, Bool.or_eq_false_iff, Bool.and_eq_false_iff, Bool.not_eq_true', Bool.not_eq_false', decide_eq_true_eq, decide_eq_false_iff_not] at h2
      refine aw_seq ?_
      refine aw_region [.p] ?_
      refine st rfl rfl (eff_assigng rfl rfl) rfl ?_
      refine st_nil ?_
      refine aw_ret ?_
      subst hR
      exact res_c rfl (rv_g rfl)
    · replace h2 : ((s224 a0)) = false := h2
      replace hR := condF hR h2
      try simp only [Bool.or_eq_true, Bool.and_eq_true, Bool.or_eq_false_iff, Bool.and_eq_false_iff, Bool.not_eq_true', Bool.not_eq_false', decide_eq_true_eq, decide_eq_false_iff_not] at h2
      refine aw_skip ?_
      refine aw_seq ?_
      refine aw_region [.p] ?_
      refine st rfl rfl (eff_assigng rfl rfl) rfl ?_
      refine st_nil ?_
      refine aw_ret ?_
      subst hR
      exact res_c rfl (rv_g rfl)
  · replace h1 : (decide (a1 = 2)) = false := h1
    replace hR := condF hR h1
    try simp only [Bool.or_eq_true, Bool.and_eq_true, Bool.or_eq_false_iff, Bool.and_eq_false_iff, Bool.not_eq_true', Bool.not_eq_false', decide_eq_true_eq, decide_eq_false_iff_not] at h1
    refine aw_skip ?_
    refine aw_seq ?_
    refine aw_seq ?_
    refine aw_region [.p, .p, .p, .p, .p, .p, .p, .p, .p, .p, .p, .p, .p, .p] ?_
    refine st rfl rfl (eff_moveg rfl rfl) rfl ?_
    refine st rfl rfl (eff_eql rfl rfl rfl) rfl ?_
    refine st rfl rfl (eff_moveg rfl rfl) rfl ?_
    refine st_g rfl rfl rfl (gb_bool _ _) (fun h => eff_moveg rfl rfl) rfl ?_
    refine st_g rfl rfl rfl (gb_bool _ _) (fun h => eff_eql rfl (gd h rfl) rfl) rfl ?_
    refine st rfl rfl (eff_or rfl rfl rfl rfl) rfl ?_
    refine st rfl rfl (eff_moveg rfl rfl) rfl ?_
    refine st_g rfl rfl rfl (gb_bool _ _) (fun h => eff_moveg rfl rfl) rfl ?_
    refine st_g rfl rfl rfl (gb_bool _ _) (fun h => eff_eql rfl (gd h rfl) rfl) rfl ?_
    refine st rfl rfl (eff_or rfl rfl rfl rfl) rfl ?_
    refine st rfl rfl (eff_moveg rfl rfl) rfl ?_
    refine st_g rfl rfl rfl (gb_bool _ _) (fun h => eff_moveg rfl rfl) rfl ?_
    refine st_g rfl rfl rfl (gb_bool _ _) (fun h => eff_eql rfl (gd h rfl) rfl) rfl ?_
    refine st rfl rfl (eff_or rfl rfl rfl rfl) rfl ?_
    refine st_nil ?_
    refine aw_cond _ rfl (fun h3 => ?_) (fun h3 => ?_)
    · replace h3 : ((((decide (a1 = 4)) || (decide (a1 = 6))) || (decide (a1 = 9))) || (decide (a1 = 11))) = true := h3
      replace hR := condT hR h3
      try simp only [Bool.or_eq_true, Bool.and_eq_true, Bool.or_eq_false_iff, Bool.and_eq_false_iff, Bool.not_eq_true', Bool.not_eq_false', decide_eq_true_eq, decide_eq_false_iff_not] at h3
      refine aw_seq ?_
      refine aw_region [.p] ?_
      refine st rfl rfl (eff_assigng rfl rfl) rfl ?_
      refine st_nil ?_
      refine aw_ret ?_
      subst hR
      exact res_c rfl (rv_g rfl)
    · replace h3 : ((((decide (a1 = 4)) || (decide (a1 = 6))) || (decide (a1 = 9))) || (decide (a1 = 11))) = false := h3
      replace hR := condF hR h3
      try simp only [Bool.or_eq_true, Bool.and_eq_true, Bool.or_eq_false_iff, Bool.and_eq_false_iff, Bool.not_eq_true', Bool.not_eq_false', decide_eq_true_eq, decide_eq_false_iff_not] at h3
      refine aw_skip ?_
      refine aw_seq ?_
      refine aw_region [.p] ?_
      refine st rfl rfl (eff_assigng rfl rfl) rfl ?_
      refine st_nil ?_
      refine aw_ret ?_
      subst hR
      exact res_c rfl (rv_g rfl)

/-- turnroundref01.yearLength -/
def s198 (a0 : Int) : Int :=
  (bif (s224 a0) then 366 else 365)
theorem c198 {g : List (Nat × List Value)} (a0 : Int)    : Con (EG g) 198 [G.int a0] (G.int (s198 a0)) := by
  generalize hR : s198 a0 = R
  unfold s198 at hR
  refine con_of_aw Tryz.func198 rfl rfl fun w0 M0 => ?_
  refine aw_seq ?_
  refine aw_region [.p] ?_
  refine st rfl rfl (eff_assigng rfl rfl) rfl ?_
  refine st_nil ?_
  refine aw_seq ?_
  refine aw_seq ?_
  refine aw_region [.p, .p] ?_
  refine st rfl rfl (eff_moveg rfl rfl) rfl ?_
  refine st rfl rfl (eff_call rfl K224 rfl (c224 a0) (ag_cons rfl ag_nil)) rfl ?_
  refine st_nil ?_
  refine aw_cond _ rfl (fun h1 => ?_) (fun h1 => ?_)
  · replace h1 : ((s224 a0)) = true := h1
    replace hR := condT hR h1
    try simp only [Bool.or_eq_true, Bool.and_eq_true, Bool.or_eq_false_iff, Bool.and_eq_false_iff, Bool.not_eq_true', Bool.not_eq_false', decide_eq_true_eq, decide_eq_false_iff_not] at h1
    refine aw_seq ?_
    refine aw_region [.p] ?_
    refine st rfl rfl (eff_assigng rfl rfl) rfl ?_
    refine st_nil ?_
    refine aw_ret ?_
    subst hR
    exact res_c rfl (rv_g rfl)
  · replace h1 : ((s224 a0)) = false := h1
    replace hR := condF hR h1
    try simp only [Bool.or_eq_true, Bool.and_eq_true, Bool.or_eq_false_iff, Bool.and_eq_false_iff, Bool.not_eq_true', Bool.not_eq_false', decide_eq_true_eq, decide_eq_false_iff_not] at h1
    refine aw_skip ?_
    refine aw_seq ?_
    refine aw_region [.p] ?_
    refine st rfl rfl (eff_assigng rfl rfl) rfl ?_
    refine st_nil ?_
    refine aw_ret ?_
    subst hR
    exact res_c rfl (rv_g rfl)

/-- turnroundref01.Day -/
def s200_l2  : Nat → Int → Int → Int
  | 0, x5, x6 => x5
  | k8 + 1, x5, x6 => s200_l2 k8 (IntKind.i64.wrap (x5 + (s198 x6))) (x6 + 1)
def s200_l1 (a0 : Int) : Nat → Int → Int → Int
  | 0, x1, x2 => s200_l2 ((a0 - 2000).toNat) x1 2000
  | k4 + 1, x1, x2 => s200_l1 a0 k4 (IntKind.i64.wrap (x1 + (s199 a0 x2))) (x2 + 1)
def s200 (a0 : Int) (a1 : Int) (a2 : Int) : Int :=
  s200_l1 a0 ((a1 - 1).toNat) (IntKind.i64.wrap (a2 - 1)) 1
theorem c200 {g : List (Nat × List Value)} (a0 : Int) (a1 : Int) (a2 : Int)  (hy : a0 ≤ 3000) (hm : a1 ≤ 12)  : Con (EG g) 200 [G.int a0, G.int a1, G.int a2] (G.int (s200 a0 a1 a2)) := by
  generalize hR : s200 a0 a1 a2 = R
  unfold s200 at hR
  refine con_of_aw Tryz.func200 rfl rfl fun w0 M0 => ?_
  refine aw_seq ?_
  refine aw_region [.p] ?_
  refine st rfl rfl (eff_assigng rfl rfl) rfl ?_
  refine st_nil ?_
  refine aw_seq ?_
  refine aw_region [.p, .p, .p] ?_
  refine st rfl rfl (eff_moveg rfl rfl) rfl ?_
  refine st rfl rfl (eff_subw rfl rfl rfl) rfl ?_
  refine st rfl rfl (eff_assigng rfl rfl) rfl ?_
  refine st_nil ?_
  refine aw_seq ?_
  refine aw_seq ?_
  refine aw_region [.p] ?_
  refine st rfl rfl (eff_assigng rfl rfl) rfl ?_
  refine st_nil ?_
  refine aw_block ?_
  refine aw_loop_g (γ := Nat × Int × Int) (fun g => ([(0, .g (G.int a0)), (1, .g (G.int a1)), (7, .g (G.int g.2.1)), (8, .g (G.int g.2.2))], [])) (fun g => g.1 = (a1 - g.2.2).toNat ∧ 1 ≤ g.2.2 ∧ s200_l1 a0 g.1 g.2.1 g.2.2 = R) (fun g => g.1) ⟨rfl, ((a1 - 1).toNat, IntKind.i64.wrap (a2 - 1), 1), ⟨rfl, rfl, rfl, rfl, trivial⟩, trivial, rfl, ⟨rfl, (by first | omega | (dsimp only; omega) | simp), hR⟩, trivial⟩ ?_
  · rintro ⟨k4, x1, x2⟩ ⟨hk1, iv1_0, hR⟩
    replace hk1 : k4 = (a1 - x2).toNat := hk1
    replace hR : s200_l1 a0 k4 x1 x2 = R := hR
    replace iv1_0 : 1 ≤ x2 := iv1_0
    refine aw_seq ?_
    refine aw_seq ?_
    refine aw_region [.p, .p, .p] ?_
    refine st rfl rfl (eff_moveg rfl rfl) rfl ?_
    refine st rfl rfl (eff_moveg rfl rfl) rfl ?_
    refine st rfl rfl (eff_lss rfl rfl rfl) rfl ?_
    refine st_nil ?_
    refine aw_cond _ rfl (fun h1 => ?_) (fun h1 => ?_)
    · replace h1 : (decide (x2 < a1)) = true := h1
      replace h1 := decT h1
      obtain ⟨k4, rfl⟩ : ∃ m, k4 = m + 1 := ⟨k4 - 1, by omega⟩
      rw [s200_l1] at hR
      try dsimp only at hR
      refine aw_skip ?_
      refine aw_seq ?_
      refine aw_block ?_
      refine aw_region [.p, .p, .p, .p, .p, .p] ?_
      refine st rfl rfl (eff_moveg rfl rfl) rfl ?_
      refine st rfl rfl (eff_moveg rfl rfl) rfl ?_
      refine st rfl rfl (eff_moveg rfl rfl) rfl ?_
      refine st rfl rfl (eff_call rfl K199 rfl (c199 a0 x2) (ag_cons rfl (ag_cons rfl ag_nil))) rfl ?_
      refine st rfl rfl (eff_addw rfl rfl rfl) rfl ?_
      refine st rfl rfl (eff_assigng rfl rfl) rfl ?_
      refine st_nil ?_
      refine aw_region [.p, .p, .p] ?_
      refine st rfl rfl (eff_moveg rfl rfl) rfl ?_
      refine st rfl rfl (eff_add rfl rfl rfl (by (try dsimp only); unfold I64; omega)) rfl ?_
      refine st rfl rfl (eff_assigng rfl rfl) rfl ?_
      refine st_nil ?_
      exact ⟨rfl, (k4, IntKind.i64.wrap (x1 + (s199 a0 x2)), x2 + 1), ⟨rfl, rfl, rfl, rfl, trivial⟩, trivial, rfl, ⟨(by first | omega | (dsimp only; omega) | (simp at *; omega)), (by first | omega | (dsimp only; omega) | (simp at *; omega)), hR⟩, by simp⟩
    · replace h1 : (decide (x2 < a1)) = false := h1
      replace h1 := decF h1
      obtain rfl : k4 = 0 := by omega
      rw [s200_l1] at hR
      refine aw_exit ?_
      refine aw_seq ?_
      refine aw_seq ?_
      refine aw_region [.p] ?_
      refine st rfl rfl (eff_assigng rfl rfl) rfl ?_
      refine st_nil ?_
      refine aw_block ?_
      refine aw_loop_g (γ := Nat × Int × Int) (fun g => ([(0, .g (G.int a0)), (7, .g (G.int g.2.1)), (9, .g (G.int g.2.2))], [])) (fun g => g.1 = (a0 - g.2.2).toNat ∧ 2000 ≤ g.2.2 ∧ s200_l2 g.1 g.2.1 g.2.2 = R) (fun g => g.1) ⟨rfl, ((a0 - 2000).toNat, x1, 2000), ⟨rfl, rfl, rfl, trivial⟩, trivial, rfl, ⟨rfl, (by first | omega | (dsimp only; omega) | simp), hR⟩, trivial⟩ ?_
      · rintro ⟨k8, x5, x6⟩ ⟨hk2, iv2_0, hR⟩
        replace hk2 : k8 = (a0 - x6).toNat := hk2
        replace hR : s200_l2 k8 x5 x6 = R := hR
        replace iv2_0 : 2000 ≤ x6 := iv2_0
        refine aw_seq ?_
        refine aw_seq ?_
        refine aw_region [.p, .p, .p] ?_
        refine st rfl rfl (eff_moveg rfl rfl) rfl ?_
        refine st rfl rfl (eff_moveg rfl rfl) rfl ?_
        refine st rfl rfl (eff_lss rfl rfl rfl) rfl ?_
        refine st_nil ?_
        refine aw_cond _ rfl (fun h3 => ?_) (fun h3 => ?_)
        · replace h3 : (decide (x6 < a0)) = true := h3
          replace h3 := decT h3
          obtain ⟨k8, rfl⟩ : ∃ m, k8 = m + 1 := ⟨k8 - 1, by omega⟩
          rw [s200_l2] at hR
          try dsimp only at hR
          refine aw_skip ?_
          refine aw_seq ?_
          refine aw_block ?_
          refine aw_region [.p, .p, .p, .p, .p] ?_
          refine st rfl rfl (eff_moveg rfl rfl) rfl ?_
          refine st rfl rfl (eff_moveg rfl rfl) rfl ?_
          refine st rfl rfl (eff_call rfl K198 rfl (c198 x6) (ag_cons rfl ag_nil)) rfl ?_
          refine st rfl rfl (eff_addw rfl rfl rfl) rfl ?_
          refine st rfl rfl (eff_assigng rfl rfl) rfl ?_
          refine st_nil ?_
          refine aw_region [.p, .p, .p] ?_
          refine st rfl rfl (eff_moveg rfl rfl) rfl ?_
          refine st rfl rfl (eff_add rfl rfl rfl (by (try dsimp only); unfold I64; omega)) rfl ?_
          refine st rfl rfl (eff_assigng rfl rfl) rfl ?_
          refine st_nil ?_
          exact ⟨rfl, (k8, IntKind.i64.wrap (x5 + (s198 x6)), x6 + 1), ⟨rfl, rfl, rfl, trivial⟩, trivial, rfl, ⟨(by first | omega | (dsimp only; omega) | (simp at *; omega)), (by first | omega | (dsimp only; omega) | (simp at *; omega)), hR⟩, by simp⟩
        · replace h3 : (decide (x6 < a0)) = false := h3
          replace h3 := decF h3
          obtain rfl : k8 = 0 := by omega
          rw [s200_l2] at hR
          refine aw_exit ?_
          refine aw_seq ?_
          refine aw_region [.p, .p] ?_
          refine st rfl rfl (eff_moveg rfl rfl) rfl ?_
          refine st rfl rfl (eff_assigng rfl rfl) rfl ?_
          refine st_nil ?_
          refine aw_ret ?_
          subst hR
          exact res_c rfl (rv_g rfl)

/-- turnroundref01.Week -/
def s163 (a0 : Int) : Int :=
  IntKind.i64.wrap (Int.tdiv (IntKind.i64.wrap (a0 + 5)) 7)
theorem c163 {g : List (Nat × List Value)} (a0 : Int)    : Con (EG g) 163 [G.int a0] (G.int (s163 a0)) := by
  generalize hR : s163 a0 = R
  unfold s163 at hR
  refine con_of_aw Tryz.func163 rfl rfl fun w0 M0 => ?_
  refine aw_seq ?_
  refine aw_region [.p] ?_
  refine st rfl rfl (eff_assigng rfl rfl) rfl ?_
  refine st_nil ?_
  refine aw_seq ?_
  refine aw_region [.p, .p, .p, .p] ?_
  refine st rfl rfl (eff_moveg rfl rfl) rfl ?_
  refine st rfl rfl (eff_addw rfl rfl rfl) rfl ?_
  refine st rfl rfl (eff_quow rfl rfl rfl (by decide)) rfl ?_
  refine st rfl rfl (eff_assigng rfl rfl) rfl ?_
  refine st_nil ?_
  refine aw_ret ?_
  subst hR
  exact res_c rfl (rv_g rfl)

/-- turnroundref01.CheckSeason -/
def s41_j1  (x1 : Int) : Int :=
  x1
def s41 (a0 : S67) : Int :=
  (bif ((decide ((s90 a0.Year 2000 2272) = 0)) && (!decide (a0.Kind = (⟨#[83]⟩)))) && (!decide (a0.Kind = (⟨#[87]⟩))) then s41_j1 13 else s41_j1 (s90 a0.Year 2000 2272))
theorem c41 {g : List (Nat × List Value)} (a0 : S67)    : Con (EG g) 41 [G.agg [G.int a0.Year, G.str a0.Kind]] (G.int (s41 a0)) := by
  generalize hR : s41 a0 = R
  unfold s41 at hR
  refine con_of_aw Tryz.func41 rfl rfl fun w0 M0 => ?_
  refine aw_seq ?_
  refine aw_region [.p, .p] ?_
  refine st rfl rfl (eff_box rfl rfl) rfl ?_
  refine st rfl rfl (eff_assigng rfl rfl) rfl ?_
  refine st_nil ?_
  refine aw_seq ?_
  refine aw_region [.p, .p, .p, .p] ?_
  refine st rfl rfl (eff_fieldAddr rfl fl74_0 rfl) rfl ?_
  refine st rfl rfl (eff_load rfl ty3 rfl) rfl ?_
  refine st rfl rfl (eff_call rfl K90 rfl (c90 a0.Year 2000 2272) (ag_cons rfl (ag_cons rfl (ag_cons rfl ag_nil)))) rfl ?_
  refine st rfl rfl (eff_assigng rfl rfl) rfl ?_
  refine st_nil ?_
  refine aw_cut_g (γ := Int) (fun g => ([(3, .g (G.int g))], [])) (fun g => s41_j1 g = R) ?_ ?_
  · refine aw_seq ?_
    refine aw_region [.p, .p, .p, .p, .p, .p, .p, .p, .p, .p, .p, .p] ?_
    refine st rfl rfl (eff_moveg rfl rfl) rfl ?_
    refine st rfl rfl (eff_eql rfl rfl rfl) rfl ?_
    refine st rfl rfl (eff_moveg rfl rfl) rfl ?_
    refine st_g rfl rfl rfl (gb_bool _ _) (fun h => eff_fieldAddr rfl fl74_1 rfl) rfl ?_
    refine st_g rfl rfl rfl (gb_bool _ _) (fun h => eff_load rfl ty9 (gd h rfl)) rfl ?_
    refine st_g rfl rfl rfl (gb_bool _ _) (fun h => eff_sne rfl (gd h rfl) rfl) rfl ?_
    refine st rfl rfl (eff_and rfl rfl rfl rfl) rfl ?_
    refine st rfl rfl (eff_moveg rfl rfl) rfl ?_
    refine st_g rfl rfl rfl (gb_bool _ _) (fun h => eff_fieldAddr rfl fl74_1 rfl) rfl ?_
    refine st_g rfl rfl rfl (gb_bool _ _) (fun h => eff_load rfl ty9 (gd h rfl)) rfl ?_
    refine st_g rfl rfl rfl (gb_bool _ _) (fun h => eff_sne rfl (gd h rfl) rfl) rfl ?_
    refine st rfl rfl (eff_and rfl rfl rfl rfl) rfl ?_
    refine st_nil ?_
    refine aw_cond _ rfl (fun h1 => ?_) (fun h1 => ?_)
    · replace h1 : (((decide ((s90 a0.Year 2000 2272) = 0)) && (!decide (a0.Kind = (⟨#[83]⟩)))) && (!decide (a0.Kind = (⟨#[87]⟩)))) = true := h1
      replace hR := condT hR h1
      try simp only [Bool.or_eq_true, Bool.and_eq_true, Bool.or_eq_false_iff, Bool.and_eq_false_iff, Bool.not_eq_true', Bool.not_eq_false', decide_eq_true_eq, decide_eq_false_iff_not] at h1
      refine aw_region [.p] ?_
      refine st rfl rfl (eff_assigng rfl rfl) rfl ?_
      refine st_nil ?_
      exact ⟨rfl, 13, ⟨rfl, trivial⟩, trivial, rfl, hR, trivial⟩
    · replace h1 : (((decide ((s90 a0.Year 2000 2272) = 0)) && (!decide (a0.Kind = (⟨#[83]⟩)))) && (!decide (a0.Kind = (⟨#[87]⟩)))) = false := h1
      replace hR := condF hR h1
      try simp only [Bool.or_eq_true, Bool.and_eq_true, Bool.or_eq_false_iff, Bool.and_eq_false_iff, Bool.not_eq_true', Bool.not_eq_false', decide_eq_true_eq, decide_eq_false_iff_not] at h1
      refine aw_skip ?_
      exact ⟨rfl, (s90 a0.Year 2000 2272), ⟨rfl, trivial⟩, trivial, rfl, hR, trivial⟩
  · rintro x1 hR
    replace hR : s41_j1 x1 = R := hR
    unfold s41_j1 at hR
    refine aw_seq ?_
    refine aw_region [.p, .p] ?_
    refine st rfl rfl (eff_moveg rfl rfl) rfl ?_
    refine st rfl rfl (eff_assigng rfl rfl) rfl ?_
    refine st_nil ?_
    refine aw_ret ?_
    subst hR
    exact res_c rfl (rv_g rfl)
end Go.Sim

namespace Go.Sim
/-! ## the calendar: ranges -/
theorem s180_emod {x : Int} (h : 0 ≤ x) (h' : x ≤ 1000000000) : s180 x = (x + 5) % 7 := by
  unfold s180
  rw [wrap_i64 ⟨by omega, by omega⟩, Int.tmod_eq_emod_of_nonneg (by omega)]
theorem s222_rng (y : Int) : 365 ≤ s222 y ∧ s222 y ≤ 366 := by
  unfold s222; cases s248 y <;> decide
theorem s198_rng (y : Int) : 365 ≤ s198 y ∧ s198 y ≤ 366 := by
  unfold s198; cases s224 y <;> decide
theorem s199_rng (y m : Int) : 28 ≤ s199 y m ∧ s199 y m ≤ 31 := by
  unfold s199
  cases decide (m = 2)
  · rw [cond_false]; cases (((decide (m = 4)) || (decide (m = 6))) || (decide (m = 9))) || (decide (m = 11)) <;> decide
  · rw [cond_true]; cases s224 y <;> decide
theorem lenL_rng {i x : Int} (h : ixO lenL i = some x) : 28 ≤ x ∧ x ≤ 31 := by
  have h1 := ixO_get h
  have h2 := List.mem_of_getElem? h1
  unfold lenL at h2
  simp only [List.mem_cons, List.not_mem_nil, or_false] at h2
  omega
theorem s223_rng {y m r : Int} (h : s223 y m = some r) : 28 ≤ r ∧ r ≤ 32 := by
  unfold s223 at h
  cases hc : (decide (m = 2)) && (s248 y)
  · rw [hc, cond_false] at h
    obtain ⟨z, h1, h⟩ := bindO_inv h
    cases h
    have := lenL_rng h1
    omega
  · rw [hc, cond_true] at h
    obtain ⟨z, h1, h⟩ := bindO_inv h
    have := lenL_rng h1
    cases h
    rw [wrap_i64 ⟨by omega, by omega⟩]
    omega
end Go.Sim

set_option linter.unusedSimpArgs false
set_option linter.unusedVariables false
set_option maxRecDepth 10000
namespace Go.Sim
open Go.Proofs


/-- turnroundref01.LastSunday -/
def s162_l1  : Nat → Int → Option Int
  | 0, _ => none
  | k2 + 1, x1 => (bif decide ((s180 x1) ≠ 6) then s162_l1 k2 (IntKind.i64.wrap (x1 - 1)) else some x1)
def s162 (a0 : Int) (a1 : Int) : Option Int :=
  s162_l1 (((((s200 a0 a1 31) + 6) % 7).toNat) + 1) (s200 a0 a1 31)
theorem c162 {g : List (Nat × List Value)} (a0 : Int) (a1 : Int) {R : Int}  (hy : a0 ≤ 3000) (hm : a1 ≤ 12) (hr : 0 ≤ s200 a0 a1 31 ∧ s200 a0 a1 31 ≤ 1000000000) (hr2 : (s200 a0 a1 31 + 6) % 7 ≤ s200 a0 a1 31) (hR : s162 a0 a1 = some R) : Con (EG g) 162 [G.int a0, G.int a1] (G.int R) := by
  unfold s162 at hR
  refine con_of_aw Tryz.func162 rfl rfl fun w0 M0 => ?_
  refine aw_seq ?_
  refine aw_region [.p] ?_
  refine st rfl rfl (eff_assigng rfl rfl) rfl ?_
  refine st_nil ?_
  refine aw_seq ?_
  refine aw_region [.p, .p, .p, .p] ?_
  refine st rfl rfl (eff_moveg rfl rfl) rfl ?_
  refine st rfl rfl (eff_moveg rfl rfl) rfl ?_
  refine st rfl rfl (eff_call rfl K200 rfl (c200 a0 a1 31 (by first | assumption | omega | (simp [copyL_len]; omega)) (by first | assumption | omega | (simp [copyL_len]; omega))) (ag_cons rfl (ag_cons rfl (ag_cons rfl ag_nil)))) rfl ?_
  refine st rfl rfl (eff_assigng rfl rfl) rfl ?_
  refine st_nil ?_
  refine aw_seq ?_
  refine aw_block ?_
  refine aw_loop_g (γ := Nat × Int) (fun g => ([(5, .g (G.int g.2))], [])) (fun g => ((g.2 + 6) % 7).toNat < g.1 ∧ (g.2 + 6) % 7 ≤ g.2 ∧ g.2 ≤ 1000000000 ∧ s162_l1 g.1 g.2 = some R) (fun g => g.1) ⟨rfl, (((((s200 a0 a1 31) + 6) % 7).toNat) + 1, (s200 a0 a1 31)), ⟨rfl, trivial⟩, trivial, rfl, ⟨Nat.lt_succ_self _, (by first | omega | (dsimp only; omega) | simp), (by first | omega | (dsimp only; omega) | simp), hR⟩, trivial⟩ ?_
  · rintro ⟨k2, x1⟩ ⟨hk1, iv1_0, iv1_1, hR⟩
    replace hk1 : ((x1 + 6) % 7).toNat < k2 := hk1
    replace hR : s162_l1 k2 x1 = some R := hR
    replace iv1_0 : (x1 + 6) % 7 ≤ x1 := iv1_0
    replace iv1_1 : x1 ≤ 1000000000 := iv1_1
    obtain ⟨k2, rfl⟩ : ∃ m, k2 = m + 1 := ⟨k2 - 1, by omega⟩
    rw [s162_l1] at hR
    try dsimp only at hR
    refine aw_seq ?_
    refine aw_seq ?_
    refine aw_region [.p, .p, .p] ?_
    refine st rfl rfl (eff_moveg rfl rfl) rfl ?_
    refine st rfl rfl (eff_call rfl K180 rfl (c180 x1) (ag_cons rfl ag_nil)) rfl ?_
    refine st rfl rfl (eff_neq rfl rfl rfl) rfl ?_
    refine st_nil ?_
    refine aw_cond _ rfl (fun h1 => ?_) (fun h1 => ?_)
    · replace h1 : (decide ((s180 x1) ≠ 6)) = true := h1
      replace hR := condT hR h1
      try simp only [Bool.or_eq_true, Bool.and_eq_true, Bool.or_eq_false_iff, Bool.and_eq_false_iff, Bool.not_eq_true', Bool.not_eq_false', decide_eq_true_eq, decide_eq_false_iff_not] at h1
      refine aw_skip ?_
      refine aw_block ?_
      have hw := wrap_i64 (n := x1 - 1) ⟨by omega, by omega⟩
      have hq := s180_emod (x := x1) (by omega) (by omega)
      refine aw_region [.p, .p, .p] ?_
      refine st rfl rfl (eff_moveg rfl rfl) rfl ?_
      refine st rfl rfl (eff_subw rfl rfl rfl) rfl ?_
      refine st rfl rfl (eff_assigng rfl rfl) rfl ?_
      refine st_nil ?_
      exact ⟨rfl, (k2, IntKind.i64.wrap (x1 - 1)), ⟨rfl, trivial⟩, trivial, rfl, ⟨(by first | omega | (dsimp only; omega) | (simp at *; omega)), (by first | omega | (dsimp only; omega) | (simp at *; omega)), (by first | omega | (dsimp only; omega) | (simp at *; omega)), hR⟩, by simp⟩
    · replace h1 : (decide ((s180 x1) ≠ 6)) = false := h1
      replace hR := condF hR h1
      try simp only [Bool.or_eq_true, Bool.and_eq_true, Bool.or_eq_false_iff, Bool.and_eq_false_iff, Bool.not_eq_true', Bool.not_eq_false', decide_eq_true_eq, decide_eq_false_iff_not] at h1
      refine aw_exit ?_
      refine aw_seq ?_
      refine aw_region [.p, .p] ?_
      refine st rfl rfl (eff_moveg rfl rfl) rfl ?_
      refine st rfl rfl (eff_assigng rfl rfl) rfl ?_
      refine st_nil ?_
      refine aw_ret ?_
      obtain rfl := Option.some.inj hR
      exact res_c rfl (rv_g rfl)

/-- calendar.date -/
def s195_l2 (x2 : Int) : Nat → Int → Int → Option (Int × Int × Int)
  | 0, _, _ => none
  | k6 + 1, x4, x5 => bindO (s223 x2 x5) fun r7 => (bif decide (r7 ≤ x4) then bindO (s223 x2 x5) fun r8 => s195_l2 x2 k6 (IntKind.i64.wrap (x4 - r8)) (IntKind.i64.wrap (x5 + 1)) else some (x2, x5, IntKind.i64.wrap (1 + x4)))
def s195_l1  : Nat → Int → Int → Option (Int × Int × Int)
  | 0, _, _ => none
  | k3 + 1, x1, x2 => (bif decide ((s222 x2) ≤ x1) then s195_l1 k3 (IntKind.i64.wrap (x1 - (s222 x2))) (IntKind.i64.wrap (x2 + 1)) else s195_l2 x2 ((x1.toNat) + 1) x1 1)
def s195 (a0 : Int) : Option (Int × Int × Int) :=
  s195_l1 ((a0.toNat) + 1) a0 2000
theorem c195 (a0 : Int) {R : Int × Int × Int}  (h0 : 0 ≤ a0) (h1 : a0 ≤ 1000000000) (hR : s195 a0 = some R) : Con (EG glT) 195 [G.int a0] (G.agg [G.int R.1, G.int R.2.1, G.int R.2.2]) := by
  unfold s195 at hR
  refine con_of_aw Tryz.func195 rfl rfl fun w0 M0 => ?_
  refine aw_seq ?_
  refine aw_region [.w] ?_
  refine st_w rfl rfl (eff_alloc 2 rfl z239 rfl rfl) rfl ?_
  refine st_nil ?_
  refine aw_seq ?_
  refine aw_region [.p, .w, .w] ?_
  refine st rfl rfl (eff_buildA rfl z239 rfl Tryz.underlying239 ty3 (pb_cons rfl (pb_cons rfl (pb_cons rfl pb_nil))) rfl) rfl ?_
  refine st_w rfl rfl (eff_alloc 3 rfl z239 rfl rfl) rfl ?_
  refine st_wn rfl rfl (eff_store (tv := .g (G.agg [G.int 2000, G.int 1, G.int 1])) rfl ty239 rfl rfl rfl rfl rfl) ?_
  refine st_nil ?_
  refine aw_seq ?_
  refine aw_block ?_
  refine aw_loop_g (γ := Nat × Int × Int) (fun g => ([(0, .g (G.int g.2.1)), (2, .ptr 2 0), (3, .ptr 3 0)], [(2, .box [.g (G.int 0), .g (G.int 0), .g (G.int 0)]), (3, .box [.g (G.int g.2.2), .g (G.int 1), .g (G.int 1)])])) (fun g => g.2.1.toNat < g.1 ∧ 0 ≤ g.2.1 ∧ g.2.1 ≤ 1000000000 ∧ s195_l1 g.1 g.2.1 g.2.2 = some R) (fun g => g.1) ⟨rfl, ((a0.toNat) + 1, a0, 2000), ⟨rfl, rfl, rfl, trivial⟩, ⟨rfl, rfl, trivial⟩, rfl, ⟨Nat.lt_succ_self _, (by first | omega | (dsimp only; omega) | simp), (by first | omega | (dsimp only; omega) | simp), hR⟩, trivial⟩ ?_
  · rintro ⟨k3, x1, x2⟩ ⟨hk1, iv1_0, iv1_1, hR⟩
    replace hk1 : x1.toNat < k3 := hk1
    replace hR : s195_l1 k3 x1 x2 = some R := hR
    replace iv1_0 : 0 ≤ x1 := iv1_0
    replace iv1_1 : x1 ≤ 1000000000 := iv1_1
    obtain ⟨k3, rfl⟩ : ∃ m, k3 = m + 1 := ⟨k3 - 1, by omega⟩
    rw [s195_l1] at hR
    try dsimp only at hR
    refine aw_seq ?_
    refine aw_seq ?_
    refine aw_region [.p, .p, .r, .p, .p] ?_
    refine st rfl rfl (eff_moveg rfl rfl) rfl ?_
    refine st rfl rfl (eff_ixAO rfl Tryz.underlying239 ty3 rfl rfl (by decide) (by decide)) rfl ?_
    refine st_r rfl rfl (eff_loadO rfl ty3 rfl rfl rfl) rfl ?_
    refine st rfl rfl (eff_call rfl K222 rfl (c222 x2) (ag_cons rfl ag_nil)) rfl ?_
    refine st rfl rfl (eff_geq rfl rfl rfl) rfl ?_
    refine st_nil ?_
    refine aw_cond _ rfl (fun h1 => ?_) (fun h1 => ?_)
    · replace h1 : (decide ((s222 x2) ≤ x1)) = true := h1
      replace hR := condT hR h1
      try simp only [Bool.or_eq_true, Bool.and_eq_true, Bool.or_eq_false_iff, Bool.and_eq_false_iff, Bool.not_eq_true', Bool.not_eq_false', decide_eq_true_eq, decide_eq_false_iff_not] at h1
      refine aw_skip ?_
      refine aw_block ?_
      refine aw_seq ?_
      have hsp := s222_rng x2
      have hw := wrap_i64 (n := x1 - s222 x2) ⟨by omega, by omega⟩
      refine aw_region [.p, .p, .r, .p, .p, .p] ?_
      refine st rfl rfl (eff_moveg rfl rfl) rfl ?_
      refine st rfl rfl (eff_ixAO rfl Tryz.underlying239 ty3 rfl rfl (by decide) (by decide)) rfl ?_
      refine st_r rfl rfl (eff_loadO rfl ty3 rfl rfl rfl) rfl ?_
      refine st rfl rfl (eff_call rfl K222 rfl (c222 x2) (ag_cons rfl ag_nil)) rfl ?_
      refine st rfl rfl (eff_subw rfl rfl rfl) rfl ?_
      refine st rfl rfl (eff_assigng rfl rfl) rfl ?_
      refine st_nil ?_
      refine aw_region [.p, .r, .p, .p, .w] ?_
      refine st rfl rfl (eff_ixAO rfl Tryz.underlying239 ty3 rfl rfl (by decide) (by decide)) rfl ?_
      refine st_r rfl rfl (eff_loadO rfl ty3 rfl rfl rfl) rfl ?_
      refine st rfl rfl (eff_addw rfl rfl rfl) rfl ?_
      refine st rfl rfl (eff_ixAO rfl Tryz.underlying239 ty3 rfl rfl (by decide) (by decide)) rfl ?_
      refine st_wn rfl rfl (eff_store (tv := .g (G.int (IntKind.i64.wrap (x2 + 1)))) rfl ty3 rfl rfl rfl rfl rfl) ?_
      refine st_nil ?_
      exact ⟨rfl, (k3, IntKind.i64.wrap (x1 - (s222 x2)), IntKind.i64.wrap (x2 + 1)), ⟨rfl, rfl, rfl, trivial⟩, ⟨rfl, rfl, trivial⟩, rfl, ⟨(by first | omega | (dsimp only; omega) | (simp at *; omega)), (by first | omega | (dsimp only; omega) | (simp at *; omega)), (by first | omega | (dsimp only; omega) | (simp at *; omega)), hR⟩, by simp⟩
    · replace h1 : (decide ((s222 x2) ≤ x1)) = false := h1
      replace hR := condF hR h1
      try simp only [Bool.or_eq_true, Bool.and_eq_true, Bool.or_eq_false_iff, Bool.and_eq_false_iff, Bool.not_eq_true', Bool.not_eq_false', decide_eq_true_eq, decide_eq_false_iff_not] at h1
      refine aw_exit ?_
      refine aw_seq ?_
      refine aw_block ?_
      refine aw_loop_g (γ := Nat × Int × Int) (fun g => ([(0, .g (G.int g.2.1)), (2, .ptr 2 0), (3, .ptr 3 0)], [(2, .box [.g (G.int 0), .g (G.int 0), .g (G.int 0)]), (3, .box [.g (G.int x2), .g (G.int g.2.2), .g (G.int 1)])])) (fun g => g.2.1.toNat < g.1 ∧ 0 ≤ g.2.1 ∧ g.2.1 ≤ 1000000000 ∧ s195_l2 x2 g.1 g.2.1 g.2.2 = some R) (fun g => g.1) ⟨rfl, ((x1.toNat) + 1, x1, 1), ⟨rfl, rfl, rfl, trivial⟩, ⟨rfl, rfl, trivial⟩, rfl, ⟨Nat.lt_succ_self _, (by first | omega | (dsimp only; omega) | simp), (by first | omega | (dsimp only; omega) | simp), hR⟩, trivial⟩ ?_
      · rintro ⟨k6, x4, x5⟩ ⟨hk2, iv2_0, iv2_1, hR⟩
        replace hk2 : x4.toNat < k6 := hk2
        replace hR : s195_l2 x2 k6 x4 x5 = some R := hR
        replace iv2_0 : 0 ≤ x4 := iv2_0
        replace iv2_1 : x4 ≤ 1000000000 := iv2_1
        obtain ⟨k6, rfl⟩ : ∃ m, k6 = m + 1 := ⟨k6 - 1, by omega⟩
        rw [s195_l2] at hR
        try dsimp only at hR
        refine aw_seq ?_
        refine aw_seq ?_
        obtain ⟨r7, br7, hR⟩ := bindO_inv hR
        refine aw_region [.p, .p, .r, .p, .r, .p, .p] ?_
        refine st rfl rfl (eff_moveg rfl rfl) rfl ?_
        refine st rfl rfl (eff_ixAO rfl Tryz.underlying239 ty3 rfl rfl (by decide) (by decide)) rfl ?_
        refine st_r rfl rfl (eff_loadO rfl ty3 rfl rfl rfl) rfl ?_
        refine st rfl rfl (eff_ixAO rfl Tryz.underlying239 ty3 rfl rfl (by decide) (by decide)) rfl ?_
        refine st_r rfl rfl (eff_loadO rfl ty3 rfl rfl rfl) rfl ?_
        refine st rfl rfl (eff_call rfl K223 rfl (c223 x2 x5 br7) (ag_cons rfl (ag_cons rfl ag_nil))) rfl ?_
        refine st rfl rfl (eff_geq rfl rfl rfl) rfl ?_
        refine st_nil ?_
        refine aw_cond _ rfl (fun h2 => ?_) (fun h2 => ?_)
        · replace h2 : (decide (r7 ≤ x4)) = true := h2
          replace hR := condT hR h2
          try simp only [Bool.or_eq_true, Bool.and_eq_true, Bool.or_eq_false_iff, Bool.and_eq_false_iff, Bool.not_eq_true', Bool.not_eq_false', decide_eq_true_eq, decide_eq_false_iff_not] at h2
          refine aw_skip ?_
          refine aw_block ?_
          refine aw_seq ?_
          obtain ⟨r8, br8, hR⟩ := bindO_inv hR
          have he := Option.some.inj (br7.symm.trans br8)
          have hsp := s223_rng br8
          have hw := wrap_i64 (n := x4 - r8) ⟨by omega, by omega⟩
          refine aw_region [.p, .p, .r, .p, .r, .p, .p, .p] ?_
          refine st rfl rfl (eff_moveg rfl rfl) rfl ?_
          refine st rfl rfl (eff_ixAO rfl Tryz.underlying239 ty3 rfl rfl (by decide) (by decide)) rfl ?_
          refine st_r rfl rfl (eff_loadO rfl ty3 rfl rfl rfl) rfl ?_
          refine st rfl rfl (eff_ixAO rfl Tryz.underlying239 ty3 rfl rfl (by decide) (by decide)) rfl ?_
          refine st_r rfl rfl (eff_loadO rfl ty3 rfl rfl rfl) rfl ?_
          refine st rfl rfl (eff_call rfl K223 rfl (c223 x2 x5 br8) (ag_cons rfl (ag_cons rfl ag_nil))) rfl ?_
          refine st rfl rfl (eff_subw rfl rfl rfl) rfl ?_
          refine st rfl rfl (eff_assigng rfl rfl) rfl ?_
          refine st_nil ?_
          refine aw_region [.p, .r, .p, .p, .w] ?_
          refine st rfl rfl (eff_ixAO rfl Tryz.underlying239 ty3 rfl rfl (by decide) (by decide)) rfl ?_
          refine st_r rfl rfl (eff_loadO rfl ty3 rfl rfl rfl) rfl ?_
          refine st rfl rfl (eff_addw rfl rfl rfl) rfl ?_
          refine st rfl rfl (eff_ixAO rfl Tryz.underlying239 ty3 rfl rfl (by decide) (by decide)) rfl ?_
          refine st_wn rfl rfl (eff_store (tv := .g (G.int (IntKind.i64.wrap (x5 + 1)))) rfl ty3 rfl rfl rfl rfl rfl) ?_
          refine st_nil ?_
          exact ⟨rfl, (k6, IntKind.i64.wrap (x4 - r8), IntKind.i64.wrap (x5 + 1)), ⟨rfl, rfl, rfl, trivial⟩, ⟨rfl, rfl, trivial⟩, rfl, ⟨(by first | omega | (dsimp only; omega) | (simp at *; omega)), (by first | omega | (dsimp only; omega) | (simp at *; omega)), (by first | omega | (dsimp only; omega) | (simp at *; omega)), hR⟩, by simp⟩
        · replace h2 : (decide (r7 ≤ x4)) = false := h2
          replace hR := condF hR h2
          try simp only [Bool.or_eq_true, Bool.and_eq_true, Bool.or_eq_false_iff, Bool.and_eq_false_iff, Bool.not_eq_true', Bool.not_eq_false', decide_eq_true_eq, decide_eq_false_iff_not] at h2
          refine aw_exit ?_
          refine aw_seq ?_
          refine aw_region [.p, .r, .p, .p, .p, .w] ?_
          refine st rfl rfl (eff_ixAO rfl Tryz.underlying239 ty3 rfl rfl (by decide) (by decide)) rfl ?_
          refine st_r rfl rfl (eff_loadO rfl ty3 rfl rfl rfl) rfl ?_
          refine st rfl rfl (eff_moveg rfl rfl) rfl ?_
          refine st rfl rfl (eff_addw rfl rfl rfl) rfl ?_
          refine st rfl rfl (eff_ixAO rfl Tryz.underlying239 ty3 rfl rfl (by decide) (by decide)) rfl ?_
          refine st_wn rfl rfl (eff_store (tv := .g (G.int (IntKind.i64.wrap (1 + x4)))) rfl ty3 rfl rfl rfl rfl rfl) ?_
          refine st_nil ?_
          refine aw_seq ?_
          refine aw_region [.r, .w] ?_
          refine st_r rfl rfl (eff_loadOA rfl ty239 rfl rfl rfl rfl) rfl ?_
          refine st_wn rfl rfl (eff_store (tv := .g (G.agg [G.int x2, G.int x5, G.int (IntKind.i64.wrap (1 + x4))])) rfl ty239 rfl rfl rfl rfl rfl) ?_
          refine st_nil ?_
          refine aw_ret ?_
          obtain rfl := Option.some.inj hR
          exact res_c rfl (rv_cell rfl rfl ty239 rfl rfl)

/-- turnroundref01.Date -/
def s161_l2 (x2 : Int) : Nat → Int → Int → Option (Int × Int × Int)
  | 0, _, _ => none
  | k6 + 1, x4, x5 => (bif decide ((s199 x2 x5) ≤ x4) then s161_l2 x2 k6 (IntKind.i64.wrap (x4 - (s199 x2 x5))) (IntKind.i64.wrap (x5 + 1)) else some (x2, x5, IntKind.i64.wrap (x4 + 1)))
def s161_l1  : Nat → Int → Int → Option (Int × Int × Int)
  | 0, _, _ => none
  | k3 + 1, x1, x2 => (bif decide ((s198 x2) ≤ x1) then s161_l1 k3 (IntKind.i64.wrap (x1 - (s198 x2))) (IntKind.i64.wrap (x2 + 1)) else s161_l2 x2 ((x1.toNat) + 1) x1 1)
def s161 (a0 : Int) : Option (Int × Int × Int) :=
  s161_l1 ((a0.toNat) + 1) a0 2000
theorem c161 {g : List (Nat × List Value)} (a0 : Int) {R : Int × Int × Int}  (h0 : 0 ≤ a0) (h1 : a0 ≤ 1000000000) (hR : s161 a0 = some R) : Con (EG g) 161 [G.int a0] (G.agg [G.int R.1, G.int R.2.1, G.int R.2.2]) := by
  unfold s161 at hR
  refine con_of_aw Tryz.func161 rfl rfl fun w0 M0 => ?_
  refine aw_seq ?_
  refine aw_region [.w] ?_
  refine st_w rfl rfl (eff_alloc 2 rfl z239 rfl rfl) rfl ?_
  refine st_nil ?_
  refine aw_seq ?_
  refine aw_region [.p, .p] ?_
  refine st rfl rfl (eff_assigng rfl rfl) rfl ?_
  refine st rfl rfl (eff_assigng rfl rfl) rfl ?_
  refine st_nil ?_
  refine aw_seq ?_
  refine aw_block ?_
  refine aw_loop_g (γ := Nat × Int × Int) (fun g => ([(0, .g (G.int g.2.1)), (2, .ptr 2 0), (3, .g (G.int g.2.2)), (4, .g (G.int 1))], [(2, .box [.g (G.int 0), .g (G.int 0), .g (G.int 0)])])) (fun g => g.2.1.toNat < g.1 ∧ 0 ≤ g.2.1 ∧ g.2.1 ≤ 1000000000 ∧ s161_l1 g.1 g.2.1 g.2.2 = some R) (fun g => g.1) ⟨rfl, ((a0.toNat) + 1, a0, 2000), ⟨rfl, rfl, rfl, rfl, trivial⟩, ⟨rfl, trivial⟩, rfl, ⟨Nat.lt_succ_self _, (by first | omega | (dsimp only; omega) | simp), (by first | omega | (dsimp only; omega) | simp), hR⟩, trivial⟩ ?_
  · rintro ⟨k3, x1, x2⟩ ⟨hk1, iv1_0, iv1_1, hR⟩
    replace hk1 : x1.toNat < k3 := hk1
    replace hR : s161_l1 k3 x1 x2 = some R := hR
    replace iv1_0 : 0 ≤ x1 := iv1_0
    replace iv1_1 : x1 ≤ 1000000000 := iv1_1
    obtain ⟨k3, rfl⟩ : ∃ m, k3 = m + 1 := ⟨k3 - 1, by omega⟩
    rw [s161_l1] at hR
    try dsimp only at hR
    refine aw_seq ?_
    refine aw_seq ?_
    refine aw_region [.p, .p, .p, .p] ?_
    refine st rfl rfl (eff_moveg rfl rfl) rfl ?_
    refine st rfl rfl (eff_moveg rfl rfl) rfl ?_
    refine st rfl rfl (eff_call rfl K198 rfl (c198 x2) (ag_cons rfl ag_nil)) rfl ?_
    refine st rfl rfl (eff_geq rfl rfl rfl) rfl ?_
    refine st_nil ?_
    refine aw_cond _ rfl (fun h1 => ?_) (fun h1 => ?_)
    · replace h1 : (decide ((s198 x2) ≤ x1)) = true := h1
      replace hR := condT hR h1
      try simp only [Bool.or_eq_true, Bool.and_eq_true, Bool.or_eq_false_iff, Bool.and_eq_false_iff, Bool.not_eq_true', Bool.not_eq_false', decide_eq_true_eq, decide_eq_false_iff_not] at h1
      refine aw_skip ?_
      refine aw_block ?_
      refine aw_seq ?_
      have hsp := s198_rng x2
      have hw := wrap_i64 (n := x1 - s198 x2) ⟨by omega, by omega⟩
      refine aw_region [.p, .p, .p, .p, .p] ?_
      refine st rfl rfl (eff_moveg rfl rfl) rfl ?_
      refine st rfl rfl (eff_moveg rfl rfl) rfl ?_
      refine st rfl rfl (eff_call rfl K198 rfl (c198 x2) (ag_cons rfl ag_nil)) rfl ?_
      refine st rfl rfl (eff_subw rfl rfl rfl) rfl ?_
      refine st rfl rfl (eff_assigng rfl rfl) rfl ?_
      refine st_nil ?_
      refine aw_region [.p, .p, .p] ?_
      refine st rfl rfl (eff_moveg rfl rfl) rfl ?_
      refine st rfl rfl (eff_addw rfl rfl rfl) rfl ?_
      refine st rfl rfl (eff_assigng rfl rfl) rfl ?_
      refine st_nil ?_
      exact ⟨rfl, (k3, IntKind.i64.wrap (x1 - (s198 x2)), IntKind.i64.wrap (x2 + 1)), ⟨rfl, rfl, rfl, rfl, trivial⟩, ⟨rfl, trivial⟩, rfl, ⟨(by first | omega | (dsimp only; omega) | (simp at *; omega)), (by first | omega | (dsimp only; omega) | (simp at *; omega)), (by first | omega | (dsimp only; omega) | (simp at *; omega)), hR⟩, by simp⟩
    · replace h1 : (decide ((s198 x2) ≤ x1)) = false := h1
      replace hR := condF hR h1
      try simp only [Bool.or_eq_true, Bool.and_eq_true, Bool.or_eq_false_iff, Bool.and_eq_false_iff, Bool.not_eq_true', Bool.not_eq_false', decide_eq_true_eq, decide_eq_false_iff_not] at h1
      refine aw_exit ?_
      refine aw_seq ?_
      refine aw_block ?_
      refine aw_loop_g (γ := Nat × Int × Int) (fun g => ([(0, .g (G.int g.2.1)), (2, .ptr 2 0), (3, .g (G.int x2)), (4, .g (G.int g.2.2))], [(2, .box [.g (G.int 0), .g (G.int 0), .g (G.int 0)])])) (fun g => g.2.1.toNat < g.1 ∧ 0 ≤ g.2.1 ∧ g.2.1 ≤ 1000000000 ∧ s161_l2 x2 g.1 g.2.1 g.2.2 = some R) (fun g => g.1) ⟨rfl, ((x1.toNat) + 1, x1, 1), ⟨rfl, rfl, rfl, rfl, trivial⟩, ⟨rfl, trivial⟩, rfl, ⟨Nat.lt_succ_self _, (by first | omega | (dsimp only; omega) | simp), (by first | omega | (dsimp only; omega) | simp), hR⟩, trivial⟩ ?_
      · rintro ⟨k6, x4, x5⟩ ⟨hk2, iv2_0, iv2_1, hR⟩
        replace hk2 : x4.toNat < k6 := hk2
        replace hR : s161_l2 x2 k6 x4 x5 = some R := hR
        replace iv2_0 : 0 ≤ x4 := iv2_0
        replace iv2_1 : x4 ≤ 1000000000 := iv2_1
        obtain ⟨k6, rfl⟩ : ∃ m, k6 = m + 1 := ⟨k6 - 1, by omega⟩
        rw [s161_l2] at hR
        try dsimp only at hR
        refine aw_seq ?_
        refine aw_seq ?_
        refine aw_region [.p, .p, .p, .p, .p] ?_
        refine st rfl rfl (eff_moveg rfl rfl) rfl ?_
        refine st rfl rfl (eff_moveg rfl rfl) rfl ?_
        refine st rfl rfl (eff_moveg rfl rfl) rfl ?_
        refine st rfl rfl (eff_call rfl K199 rfl (c199 x2 x5) (ag_cons rfl (ag_cons rfl ag_nil))) rfl ?_
        refine st rfl rfl (eff_geq rfl rfl rfl) rfl ?_
        refine st_nil ?_
        refine aw_cond _ rfl (fun h2 => ?_) (fun h2 => ?_)
        · replace h2 : (decide ((s199 x2 x5) ≤ x4)) = true := h2
          replace hR := condT hR h2
          try simp only [Bool.or_eq_true, Bool.and_eq_true, Bool.or_eq_false_iff, Bool.and_eq_false_iff, Bool.not_eq_true', Bool.not_eq_false', decide_eq_true_eq, decide_eq_false_iff_not] at h2
          refine aw_skip ?_
          refine aw_block ?_
          refine aw_seq ?_
          have hsp := s199_rng x2 x5
          have hw := wrap_i64 (n := x4 - s199 x2 x5) ⟨by omega, by omega⟩
          refine aw_region [.p, .p, .p, .p, .p, .p] ?_
          refine st rfl rfl (eff_moveg rfl rfl) rfl ?_
          refine st rfl rfl (eff_moveg rfl rfl) rfl ?_
          refine st rfl rfl (eff_moveg rfl rfl) rfl ?_
          refine st rfl rfl (eff_call rfl K199 rfl (c199 x2 x5) (ag_cons rfl (ag_cons rfl ag_nil))) rfl ?_
          refine st rfl rfl (eff_subw rfl rfl rfl) rfl ?_
          refine st rfl rfl (eff_assigng rfl rfl) rfl ?_
          refine st_nil ?_
          refine aw_region [.p, .p, .p] ?_
          refine st rfl rfl (eff_moveg rfl rfl) rfl ?_
          refine st rfl rfl (eff_addw rfl rfl rfl) rfl ?_
          refine st rfl rfl (eff_assigng rfl rfl) rfl ?_
          refine st_nil ?_
          exact ⟨rfl, (k6, IntKind.i64.wrap (x4 - (s199 x2 x5)), IntKind.i64.wrap (x5 + 1)), ⟨rfl, rfl, rfl, rfl, trivial⟩, ⟨rfl, trivial⟩, rfl, ⟨(by first | omega | (dsimp only; omega) | (simp at *; omega)), (by first | omega | (dsimp only; omega) | (simp at *; omega)), (by first | omega | (dsimp only; omega) | (simp at *; omega)), hR⟩, by simp⟩
        · replace h2 : (decide ((s199 x2 x5) ≤ x4)) = false := h2
          replace hR := condF hR h2
          try simp only [Bool.or_eq_true, Bool.and_eq_true, Bool.or_eq_false_iff, Bool.and_eq_false_iff, Bool.not_eq_true', Bool.not_eq_false', decide_eq_true_eq, decide_eq_false_iff_not] at h2
          refine aw_exit ?_
          refine aw_seq ?_
          refine aw_region [.p, .p, .p, .p, .p, .w] ?_
          refine st rfl rfl (eff_moveg rfl rfl) rfl ?_
          refine st rfl rfl (eff_moveg rfl rfl) rfl ?_
          refine st rfl rfl (eff_moveg rfl rfl) rfl ?_
          refine st rfl rfl (eff_addw rfl rfl rfl) rfl ?_
          refine st rfl rfl (eff_buildA rfl z239 rfl Tryz.underlying239 ty3 (pb_cons rfl (pb_cons rfl (pb_cons rfl pb_nil))) rfl) rfl ?_
          refine st_wn rfl rfl (eff_store (tv := .g (G.agg [G.int x2, G.int x5, G.int (IntKind.i64.wrap (x4 + 1))])) rfl ty239 rfl rfl rfl rfl rfl) ?_
          refine st_nil ?_
          refine aw_ret ?_
          obtain rfl := Option.some.inj hR
          exact res_c rfl (rv_cell rfl rfl ty239 rfl rfl)
end Go.Sim

namespace Go.Sim
/-! ## the calendar: the years, and the last Sundays -/
def lp (y : Int) : Int := bif s224 y then 1 else 0
theorem lp_rng (y : Int) : 0 ≤ lp y ∧ lp y ≤ 1 := by unfold lp; cases s224 y <;> decide
theorem s198_lp (y : Int) : s198 y = 365 + lp y := by unfold s198 lp; cases s224 y <;> rfl
theorem s222_eq (y : Int) : s222 y = s198 y := rfl
/-- the days before a year -/
def Dy : Nat → Int
  | 0 => 0
  | n + 1 => Dy n + s198 (2000 + (n : Int))
theorem Dy_rng : ∀ n : Nat, 365 * (n : Int) ≤ Dy n ∧ Dy n ≤ 366 * (n : Int)
  | 0 => by simp [Dy]
  | n + 1 => by
    have h1 := Dy_rng n
    have h2 := s198_rng (2000 + (n : Int))
    rw [Dy]; omega
theorem s200_years : ∀ (n k : Nat) (x : Int), 0 ≤ x → x + 366 * (n : Int) ≤ 1000000000 → s200_l2 n x (2000 + (k : Int)) = x + (Dy (k + n) - Dy k)
  | 0, k, x, _, _ => by rw [s200_l2]; simp
  | n + 1, k, x, h0, h1 => by
    have h2 := s198_rng (2000 + (k : Int))
    rw [s200_l2, wrap_i64 ⟨by omega, by omega⟩]
    have e : (2000 + (k : Int)) + 1 = 2000 + ((k + 1 : Nat) : Int) := by omega
    rw [e, s200_years n (k + 1) _ (by omega) (by omega), Dy]
    have e2 : k + 1 + n = k + (n + 1) := by omega
    rw [e2]; omega
theorem s221_years (y m : Int) : ∀ (n k : Nat) (x : Int), 0 ≤ x → x + 366 * (n : Int) ≤ 1000000000 → k + n ≤ 1000000 → s221_l1 y m n x (k : Int) = s221_l2 y ((m - 1).toNat) (x + (Dy (k + n) - Dy k)) 1
  | 0, k, x, _, _, _ => by rw [s221_l1]; simp
  | n + 1, k, x, h0, h1, h3 => by
    have h2 := s198_rng (2000 + (k : Int))
    rw [s221_l1, wrap_i64 (n := 2000 + (k : Int)) ⟨by omega, by omega⟩, s222_eq, wrap_i64 ⟨by omega, by omega⟩]
    have e : (k : Int) + 1 = ((k + 1 : Nat) : Int) := by omega
    rw [e, s221_years y m n (k + 1) _ (by omega) (by omega) (by omega), Dy]
    have e2 : k + 1 + n = k + (n + 1) := by omega
    rw [e2]
    congr 1
    omega
/-- the last days of March and of October -/
def N3 (y : Int) : Int := 89 + lp y + Dy (y - 2000).toNat
def N10 (y : Int) : Int := 303 + lp y + Dy (y - 2000).toNat
theorem s199_2 (y : Int) : s199 y 2 = 28 + lp y := by unfold s199 lp; cases s224 y <;> rfl
theorem N_rng {y : Int} (h : 2000 ≤ y) (h' : y ≤ 3000) : 80 ≤ N3 y ∧ N3 y ≤ 1000000 ∧ 80 ≤ N10 y ∧ N10 y ≤ 1000000 := by
  have h1 := lp_rng y
  have h2 := Dy_rng (y - 2000).toNat
  unfold N3 N10
  omega
theorem toNat_cast {y : Int} (h : 2000 ≤ y) : ((y - 2000).toNat : Int) = y - 2000 := Int.toNat_of_nonneg (by omega)
theorem s200_3 {y : Int} (h : 2000 ≤ y) (h' : y ≤ 3000) : s200 y 3 31 = N3 y := by
  have h1 := lp_rng y
  have hn := toNat_cast h
  have h5 := s200_years (y - 2000).toNat 0 (89 + lp y) (by omega) (by omega)
  have e1 : s199 y 1 = 31 := by simp [s199]
  unfold s200
  show s200_l1 y 2 (IntKind.i64.wrap (31 - 1)) 1 = _
  rw [wrap_i64 ⟨by omega, by omega⟩, s200_l1, e1, wrap_i64 ⟨by omega, by omega⟩, s200_l1, show (1 : Int) + 1 = 2 from rfl, s199_2, wrap_i64 ⟨by omega, by omega⟩, s200_l1]
  have e3 : (31 : Int) - 1 + 31 + (28 + lp y) = 89 + lp y := by omega
  rw [e3]
  have h6 : s200_l2 (y - 2000).toNat (89 + lp y) 2000 = 89 + lp y + (Dy (0 + (y - 2000).toNat) - Dy 0) := by simpa using h5
  rw [h6, Nat.zero_add]
  unfold N3
  simp [Dy]
theorem s200_10 {y : Int} (h : 2000 ≤ y) (h' : y ≤ 3000) : s200 y 10 31 = N10 y := by
  have h1 := lp_rng y
  have hn := toNat_cast h
  have h5 := s200_years (y - 2000).toNat 0 (303 + lp y) (by omega) (by omega)
  have e1 : s199 y 1 = 31 := by simp [s199]
  have e3 : s199 y 3 = 31 := by simp [s199]
  have e4 : s199 y 4 = 30 := by simp [s199]
  have e5 : s199 y 5 = 31 := by simp [s199]
  have e6 : s199 y 6 = 30 := by simp [s199]
  have e7 : s199 y 7 = 31 := by simp [s199]
  have e8 : s199 y 8 = 31 := by simp [s199]
  have e9 : s199 y 9 = 30 := by simp [s199]
  unfold s200
  show s200_l1 y 9 (IntKind.i64.wrap (31 - 1)) 1 = _
  rw [wrap_i64 ⟨by omega, by omega⟩, s200_l1, e1, wrap_i64 ⟨by omega, by omega⟩, s200_l1, show (1 : Int) + 1 = 2 from rfl, s199_2, wrap_i64 ⟨by omega, by omega⟩]
  rw [s200_l1, show (2 : Int) + 1 = 3 from rfl, e3, wrap_i64 ⟨by omega, by omega⟩, s200_l1, show (3 : Int) + 1 = 4 from rfl, e4, wrap_i64 ⟨by omega, by omega⟩]
  rw [s200_l1, show (4 : Int) + 1 = 5 from rfl, e5, wrap_i64 ⟨by omega, by omega⟩, s200_l1, show (5 : Int) + 1 = 6 from rfl, e6, wrap_i64 ⟨by omega, by omega⟩]
  rw [s200_l1, show (6 : Int) + 1 = 7 from rfl, e7, wrap_i64 ⟨by omega, by omega⟩, s200_l1, show (7 : Int) + 1 = 8 from rfl, e8, wrap_i64 ⟨by omega, by omega⟩]
  rw [s200_l1, show (8 : Int) + 1 = 9 from rfl, e9, wrap_i64 ⟨by omega, by omega⟩, s200_l1]
  have e : (31 : Int) - 1 + 31 + (28 + lp y) + 31 + 30 + 31 + 30 + 31 + 31 + 30 = 303 + lp y := by omega
  rw [e]
  have h6 : s200_l2 (y - 2000).toNat (303 + lp y) 2000 = 303 + lp y + (Dy (0 + (y - 2000).toNat) - Dy 0) := by simpa using h5
  rw [h6, Nat.zero_add]
  unfold N10
  simp [Dy]
theorem s200_rng {y : Int} (h : 2000 ≤ y) (h' : y ≤ 3000) : (0 ≤ s200 y 3 31 ∧ s200 y 3 31 ≤ 1000000000) ∧ (s200 y 3 31 + 6) % 7 ≤ s200 y 3 31 ∧ (0 ≤ s200 y 10 31 ∧ s200 y 10 31 ≤ 1000000000) ∧ (s200 y 10 31 + 6) % 7 ≤ s200 y 10 31 := by
  have := N_rng h h'
  rw [s200_3 h h', s200_10 h h']
  omega
theorem s180_lt (x : Int) : s180 x < 7 := by unfold s180; exact Int.tmod_lt_of_pos _ (by decide)
theorem s153_rng {d : Int} (h : s153 d = 0) : 0 ≤ d ∧ d ≤ 99999 := by
  unfold s153 s155 s154 at h
  by_cases h1 : d < 0
  · simp [h1] at h
  · by_cases h2 : 99999 < d
    · simp [h2] at h
    · omega
end Go.Sim

set_option linter.unusedSimpArgs false
set_option linter.unusedVariables false
set_option maxRecDepth 10000
namespace Go.Sim
open Go.Proofs


/-- turnroundref01.Span -/
def s111 (a0 : S67) : Option S45 :=
  (bif decide (a0.Kind = (⟨#[83]⟩)) then bindO (s162 a0.Year 3) fun r1 => bindO (s162 a0.Year 10) fun r2 => some (S45.mk r1 (IntKind.i64.wrap (r2 - 1)) 127) else bindO (s162 a0.Year 10) fun r3 => bindO (s162 (IntKind.i64.wrap (a0.Year + 1)) 3) fun r4 => some (S45.mk r3 (IntKind.i64.wrap (r4 - 1)) 127))
theorem c111 {g : List (Nat × List Value)} (a0 : S67) {R : S45}  (hy1 : 2000 ≤ a0.Year) (hy2 : a0.Year ≤ 2999) (hR : s111 a0 = some R) : Con (EG g) 111 [G.agg [G.int a0.Year, G.str a0.Kind]] (G.agg [G.int R.fFrom, G.int R.fTo, G.int R.Days]) := by
  unfold s111 at hR
  refine con_of_aw Tryz.func111 rfl rfl fun w0 M0 => ?_
  obtain ⟨hq1, hq2, hq3, hq4⟩ := s200_rng (y := a0.Year) hy1 (by omega)
  have hwy := wrap_i64 (n := a0.Year + 1) ⟨by omega, by omega⟩
  obtain ⟨hq5, hq6, hq7, hq8⟩ := s200_rng (y := IntKind.i64.wrap (a0.Year + 1)) (by omega) (by omega)
  refine aw_seq ?_
  refine aw_region [.p, .w] ?_
  refine st rfl rfl (eff_box rfl rfl) rfl ?_
  refine st_w rfl rfl (eff_alloc 2 rfl z46 rfl rfl) rfl ?_
  refine st_nil ?_
  refine aw_seq ?_
  refine aw_seq ?_
  refine aw_region [.p, .p, .p] ?_
  refine st rfl rfl (eff_fieldAddr rfl fl74_1 rfl) rfl ?_
  refine st rfl rfl (eff_load rfl ty9 rfl) rfl ?_
  refine st rfl rfl (eff_seq rfl rfl rfl) rfl ?_
  refine st_nil ?_
  refine aw_cond _ rfl (fun h1 => ?_) (fun h1 => ?_)
  · replace h1 : (decide (a0.Kind = (⟨#[83]⟩))) = true := h1
    replace hR := condT hR h1
    try simp only [Bool.or_eq_true, Bool.and_eq_true, Bool.or_eq_false_iff, Bool.and_eq_false_iff, Bool.not_eq_true', Bool.not_eq_false', decide_eq_true_eq, decide_eq_false_iff_not] at h1
    refine aw_seq ?_
    obtain ⟨r1, br1, hR⟩ := bindO_inv hR
    obtain ⟨r2, br2, hR⟩ := bindO_inv hR
    refine aw_draw [.p, .p, .p, .p, .p, .p, .p, .p, .w] (by kernel_rfl) ?_
    refine st rfl rfl (eff_fieldAddr rfl fl74_0 rfl) rfl ?_
    refine st rfl rfl (eff_load rfl ty3 rfl) rfl ?_
    refine st rfl rfl (eff_call rfl K162 rfl (c162 a0.Year 3 (by first | assumption | omega | (simp [copyL_len]; omega)) (by first | assumption | omega | (simp [copyL_len]; omega)) (by first | assumption | omega | (simp [copyL_len]; omega)) (by first | assumption | omega | (simp [copyL_len]; omega)) br1) (ag_cons rfl (ag_cons rfl ag_nil))) rfl ?_
    refine st rfl rfl (eff_fieldAddr rfl fl74_0 rfl) rfl ?_
    refine st rfl rfl (eff_load rfl ty3 rfl) rfl ?_
    refine st rfl rfl (eff_call rfl K162 rfl (c162 a0.Year 10 (by first | assumption | omega | (simp [copyL_len]; omega)) (by first | assumption | omega | (simp [copyL_len]; omega)) (by first | assumption | omega | (simp [copyL_len]; omega)) (by first | assumption | omega | (simp [copyL_len]; omega)) br2) (ag_cons rfl (ag_cons rfl ag_nil))) rfl ?_
    refine st rfl rfl (eff_subw rfl rfl rfl) rfl ?_
    refine st rfl rfl (eff_build rfl z46 rfl pl46 (pb_cons rfl (pb_cons rfl (pb_cons rfl pb_nil))) rfl) rfl ?_
    refine st_wn rfl rfl (eff_store (tv := .g (G.agg [G.int r1, G.int (IntKind.i64.wrap (r2 - 1)), G.int 127])) rfl ty46 rfl rfl rfl rfl rfl) ?_
    refine st_nil ?_
    refine aw_ret ?_
    obtain rfl := Option.some.inj hR
    exact res_c rfl (rv_cell rfl rfl ty46 rfl rfl)
  · replace h1 : (decide (a0.Kind = (⟨#[83]⟩))) = false := h1
    replace hR := condF hR h1
    try simp only [Bool.or_eq_true, Bool.and_eq_true, Bool.or_eq_false_iff, Bool.and_eq_false_iff, Bool.not_eq_true', Bool.not_eq_false', decide_eq_true_eq, decide_eq_false_iff_not] at h1
    refine aw_skip ?_
    refine aw_seq ?_
    obtain ⟨r3, br3, hR⟩ := bindO_inv hR
    obtain ⟨r4, br4, hR⟩ := bindO_inv hR
    refine aw_draw [.p, .p, .p, .p, .p, .p, .p, .p, .p, .w] (by kernel_rfl) ?_
    refine st rfl rfl (eff_fieldAddr rfl fl74_0 rfl) rfl ?_
    refine st rfl rfl (eff_load rfl ty3 rfl) rfl ?_
    refine st rfl rfl (eff_call rfl K162 rfl (c162 a0.Year 10 (by first | assumption | omega | (simp [copyL_len]; omega)) (by first | assumption | omega | (simp [copyL_len]; omega)) (by first | assumption | omega | (simp [copyL_len]; omega)) (by first | assumption | omega | (simp [copyL_len]; omega)) br3) (ag_cons rfl (ag_cons rfl ag_nil))) rfl ?_
    refine st rfl rfl (eff_fieldAddr rfl fl74_0 rfl) rfl ?_
    refine st rfl rfl (eff_load rfl ty3 rfl) rfl ?_
    refine st rfl rfl (eff_addw rfl rfl rfl) rfl ?_
    refine st rfl rfl (eff_call rfl K162 rfl (c162 (IntKind.i64.wrap (a0.Year + 1)) 3 (by first | assumption | omega | (simp [copyL_len]; omega)) (by first | assumption | omega | (simp [copyL_len]; omega)) (by first | assumption | omega | (simp [copyL_len]; omega)) (by first | assumption | omega | (simp [copyL_len]; omega)) br4) (ag_cons rfl (ag_cons rfl ag_nil))) rfl ?_
    refine st rfl rfl (eff_subw rfl rfl rfl) rfl ?_
    refine st rfl rfl (eff_build rfl z46 rfl pl46 (pb_cons rfl (pb_cons rfl (pb_cons rfl pb_nil))) rfl) rfl ?_
    refine st_wn rfl rfl (eff_store (tv := .g (G.agg [G.int r3, G.int (IntKind.i64.wrap (r4 - 1)), G.int 127])) rfl ty46 rfl rfl rfl rfl rfl) ?_
    refine st_nil ?_
    refine aw_ret ?_
    obtain rfl := Option.some.inj hR
    exact res_c rfl (rv_cell rfl rfl ty46 rfl rfl)

/-- calendar.SeasonOf -/
def s158 (a0 : Int) : Option (S67 × Int) :=
  (bif decide ((s153 a0) ≠ 0) then some ((S67.mk 0 ByteArray.empty), (s153 a0)) else bindO (s138 s193) fun r1 => bindO (bif !(decide (a0 < r1)) then s138 (s139 s194) else some default) fun r2 => (bif (decide (a0 < r1)) || (decide (r2 ≤ a0)) then some ((S67.mk 0 ByteArray.empty), 30) else bindO (s195 a0) fun r3 => bindO (s189 r3.1 3) fun r4 => (bif decide (a0 < r4) then some ((S67.mk (IntKind.i64.wrap (r3.1 - 1)) (⟨#[87]⟩)), 0) else bindO (s189 r3.1 10) fun r5 => (bif decide (a0 < r5) then some ((S67.mk r3.1 (⟨#[83]⟩)), 0) else some ((S67.mk r3.1 (⟨#[87]⟩)), 0)))))
theorem c158 (a0 : Int) {R : S67 × Int}   (hR : s158 a0 = some R) : Con (EG glT) 158 [G.int a0] (G.tup [G.agg [G.int R.1.Year, G.str R.1.Kind], G.int R.2]) := by
  unfold s158 at hR
  refine con_of_aw Tryz.func158 rfl rfl fun w0 M0 => ?_
  refine aw_seq ?_
  refine aw_region [.w, .p] ?_
  refine st_w rfl rfl (eff_alloc 2 rfl z68 rfl rfl) rfl ?_
  refine st rfl rfl (eff_assigng rfl rfl) rfl ?_
  refine st_nil ?_
  refine aw_seq ?_
  refine aw_seq ?_
  refine aw_region [.p, .p, .p] ?_
  refine st rfl rfl (eff_moveg rfl rfl) rfl ?_
  refine st rfl rfl (eff_call rfl K153 rfl (c153 a0) (ag_cons rfl ag_nil)) rfl ?_
  refine st rfl rfl (eff_assigng rfl rfl) rfl ?_
  refine st_nil ?_
  refine aw_seq ?_
  refine aw_region [.p, .p] ?_
  refine st rfl rfl (eff_moveg rfl rfl) rfl ?_
  refine st rfl rfl (eff_neq rfl rfl rfl) rfl ?_
  refine st_nil ?_
  refine aw_cond _ rfl (fun h1 => ?_) (fun h1 => ?_)
  · replace h1 : (decide ((s153 a0) ≠ 0)) = true := h1
    replace hR := condT hR h1
    try simp only [Bool.or_eq_true, Bool.and_eq_true, Bool.or_eq_false_iff, Bool.and_eq_false_iff, Bool.not_eq_true', Bool.not_eq_false', decide_eq_true_eq, decide_eq_false_iff_not] at h1
    refine aw_seq ?_
    refine aw_region [.p, .p, .w, .p] ?_
    refine st rfl rfl (eff_build rfl z68 rfl pl68 pb_nil rfl) rfl ?_
    refine st rfl rfl (eff_moveg rfl rfl) rfl ?_
    refine st_wn rfl rfl (eff_store (tv := .g (G.agg [G.int 0, G.str ByteArray.empty])) rfl ty68 rfl rfl rfl rfl rfl) ?_
    refine st rfl rfl (eff_assigng rfl rfl) rfl ?_
    refine st_nil ?_
    refine aw_ret ?_
    obtain rfl := Option.some.inj hR
    exact resN rfl ⟨rv_cell rfl rfl ty68 rfl rfl, rv_g rfl, trivial⟩ (by simp)
  · replace h1 : (decide ((s153 a0) ≠ 0)) = false := h1
    replace hR := condF hR h1
    try simp only [Bool.or_eq_true, Bool.and_eq_true, Bool.or_eq_false_iff, Bool.and_eq_false_iff, Bool.not_eq_true', Bool.not_eq_false', decide_eq_true_eq, decide_eq_false_iff_not] at h1
    have hdr := s153_rng (d := a0) (by omega)
    refine aw_skip ?_
    refine aw_seq ?_
    refine aw_seq ?_
    obtain ⟨r1, br1, hR⟩ := bindO_inv hR
    obtain ⟨r2, br2, hR⟩ := bindO_inv hR
    refine aw_region [.p, .p, .p, .p, .p, .p, .p, .p, .p, .p, .p] ?_
    refine st rfl rfl (eff_moveg rfl rfl) rfl ?_
    refine st rfl rfl (eff_call rfl K193 rfl (c193 ) ag_nil) rfl ?_
    refine st rfl rfl (eff_call rfl K138 rfl (c138 s193 br1) (ag_cons rfl ag_nil)) rfl ?_
    refine st rfl rfl (eff_lss rfl rfl rfl) rfl ?_
    refine st rfl rfl (eff_moveg rfl rfl) rfl ?_
    refine st_g rfl rfl rfl (gb_bool _ _) (fun h => eff_moveg rfl rfl) rfl ?_
    refine st_g rfl rfl rfl (gb_bool _ _) (fun h => eff_call rfl K194 rfl (c194 ) ag_nil) rfl ?_
    refine st_g rfl rfl rfl (gb_bool _ _) (fun h => eff_call rfl K139 rfl (c139 s194) (ag_cons (gd h rfl) ag_nil)) rfl ?_
    refine st_g rfl rfl rfl (gb_bool _ _) (fun h => eff_call rfl K138 rfl (c138 (s139 s194) (condF1 br2 h)) (ag_cons (gd h rfl) ag_nil)) rfl ?_
    refine st_g rfl rfl rfl (gb_bool _ _) (fun h => eff_geq rfl (gd h rfl) (gd h rfl)) rfl ?_
    refine st rfl rfl (eff_or rfl rfl rfl rfl) rfl ?_
    refine st_nil ?_
    refine aw_cond _ rfl (fun h2 => ?_) (fun h2 => ?_)
    · replace h2 : ((decide (a0 < r1)) || (decide (r2 ≤ a0))) = true := h2
      replace hR := condT hR h2
      try simp only [Bool.or_eq_true, Bool.and_eq_true, Bool.or_eq_false_iff, Bool.and_eq_false_iff, Bool.not_eq_true', Bool.not_eq_false', decide_eq_true_eq, decide_eq_false_iff_not] at h2
      refine aw_seq ?_
      refine aw_region [.p, .w, .p] ?_
      refine st rfl rfl (eff_build rfl z68 rfl pl68 pb_nil rfl) rfl ?_
      refine st_wn rfl rfl (eff_store (tv := .g (G.agg [G.int 0, G.str ByteArray.empty])) rfl ty68 rfl rfl rfl rfl rfl) ?_
      refine st rfl rfl (eff_assigng rfl rfl) rfl ?_
      refine st_nil ?_
      refine aw_ret ?_
      obtain rfl := Option.some.inj hR
      exact resN rfl ⟨rv_cell rfl rfl ty68 rfl rfl, rv_g rfl, trivial⟩ (by simp)
    · replace h2 : ((decide (a0 < r1)) || (decide (r2 ≤ a0))) = false := h2
      replace hR := condF hR h2
      try simp only [Bool.or_eq_true, Bool.and_eq_true, Bool.or_eq_false_iff, Bool.and_eq_false_iff, Bool.not_eq_true', Bool.not_eq_false', decide_eq_true_eq, decide_eq_false_iff_not] at h2
      refine aw_skip ?_
      refine aw_seq ?_
      obtain ⟨r3, br3, hR⟩ := bindO_inv hR
      refine aw_region [.p, .p, .p, .p] ?_
      refine st rfl rfl (eff_moveg rfl rfl) rfl ?_
      refine st rfl rfl (eff_call rfl K195 rfl (c195 a0 (by first | assumption | omega | (simp [copyL_len]; omega)) (by first | assumption | omega | (simp [copyL_len]; omega)) br3) (ag_cons rfl ag_nil)) rfl ?_
      refine st rfl rfl (eff_ixC rfl Tryz.underlying239 ty3 rfl rfl (by decide) (by decide) rfl) rfl ?_
      refine st rfl rfl (eff_assigng rfl rfl) rfl ?_
      refine st_nil ?_
      refine aw_seq ?_
      refine aw_block ?_
      refine aw_seq ?_
      obtain ⟨r4, br4, hR⟩ := bindO_inv hR
      refine aw_region [.p, .p, .p, .p, .p] ?_
      refine st rfl rfl (eff_moveg rfl rfl) rfl ?_
      refine st rfl rfl (eff_moveg rfl rfl) rfl ?_
      refine st rfl rfl (eff_call rfl K189 rfl (c189 r3.1 3 (by first | assumption | omega | (simp [copyL_len]; omega)) br4) (ag_cons rfl (ag_cons rfl ag_nil))) rfl ?_
      refine st rfl rfl (eff_lss rfl rfl rfl) rfl ?_
      refine st rfl rfl (eff_assigng rfl rfl) rfl ?_
      refine st_nil ?_
      refine aw_cond _ rfl (fun h3 => ?_) (fun h3 => ?_)
      · replace h3 : (decide (a0 < r4)) = true := h3
        replace hR := condT hR h3
        try simp only [Bool.or_eq_true, Bool.and_eq_true, Bool.or_eq_false_iff, Bool.and_eq_false_iff, Bool.not_eq_true', Bool.not_eq_false', decide_eq_true_eq, decide_eq_false_iff_not] at h3
        refine aw_seq ?_
        refine aw_region [.p, .p, .p, .w, .p] ?_
        refine st rfl rfl (eff_moveg rfl rfl) rfl ?_
        refine st rfl rfl (eff_subw rfl rfl rfl) rfl ?_
        refine st rfl rfl (eff_build rfl z68 rfl pl68 (pb_cons rfl (pb_cons rfl pb_nil)) rfl) rfl ?_
        refine st_wn rfl rfl (eff_store (tv := .g (G.agg [G.int (IntKind.i64.wrap (r3.1 - 1)), G.str (⟨#[87]⟩)])) rfl ty68 rfl rfl rfl rfl rfl) ?_
        refine st rfl rfl (eff_assigng rfl rfl) rfl ?_
        refine st_nil ?_
        refine aw_ret ?_
        obtain rfl := Option.some.inj hR
        exact resN rfl ⟨rv_cell rfl rfl ty68 rfl rfl, rv_g rfl, trivial⟩ (by simp)
      · replace h3 : (decide (a0 < r4)) = false := h3
        replace hR := condF hR h3
        try simp only [Bool.or_eq_true, Bool.and_eq_true, Bool.or_eq_false_iff, Bool.and_eq_false_iff, Bool.not_eq_true', Bool.not_eq_false', decide_eq_true_eq, decide_eq_false_iff_not] at h3
        refine aw_seq ?_
        obtain ⟨r5, br5, hR⟩ := bindO_inv hR
        refine aw_region [.p, .p, .p, .p, .p] ?_
        refine st rfl rfl (eff_moveg rfl rfl) rfl ?_
        refine st rfl rfl (eff_moveg rfl rfl) rfl ?_
        refine st rfl rfl (eff_call rfl K189 rfl (c189 r3.1 10 (by first | assumption | omega | (simp [copyL_len]; omega)) br5) (ag_cons rfl (ag_cons rfl ag_nil))) rfl ?_
        refine st rfl rfl (eff_lss rfl rfl rfl) rfl ?_
        refine st rfl rfl (eff_assigng rfl rfl) rfl ?_
        refine st_nil ?_
        refine aw_cond _ rfl (fun h4 => ?_) (fun h4 => ?_)
        · replace h4 : (decide (a0 < r5)) = true := h4
          replace hR := condT hR h4
          try simp only [Bool.or_eq_true, Bool.and_eq_true, Bool.or_eq_false_iff, Bool.and_eq_false_iff, Bool.not_eq_true', Bool.not_eq_false', decide_eq_true_eq, decide_eq_false_iff_not] at h4
          refine aw_seq ?_
          refine aw_region [.p, .p, .w, .p] ?_
          refine st rfl rfl (eff_moveg rfl rfl) rfl ?_
          refine st rfl rfl (eff_build rfl z68 rfl pl68 (pb_cons rfl (pb_cons rfl pb_nil)) rfl) rfl ?_
          refine st_wn rfl rfl (eff_store (tv := .g (G.agg [G.int r3.1, G.str (⟨#[83]⟩)])) rfl ty68 rfl rfl rfl rfl rfl) ?_
          refine st rfl rfl (eff_assigng rfl rfl) rfl ?_
          refine st_nil ?_
          refine aw_ret ?_
          obtain rfl := Option.some.inj hR
          exact resN rfl ⟨rv_cell rfl rfl ty68 rfl rfl, rv_g rfl, trivial⟩ (by simp)
        · replace h4 : (decide (a0 < r5)) = false := h4
          replace hR := condF hR h4
          try simp only [Bool.or_eq_true, Bool.and_eq_true, Bool.or_eq_false_iff, Bool.and_eq_false_iff, Bool.not_eq_true', Bool.not_eq_false', decide_eq_true_eq, decide_eq_false_iff_not] at h4
          refine aw_skip ?_
          refine aw_seq ?_
          refine aw_region [.p, .p, .w, .p] ?_
          refine st rfl rfl (eff_moveg rfl rfl) rfl ?_
          refine st rfl rfl (eff_build rfl z68 rfl pl68 (pb_cons rfl (pb_cons rfl pb_nil)) rfl) rfl ?_
          refine st_wn rfl rfl (eff_store (tv := .g (G.agg [G.int r3.1, G.str (⟨#[87]⟩)])) rfl ty68 rfl rfl rfl rfl rfl) ?_
          refine st rfl rfl (eff_assigng rfl rfl) rfl ?_
          refine st_nil ?_
          refine aw_ret ?_
          obtain rfl := Option.some.inj hR
          exact resN rfl ⟨rv_cell rfl rfl ty68 rfl rfl, rv_g rfl, trivial⟩ (by simp)

/-- calendar.Equivalent -/
def s159 (a0 : Int) (a1 : S67) : Option (Int × Int) :=
  bindO (s158 a0) fun r1 => (bif decide ((s152 [r1.2, (s107 a1), (s154 (!decide (r1.1.Kind = a1.Kind)) 13)]) ≠ 0) then some (0, (s152 [r1.2, (s107 a1), (s154 (!decide (r1.1.Kind = a1.Kind)) 13)])) else bindO (s138 a1) fun r2 => bindO (s138 r1.1) fun r3 => bindO (s138 (s139 a1)) fun r4 => (bif decide (r4 ≤ IntKind.i64.wrap ((IntKind.i64.wrap (r2 + a0)) - r3)) then some (0, 7) else some (IntKind.i64.wrap ((IntKind.i64.wrap (r2 + a0)) - r3), 0)))
theorem c159 (a0 : Int) (a1 : S67) {R : Int × Int}   (hR : s159 a0 a1 = some R) : Con (EG glT) 159 [G.int a0, G.agg [G.int a1.Year, G.str a1.Kind]] (G.tup [G.int R.1, G.int R.2]) := by
  unfold s159 at hR
  refine con_of_aw Tryz.func159 rfl rfl fun w0 M0 => ?_
  refine aw_seq ?_
  refine aw_region [.p, .p, .p] ?_
  refine st rfl rfl (eff_box rfl rfl) rfl ?_
  refine st rfl rfl (eff_assigng rfl rfl) rfl ?_
  refine st rfl rfl (eff_assigng rfl rfl) rfl ?_
  refine st_nil ?_
  refine aw_seq ?_
  obtain ⟨r1, br1, hR⟩ := bindO_inv hR
  refine aw_region [.p, .p, .p, .p, .p, .w, .w, .p] ?_
  refine st rfl rfl (eff_moveg rfl rfl) rfl ?_
  refine st rfl rfl (eff_call rfl K158 rfl (c158 a0 br1) (ag_cons rfl ag_nil)) rfl ?_
  refine st rfl rfl (eff_moveg rfl rfl) rfl ?_
  refine st rfl rfl (eff_extract rfl rfl rfl) rfl ?_
  refine st rfl rfl (eff_extract rfl rfl rfl) rfl ?_
  refine st_w rfl rfl (eff_alloc 6 rfl z68 rfl rfl) rfl ?_
  refine st_wn rfl rfl (eff_store (tv := .g (G.agg [G.int r1.1.Year, G.str r1.1.Kind])) rfl ty68 rfl rfl rfl rfl rfl) ?_
  refine st rfl rfl (eff_assigng rfl rfl) rfl ?_
  refine st_nil ?_
  refine aw_seq ?_
  refine aw_seq ?_
  refine aw_draw [.p, .p, .p, .p, .r, .p, .p, .p, .p, .p, .p, .p] (by kernel_rfl) ?_
  refine st rfl rfl (eff_moveg rfl rfl) rfl ?_
  refine st rfl rfl (eff_loadA rfl ty68 rfl rfl rfl) rfl ?_
  refine st rfl rfl (eff_call rfl K107 rfl (c107 a1) (ag_cons rfl ag_nil)) rfl ?_
  refine st rfl rfl (eff_fieldO rfl fl68_1 rfl) rfl ?_
  refine st_r rfl rfl (eff_loadO rfl ty9 rfl rfl rfl) rfl ?_
  refine st rfl rfl (eff_fieldAddr rfl fl68_1 rfl) rfl ?_
  refine st rfl rfl (eff_load rfl ty9 rfl) rfl ?_
  refine st rfl rfl (eff_sne rfl rfl rfl) rfl ?_
  refine st rfl rfl (eff_call rfl K154 rfl (c154 (!decide (r1.1.Kind = a1.Kind)) 13) (ag_cons rfl (ag_cons rfl ag_nil))) rfl ?_
  refine st rfl rfl (eff_buildSlice rfl Tryz.underlying170 ty37 z37 rfl (ps_cons rfl (ps_cons rfl (ps_cons rfl ps_nil))) rfl (by simp []) (by decide)) rfl ?_
  refine st rfl rfl (eff_call rfl K152 rfl (c152 [r1.2, (s107 a1), (s154 (!decide (r1.1.Kind = a1.Kind)) 13)]) (ag_cons rfl ag_nil)) rfl ?_
  refine st rfl rfl (eff_assigng rfl rfl) rfl ?_
  refine st_nil ?_
  refine aw_seq ?_
  refine aw_region [.p, .p] ?_
  refine st rfl rfl (eff_moveg rfl rfl) rfl ?_
  refine st rfl rfl (eff_neq rfl rfl rfl) rfl ?_
  refine st_nil ?_
  refine aw_cond _ rfl (fun h1 => ?_) (fun h1 => ?_)
  · replace h1 : (decide ((s152 [r1.2, (s107 a1), (s154 (!decide (r1.1.Kind = a1.Kind)) 13)]) ≠ 0)) = true := h1
    replace hR := condT hR h1
    try simp only [Bool.or_eq_true, Bool.and_eq_true, Bool.or_eq_false_iff, Bool.and_eq_false_iff, Bool.not_eq_true', Bool.not_eq_false', decide_eq_true_eq, decide_eq_false_iff_not] at h1
    refine aw_seq ?_
    refine aw_region [.p, .p, .p] ?_
    refine st rfl rfl (eff_moveg rfl rfl) rfl ?_
    refine st rfl rfl (eff_assigng rfl rfl) rfl ?_
    refine st rfl rfl (eff_assigng rfl rfl) rfl ?_
    refine st_nil ?_
    refine aw_ret ?_
    obtain rfl := Option.some.inj hR
    exact resN rfl ⟨rv_g rfl, rv_g rfl, trivial⟩ (by simp)
  · replace h1 : (decide ((s152 [r1.2, (s107 a1), (s154 (!decide (r1.1.Kind = a1.Kind)) 13)]) ≠ 0)) = false := h1
    replace hR := condF hR h1
    try simp only [Bool.or_eq_true, Bool.and_eq_true, Bool.or_eq_false_iff, Bool.and_eq_false_iff, Bool.not_eq_true', Bool.not_eq_false', decide_eq_true_eq, decide_eq_false_iff_not] at h1
    refine aw_skip ?_
    refine aw_seq ?_
    obtain ⟨r2, br2, hR⟩ := bindO_inv hR
    obtain ⟨r3, br3, hR⟩ := bindO_inv hR
    refine aw_draw [.p, .p, .p, .p, .r, .p, .p, .p] (by kernel_rfl) ?_
    refine st rfl rfl (eff_loadA rfl ty68 rfl rfl rfl) rfl ?_
    refine st rfl rfl (eff_call rfl K138 rfl (c138 a1 br2) (ag_cons rfl ag_nil)) rfl ?_
    refine st rfl rfl (eff_moveg rfl rfl) rfl ?_
    refine st rfl rfl (eff_addw rfl rfl rfl) rfl ?_
    refine st_r rfl rfl (eff_loadOA rfl ty68 rfl rfl rfl rfl) rfl ?_
    refine st rfl rfl (eff_call rfl K138 rfl (c138 r1.1 br3) (ag_cons rfl ag_nil)) rfl ?_
    refine st rfl rfl (eff_subw rfl rfl rfl) rfl ?_
    refine st rfl rfl (eff_assigng rfl rfl) rfl ?_
    refine st_nil ?_
    refine aw_seq ?_
    refine aw_seq ?_
    obtain ⟨r4, br4, hR⟩ := bindO_inv hR
    refine aw_region [.p, .p, .p, .p, .p] ?_
    refine st rfl rfl (eff_moveg rfl rfl) rfl ?_
    refine st rfl rfl (eff_loadA rfl ty68 rfl rfl rfl) rfl ?_
    refine st rfl rfl (eff_call rfl K139 rfl (c139 a1) (ag_cons rfl ag_nil)) rfl ?_
    refine st rfl rfl (eff_call rfl K138 rfl (c138 (s139 a1) br4) (ag_cons rfl ag_nil)) rfl ?_
    refine st rfl rfl (eff_geq rfl rfl rfl) rfl ?_
    refine st_nil ?_
    refine aw_cond _ rfl (fun h2 => ?_) (fun h2 => ?_)
    · replace h2 : (decide (r4 ≤ IntKind.i64.wrap ((IntKind.i64.wrap (r2 + a0)) - r3))) = true := h2
      replace hR := condT hR h2
      try simp only [Bool.or_eq_true, Bool.and_eq_true, Bool.or_eq_false_iff, Bool.and_eq_false_iff, Bool.not_eq_true', Bool.not_eq_false', decide_eq_true_eq, decide_eq_false_iff_not] at h2
      refine aw_seq ?_
      refine aw_region [.p, .p] ?_
      refine st rfl rfl (eff_assigng rfl rfl) rfl ?_
      refine st rfl rfl (eff_assigng rfl rfl) rfl ?_
      refine st_nil ?_
      refine aw_ret ?_
      obtain rfl := Option.some.inj hR
      exact resN rfl ⟨rv_g rfl, rv_g rfl, trivial⟩ (by simp)
    · replace h2 : (decide (r4 ≤ IntKind.i64.wrap ((IntKind.i64.wrap (r2 + a0)) - r3))) = false := h2
      replace hR := condF hR h2
      try simp only [Bool.or_eq_true, Bool.and_eq_true, Bool.or_eq_false_iff, Bool.and_eq_false_iff, Bool.not_eq_true', Bool.not_eq_false', decide_eq_true_eq, decide_eq_false_iff_not] at h2
      refine aw_skip ?_
      refine aw_seq ?_
      refine aw_region [.p, .p, .p] ?_
      refine st rfl rfl (eff_moveg rfl rfl) rfl ?_
      refine st rfl rfl (eff_assigng rfl rfl) rfl ?_
      refine st rfl rfl (eff_assigng rfl rfl) rfl ?_
      refine st_nil ?_
      refine aw_ret ?_
      obtain rfl := Option.some.inj hR
      exact resN rfl ⟨rv_g rfl, rv_g rfl, trivial⟩ (by simp)
end Go.Sim

set_option linter.unusedSimpArgs false
set_option linter.unusedVariables false
set_option maxRecDepth 10000
namespace Go.Sim
open Go.Proofs


/-- turnroundref01.SeasonOf -/
def s110_l2 (rec1 : Int → Option (S67 × Bool)) (a0 : Int) (x2 : Int) : Nat → Int → Option (S67 × Bool)
  | 0, x4 => rec1 (x2 + 1)
  | k6 + 1, x4 => bindO (s111 (S67.mk x2 (ByteArray.extract (⟨#[83, 87]⟩) (Int.toNat x4) (Int.toNat (IntKind.i64.wrap (x4 + 1)))))) fun r7 => (bif (s157 r7 a0) then some ((S67.mk x2 (ByteArray.extract (⟨#[83, 87]⟩) (Int.toNat x4) (Int.toNat (IntKind.i64.wrap (x4 + 1))))), true) else s110_l2 rec1 a0 x2 k6 (x4 + 1))
def s110_l1 (a0 : Int) : Nat → Int → Option (S67 × Bool)
  | 0, x2 => some ((S67.mk 0 ByteArray.empty), false)
  | k3 + 1, x2 => s110_l2 (fun z0_ => s110_l1 a0 k3 z0_) a0 x2 (((2 : Int) - 0).toNat) 0
def s110 (a0 : Int) : Option (S67 × Bool) :=
  bindO (s161 a0) fun r1 => s110_l1 a0 ((((min 2272 r1.1) + 1) - (max 2000 (IntKind.i64.wrap (r1.1 - 1)))).toNat) (max 2000 (IntKind.i64.wrap (r1.1 - 1)))
theorem c110 {g : List (Nat × List Value)} (a0 : Int) {R : S67 × Bool}  (h0 : 0 ≤ a0) (h1 : a0 ≤ 100000) (hR : s110 a0 = some R) : Con (EG g) 110 [G.int a0] (G.tup [G.agg [G.int R.1.Year, G.str R.1.Kind], G.bool R.2]) := by
  unfold s110 at hR
  refine con_of_aw Tryz.func110 rfl rfl fun w0 M0 => ?_
  refine aw_seq ?_
  refine aw_region [.w, .p] ?_
  refine st_w rfl rfl (eff_alloc 2 rfl z74 rfl rfl) rfl ?_
  refine st rfl rfl (eff_assigng rfl rfl) rfl ?_
  refine st_nil ?_
  refine aw_seq ?_
  obtain ⟨r1, br1, hR⟩ := bindO_inv hR
  refine aw_region [.p, .p, .p, .p] ?_
  refine st rfl rfl (eff_moveg rfl rfl) rfl ?_
  refine st rfl rfl (eff_call rfl K161 rfl (c161 a0 (by first | assumption | omega | (simp [copyL_len]; omega)) (by first | assumption | omega | (simp [copyL_len]; omega)) br1) (ag_cons rfl ag_nil)) rfl ?_
  refine st rfl rfl (eff_ixC rfl Tryz.underlying239 ty3 rfl rfl (by decide) (by decide) rfl) rfl ?_
  refine st rfl rfl (eff_assigng rfl rfl) rfl ?_
  refine st_nil ?_
  refine aw_seq ?_
  refine aw_seq ?_
  refine aw_region [.p, .p, .p, .p] ?_
  refine st rfl rfl (eff_moveg rfl rfl) rfl ?_
  refine st rfl rfl (eff_subw rfl rfl rfl) rfl ?_
  refine st rfl rfl (eff_max rfl rfl rfl) rfl ?_
  refine st rfl rfl (eff_assigng rfl rfl) rfl ?_
  refine st_nil ?_
  refine aw_block ?_
  refine aw_loop_g (γ := Nat × Int) (fun g => ([(0, .g (G.int a0)), (2, .ptr 2 0), (4, .g (G.int r1.1)), (5, .g (G.int g.2))], [(2, .box [.g (G.int 0), .g (G.str ByteArray.empty)])])) (fun g => g.1 = (((min 2272 r1.1) + 1) - g.2).toNat ∧ 2000 ≤ g.2 ∧ s110_l1 a0 g.1 g.2 = some R) (fun g => g.1) ⟨rfl, ((((min 2272 r1.1) + 1) - (max 2000 (IntKind.i64.wrap (r1.1 - 1)))).toNat, max 2000 (IntKind.i64.wrap (r1.1 - 1))), ⟨rfl, rfl, rfl, rfl, trivial⟩, ⟨rfl, trivial⟩, rfl, ⟨rfl, (by first | omega | (dsimp only; omega) | simp), (by exact hR)⟩, trivial⟩ ?_
  · rintro ⟨k3, x2⟩ ⟨hk1, iv1_0, hR⟩
    replace hk1 : k3 = (((min 2272 r1.1) + 1) - x2).toNat := hk1
    replace hR : s110_l1 a0 k3 x2 = some R := hR
    replace iv1_0 : 2000 ≤ x2 := iv1_0
    refine aw_seq ?_
    refine aw_seq ?_
    refine aw_region [.p, .p, .p, .p] ?_
    refine st rfl rfl (eff_moveg rfl rfl) rfl ?_
    refine st rfl rfl (eff_moveg rfl rfl) rfl ?_
    refine st rfl rfl (eff_min rfl rfl rfl) rfl ?_
    refine st rfl rfl (eff_leq rfl rfl rfl) rfl ?_
    refine st_nil ?_
    refine aw_cond _ rfl (fun h1 => ?_) (fun h1 => ?_)
    · replace h1 : (decide (x2 ≤ min 2272 r1.1)) = true := h1
      replace h1 := decT h1
      obtain ⟨k3, rfl⟩ : ∃ m, k3 = m + 1 := ⟨k3 - 1, by omega⟩
      rw [s110_l1] at hR
      try dsimp only at hR
      refine aw_skip ?_
      refine aw_seq ?_
      refine aw_block ?_
      refine aw_seq ?_
      refine aw_region [.p] ?_
      refine st rfl rfl (eff_assigng rfl rfl) rfl ?_
      refine st_nil ?_
      refine aw_block ?_
      refine aw_loop_g (γ := Nat × Int) (fun g => ([(0, .g (G.int a0)), (2, .ptr 2 0), (4, .g (G.int r1.1)), (5, .g (G.int x2)), (6, .g (G.int g.2))], [(2, .box [.g (G.int 0), .g (G.str ByteArray.empty)])])) (fun g => g.1 = ((2 : Int) - g.2).toNat ∧ 0 ≤ g.2 ∧ s110_l2 (fun z0_ => s110_l1 a0 k3 z0_) a0 x2 g.1 g.2 = some R) (fun g => g.1) ⟨rfl, (((2 : Int) - 0).toNat, 0), ⟨rfl, rfl, rfl, rfl, rfl, trivial⟩, ⟨rfl, trivial⟩, rfl, ⟨rfl, (by first | omega | (dsimp only; omega) | simp), (by exact hR)⟩, trivial⟩ ?_
      · rintro ⟨k6, x4⟩ ⟨hk2, iv2_0, hR⟩
        replace hk2 : k6 = ((2 : Int) - x4).toNat := hk2
        replace hR : s110_l2 (fun z0_ => s110_l1 a0 k3 z0_) a0 x2 k6 x4 = some R := hR
        replace iv2_0 : 0 ≤ x4 := iv2_0
        refine aw_seq ?_
        refine aw_seq ?_
        refine aw_region [.p, .p] ?_
        refine st rfl rfl (eff_moveg rfl rfl) rfl ?_
        refine st rfl rfl (eff_lss rfl rfl rfl) rfl ?_
        refine st_nil ?_
        refine aw_cond _ rfl (fun h3 => ?_) (fun h3 => ?_)
        · replace h3 : (decide (x4 < 2)) = true := h3
          replace h3 := decT h3
          obtain ⟨k6, rfl⟩ : ∃ m, k6 = m + 1 := ⟨k6 - 1, by omega⟩
          rw [s110_l2] at hR
          try dsimp only at hR
          refine aw_skip ?_
          refine aw_seq ?_
          refine aw_block ?_
          refine aw_seq ?_
          have hw := wrap_i64 (n := x4 + 1) ⟨by omega, by omega⟩
          refine aw_region [.p, .p, .p, .p, .p, .p, .w, .w] ?_
          refine st rfl rfl (eff_moveg rfl rfl) rfl ?_
          refine st rfl rfl (eff_moveg rfl rfl) rfl ?_
          refine st rfl rfl (eff_moveg rfl rfl) rfl ?_
          refine st rfl rfl (eff_addw rfl rfl rfl) rfl ?_
          refine st rfl rfl (eff_slStr rfl Tryz.underlying9 rfl rfl rfl (by dsimp only; omega) (by dsimp only; omega) (by show IntKind.i64.wrap (x4 + 1) ≤ (2 : Int); omega)) rfl ?_
          refine st rfl rfl (eff_build rfl z74 rfl pl74 (pb_cons rfl (pb_cons rfl pb_nil)) rfl) rfl ?_
          refine st_w rfl rfl (eff_alloc 7 rfl z74 rfl rfl) rfl ?_
          refine st_wn rfl rfl (eff_store (tv := .g (G.agg [G.int x2, G.str (ByteArray.extract (⟨#[83, 87]⟩) (Int.toNat x4) (Int.toNat (IntKind.i64.wrap (x4 + 1))))])) rfl ty74 rfl rfl rfl rfl rfl) ?_
          refine st_nil ?_
          refine aw_seq ?_
          obtain ⟨r7, br7, hR⟩ := bindO_inv hR
          refine aw_region [.r, .p, .p, .p] ?_
          refine st_r rfl rfl (eff_loadOA rfl ty74 rfl rfl rfl rfl) rfl ?_
          refine st rfl rfl (eff_call rfl K111 rfl (c111 (S67.mk x2 (ByteArray.extract (⟨#[83, 87]⟩) (Int.toNat x4) (Int.toNat (IntKind.i64.wrap (x4 + 1))))) (by first | assumption | omega | (simp [copyL_len]; omega)) (by first | assumption | omega | (simp [copyL_len]; omega)) br7) (ag_cons rfl ag_nil)) rfl ?_
          refine st rfl rfl (eff_moveg rfl rfl) rfl ?_
          refine st rfl rfl (eff_call rfl K157 rfl (c157 r7 a0) (ag_cons rfl (ag_cons rfl ag_nil))) rfl ?_
          refine st_nil ?_
          refine aw_cond _ rfl (fun h5 => ?_) (fun h5 => ?_)
          · replace h5 : ((s157 r7 a0)) = true := h5
            replace hR := condT hR h5
            try simp only [Bool.or_eq_true, Bool.and_eq_true, Bool.or_eq_false_iff, Bool.and_eq_false_iff, Bool.not_eq_true', Bool.not_eq_false', decide_eq_true_eq, decide_eq_false_iff_not] at h5
            refine aw_seq ?_
            refine aw_region [.r, .w, .p] ?_
            refine st_r rfl rfl (eff_loadOA rfl ty74 rfl rfl rfl rfl) rfl ?_
            refine st_wn rfl rfl (eff_store (tv := .g (G.agg [G.int x2, G.str (ByteArray.extract (⟨#[83, 87]⟩) (Int.toNat x4) (Int.toNat (IntKind.i64.wrap (x4 + 1))))])) rfl ty74 rfl rfl rfl rfl rfl) ?_
            refine st rfl rfl (eff_assigng rfl rfl) rfl ?_
            refine st_nil ?_
            refine aw_ret ?_
            obtain rfl := Option.some.inj hR
            exact resN rfl ⟨rv_cell rfl rfl ty74 rfl rfl, rv_g rfl, trivial⟩ (by simp)
          · replace h5 : ((s157 r7 a0)) = false := h5
            replace hR := condF hR h5
            try simp only [Bool.or_eq_true, Bool.and_eq_true, Bool.or_eq_false_iff, Bool.and_eq_false_iff, Bool.not_eq_true', Bool.not_eq_false', decide_eq_true_eq, decide_eq_false_iff_not] at h5
            refine aw_skip ?_
            refine aw_region [.p, .p, .p] ?_
            refine st rfl rfl (eff_moveg rfl rfl) rfl ?_
            refine st rfl rfl (eff_add rfl rfl rfl (by (try dsimp only); unfold I64; omega)) rfl ?_
            refine st rfl rfl (eff_assigng rfl rfl) rfl ?_
            refine st_nil ?_
            exact ⟨rfl, (k6, x4 + 1), ⟨rfl, rfl, rfl, rfl, rfl, trivial⟩, ⟨rfl, trivial⟩, rfl, ⟨(by first | omega | (dsimp only; omega) | (simp at *; omega)), (by first | omega | (dsimp only; omega) | (simp at *; omega)), hR⟩, by simp⟩
        · replace h3 : (decide (x4 < 2)) = false := h3
          replace h3 := decF h3
          obtain rfl : k6 = 0 := by omega
          rw [s110_l2] at hR
          refine aw_exit ?_
          refine aw_region [.p, .p, .p] ?_
          refine st rfl rfl (eff_moveg rfl rfl) rfl ?_
          refine st rfl rfl (eff_add rfl rfl rfl (by (try dsimp only); unfold I64; omega)) rfl ?_
          refine st rfl rfl (eff_assigng rfl rfl) rfl ?_
          refine st_nil ?_
          exact ⟨rfl, (k3, x2 + 1), ⟨rfl, rfl, rfl, rfl, trivial⟩, ⟨rfl, trivial⟩, rfl, ⟨(by first | omega | (dsimp only; omega) | (simp at *; omega)), (by first | omega | (dsimp only; omega) | (simp at *; omega)), hR⟩, by simp⟩
    · replace h1 : (decide (x2 ≤ min 2272 r1.1)) = false := h1
      replace h1 := decF h1
      obtain rfl : k3 = 0 := by omega
      rw [s110_l1] at hR
      refine aw_exit ?_
      refine aw_seq ?_
      refine aw_region [.p, .w, .p] ?_
      refine st rfl rfl (eff_build rfl z74 rfl pl74 pb_nil rfl) rfl ?_
      refine st_wn rfl rfl (eff_store (tv := .g (G.agg [G.int 0, G.str ByteArray.empty])) rfl ty74 rfl rfl rfl rfl rfl) ?_
      refine st rfl rfl (eff_assigng rfl rfl) rfl ?_
      refine st_nil ?_
      refine aw_ret ?_
      obtain rfl := Option.some.inj hR
      exact resN rfl ⟨rv_cell rfl rfl ty74 rfl rfl, rv_g rfl, trivial⟩ (by simp)

/-- slices.Clip[[]api.Period,api.Period] -/
def s197 (a0 : List S45) : List S45 :=
  a0
theorem c197 {g : List (Nat × List Value)} (a0 : List S45)    : Con (EG g) 197 [G.sl 3 (List.map S45.c a0)] (G.sl 3 (List.map S45.c (s197 a0))) := by
  generalize hR : s197 a0 = R
  unfold s197 at hR
  refine con_of_aw Tryz.func197 rfl rfl fun w0 M0 => ?_
  refine len_sl (f := S45.c) (l := a0) 0 rfl fun hla0 => ?_
  refine aw_seq ?_
  refine aw_region [.p] ?_
  refine st rfl rfl (eff_assigng rfl rfl) rfl ?_
  refine st_nil ?_
  refine aw_seq ?_
  refine aw_region [.p, .p, .p, .p, .p, .p, .p] ?_
  refine st rfl rfl (eff_moveg rfl rfl) rfl ?_
  refine st rfl rfl (eff_moveg rfl rfl) rfl ?_
  refine st rfl rfl (eff_lenM (f := S45.c) (l := a0) rfl Tryz.underlying69 rfl) rfl ?_
  refine st rfl rfl (eff_moveg rfl rfl) rfl ?_
  refine st rfl rfl (eff_lenM (f := S45.c) (l := a0) rfl Tryz.underlying69 rfl) rfl ?_
  refine st rfl rfl (eff_clip (f := S45.c) (l := a0) rfl Tryz.underlying69 ty46 rfl rfl rfl) rfl ?_
  refine st rfl rfl (eff_assigng rfl rfl) rfl ?_
  refine st_nil ?_
  refine aw_ret ?_
  subst hR
  exact res_c rfl (rv_g rfl)

/-- turnroundref01.weekMask -/
def s164_j1 (rec1 : Nat → Int → Int) (k3 : Nat) (x6 : Int) : Int :=
  rec1 (k3 + 1) x6
def s164_l2 (rec1 : Nat → Int → Int) (x1 : Int) (k3 : Nat) : Nat → Int → Int → Int
  | 0, x7, x8 => s164_j1 rec1 k3 (IntKind.i64.wrap (x1 + x7))
  | k10 + 1, x7, x8 => s164_l2 rec1 x1 k3 k10 (IntKind.i64.wrap (2 * x7)) (x8 + 1)
def s164_l1 (a1 : Int) : List Int → Nat → Int → Int
  | [], k3, x1 => x1
  | y4 :: t5, k3, x1 => (bif decide ((s163 y4) = a1) then s164_l2 (fun k_ z0_ => s164_l1 a1 t5 k_ z0_) x1 k3 (((s180 y4) - 0).toNat) 1 0 else s164_j1 (fun k_ z0_ => s164_l1 a1 t5 k_ z0_) k3 x1)
def s164 (a0 : List Int) (a1 : Int) : Int :=
  s164_l1 a1 a0 0 0
theorem c164 {g : List (Nat × List Value)} (a0 : List Int) (a1 : Int)    : Con (EG g) 164 [G.sl 1 (List.map cInt a0), G.int a1] (G.int (s164 a0 a1)) := by
  generalize hR : s164 a0 a1 = R
  unfold s164 at hR
  refine con_of_aw Tryz.func164 rfl rfl fun w0 M0 => ?_
  refine len_sl (f := cInt) (l := a0) 0 rfl fun hla0 => ?_
  refine aw_seq ?_
  refine aw_region [.p] ?_
  refine st rfl rfl (eff_assigng rfl rfl) rfl ?_
  refine st_nil ?_
  refine aw_seq ?_
  refine aw_region [.p] ?_
  refine st rfl rfl (eff_assigng rfl rfl) rfl ?_
  refine st_nil ?_
  refine aw_seq ?_
  refine aw_seq ?_
  refine aw_region [.p] ?_
  refine st rfl rfl (eff_assigng rfl rfl) rfl ?_
  refine st_nil ?_
  refine aw_block ?_
  refine aw_loop_g (γ := Nat × (List Int) × Int) (fun g => ([(0, .g (G.sl 1 (List.map cInt a0))), (1, .g (G.int a1)), (5, .g (G.int g.2.2)), (6, .g (G.int ((g.1 : Nat) : Int)))], [])) (fun g => a0.drop g.1 = g.2.1 ∧ s164_l1 a1 g.2.1 g.1 g.2.2 = R) (fun g => List.length g.2.1) ⟨rfl, (0, a0, 0), ⟨rfl, rfl, rfl, rfl, trivial⟩, trivial, rfl, ⟨rfl, hR⟩, trivial⟩ ?_
  · rintro ⟨k3, t5, x1⟩ ⟨hd, hR⟩
    replace hd : a0.drop k3 = t5 := hd
    replace hR : s164_l1 a1 t5 k3 x1 = R := hR
    refine aw_seq ?_
    refine aw_seq ?_
    refine aw_region [.p, .p, .p, .p] ?_
    refine st rfl rfl (eff_moveg rfl rfl) rfl ?_
    refine st rfl rfl (eff_moveg rfl rfl) rfl ?_
    refine st rfl rfl (eff_lenM (f := cInt) (l := a0) rfl Tryz.underlying82 rfl) rfl ?_
    refine st rfl rfl (eff_lss rfl rfl rfl) rfl ?_
    refine st_nil ?_
    refine len_sl (f := cInt) (l := a0) 0 rfl fun hlz1 => ?_
    refine aw_cond _ rfl (fun h1 => ?_) (fun h1 => ?_)
    · replace h1 : (decide (((k3 : Nat) : Int) < (List.length a0 : Int))) = true := h1
      obtain ⟨y4, t5, rfl, hx1, hd⟩ := drop_cons hd (decT h1)
      replace h1 := decT h1
      rw [s164_l1] at hR
      try dsimp only at hR
      refine aw_skip ?_
      refine aw_cut_g (γ := Int) (fun g => ([(0, .g (G.sl 1 (List.map cInt a0))), (1, .g (G.int a1)), (5, .g (G.int g)), (6, .g (G.int ((k3 : Nat) : Int)))], [])) (fun g => s164_j1 (fun k_ z0_ => s164_l1 a1 t5 k_ z0_) k3 g = R) ?_ ?_
      · refine aw_block ?_
        refine aw_seq ?_
        refine aw_region [.p, .p, .p, .p, .p, .p, .p] ?_
        refine st rfl rfl (eff_moveg rfl rfl) rfl ?_
        refine st rfl rfl (eff_moveg rfl rfl) rfl ?_
        refine st rfl rfl (eff_ix (f := cInt) (l := a0) (a := y4) rfl Tryz.underlying82 ty3 rfl rfl (Int.natCast_nonneg _) hx1) rfl ?_
        refine st rfl rfl (eff_load rfl ty3 rfl) rfl ?_
        refine st rfl rfl (eff_call rfl K163 rfl (c163 y4) (ag_cons rfl ag_nil)) rfl ?_
        refine st rfl rfl (eff_moveg rfl rfl) rfl ?_
        refine st rfl rfl (eff_eql rfl rfl rfl) rfl ?_
        refine st_nil ?_
        refine aw_cond _ rfl (fun h3 => ?_) (fun h3 => ?_)
        · replace h3 : (decide ((s163 y4) = a1)) = true := h3
          replace hR := condT hR h3
          try simp only [Bool.or_eq_true, Bool.and_eq_true, Bool.or_eq_false_iff, Bool.and_eq_false_iff, Bool.not_eq_true', Bool.not_eq_false', decide_eq_true_eq, decide_eq_false_iff_not] at h3
          refine aw_seq ?_
          refine aw_region [.p] ?_
          refine st rfl rfl (eff_assigng rfl rfl) rfl ?_
          refine st_nil ?_
          refine aw_seq ?_
          refine aw_seq ?_
          refine aw_region [.p] ?_
          refine st rfl rfl (eff_assigng rfl rfl) rfl ?_
          refine st_nil ?_
          refine aw_block ?_
          refine aw_loop_g (γ := Nat × Int × Int) (fun g => ([(0, .g (G.sl 1 (List.map cInt a0))), (1, .g (G.int a1)), (5, .g (G.int x1)), (6, .g (G.int ((k3 : Nat) : Int))), (7, .g (G.int g.2.1)), (8, .g (G.int g.2.2))], [])) (fun g => g.1 = ((s180 y4) - g.2.2).toNat ∧ 0 ≤ g.2.2 ∧ s164_l2 (fun k_ z0_ => s164_l1 a1 t5 k_ z0_) x1 k3 g.1 g.2.1 g.2.2 = R) (fun g => g.1) ⟨rfl, (((s180 y4) - 0).toNat, 1, 0), ⟨rfl, rfl, rfl, rfl, rfl, rfl, trivial⟩, trivial, rfl, ⟨rfl, (by first | omega | (dsimp only; omega) | simp), hR⟩, trivial⟩ ?_
          · rintro ⟨k10, x7, x8⟩ ⟨hk2, iv2_0, hR⟩
            replace hk2 : k10 = ((s180 y4) - x8).toNat := hk2
            replace hR : s164_l2 (fun k_ z0_ => s164_l1 a1 t5 k_ z0_) x1 k3 k10 x7 x8 = R := hR
            replace iv2_0 : 0 ≤ x8 := iv2_0
            refine aw_seq ?_
            refine aw_seq ?_
            refine aw_region [.p, .p, .p, .p, .p, .p, .p] ?_
            refine st rfl rfl (eff_moveg rfl rfl) rfl ?_
            refine st rfl rfl (eff_moveg rfl rfl) rfl ?_
            refine st rfl rfl (eff_moveg rfl rfl) rfl ?_
            refine st rfl rfl (eff_ix (f := cInt) (l := a0) (a := y4) rfl Tryz.underlying82 ty3 rfl rfl (Int.natCast_nonneg _) hx1) rfl ?_
            refine st rfl rfl (eff_load rfl ty3 rfl) rfl ?_
            refine st rfl rfl (eff_call rfl K180 rfl (c180 y4) (ag_cons rfl ag_nil)) rfl ?_
            refine st rfl rfl (eff_lss rfl rfl rfl) rfl ?_
            refine st_nil ?_
            refine aw_cond _ rfl (fun h4 => ?_) (fun h4 => ?_)
            · replace h4 : (decide (x8 < (s180 y4))) = true := h4
              replace h4 := decT h4
              obtain ⟨k10, rfl⟩ : ∃ m, k10 = m + 1 := ⟨k10 - 1, by omega⟩
              rw [s164_l2] at hR
              try dsimp only at hR
              refine aw_skip ?_
              refine aw_seq ?_
              refine aw_block ?_
              refine aw_region [.p, .p, .p] ?_
              refine st rfl rfl (eff_moveg rfl rfl) rfl ?_
              refine st rfl rfl (eff_mulw rfl rfl rfl) rfl ?_
              refine st rfl rfl (eff_assigng rfl rfl) rfl ?_
              refine st_nil ?_
              have h7 := s180_lt y4
              refine aw_region [.p, .p, .p] ?_
              refine st rfl rfl (eff_moveg rfl rfl) rfl ?_
              refine st rfl rfl (eff_add rfl rfl rfl (by (try dsimp only); unfold I64; omega)) rfl ?_
              refine st rfl rfl (eff_assigng rfl rfl) rfl ?_
              refine st_nil ?_
              exact ⟨rfl, (k10, IntKind.i64.wrap (2 * x7), x8 + 1), ⟨rfl, rfl, rfl, rfl, rfl, rfl, trivial⟩, trivial, rfl, ⟨(by first | omega | (dsimp only; omega) | (simp at *; omega)), (by first | omega | (dsimp only; omega) | (simp at *; omega)), hR⟩, by simp⟩
            · replace h4 : (decide (x8 < (s180 y4))) = false := h4
              replace h4 := decF h4
              obtain rfl : k10 = 0 := by omega
              rw [s164_l2] at hR
              refine aw_exit ?_
              refine aw_region [.p, .p, .p, .p] ?_
              refine st rfl rfl (eff_moveg rfl rfl) rfl ?_
              refine st rfl rfl (eff_moveg rfl rfl) rfl ?_
              refine st rfl rfl (eff_addw rfl rfl rfl) rfl ?_
              refine st rfl rfl (eff_assigng rfl rfl) rfl ?_
              refine st_nil ?_
              exact ⟨rfl, IntKind.i64.wrap (x1 + x7), ⟨rfl, rfl, rfl, rfl, trivial⟩, trivial, rfl, hR, trivial⟩
        · replace h3 : (decide ((s163 y4) = a1)) = false := h3
          replace hR := condF hR h3
          try simp only [Bool.or_eq_true, Bool.and_eq_true, Bool.or_eq_false_iff, Bool.and_eq_false_iff, Bool.not_eq_true', Bool.not_eq_false', decide_eq_true_eq, decide_eq_false_iff_not] at h3
          refine aw_skip ?_
          exact ⟨rfl, x1, ⟨rfl, rfl, rfl, rfl, trivial⟩, trivial, rfl, hR, trivial⟩
      · rintro x6 hR
        replace hR : s164_j1 (fun k_ z0_ => s164_l1 a1 t5 k_ z0_) k3 x6 = R := hR
        unfold s164_j1 at hR
        refine aw_region [.p, .p, .p] ?_
        refine st rfl rfl (eff_moveg rfl rfl) rfl ?_
        refine st rfl rfl (eff_add rfl rfl rfl (by unfold I64; omega)) rfl ?_
        refine st rfl rfl (eff_assigng rfl rfl) rfl ?_
        refine st_nil ?_
        exact ⟨rfl, (k3 + 1, t5, x6), ⟨rfl, rfl, rfl, rfl, trivial⟩, trivial, rfl, ⟨hd, hR⟩, by simp⟩
    · replace h1 : (decide (((k3 : Nat) : Int) < (List.length a0 : Int))) = false := h1
      obtain rfl := drop_nil hd (decF h1)
      rw [s164_l1] at hR
      refine aw_exit ?_
      refine aw_seq ?_
      refine aw_region [.p, .p] ?_
      refine st rfl rfl (eff_moveg rfl rfl) rfl ?_
      refine st rfl rfl (eff_assigng rfl rfl) rfl ?_
      refine st_nil ?_
      refine aw_ret ?_
      subst hR
      exact res_c rfl (rv_g rfl)
end Go.Sim

namespace Go.Sim
/-! ## the days of a list that is checked -/
theorem day_step {l : List Int} {P : Int → Prop} {k : Nat} {y : Int} (h : ∀ x ∈ List.take k l, P x) (hy : l[k]? = some y) (hp : P y) : ∀ x ∈ List.take (k + 1) l, P x := by
  intro x hx
  have hk : k < l.length := (List.getElem?_eq_some_iff.1 hy).1
  rw [List.take_succ, hy] at hx
  rcases List.mem_append.1 hx with hx | hx
  · exact h x hx
  · simp at hx; rw [hx]; exact hp
theorem day_of {l : List Int} {P : Int → Prop} {k j : Nat} {y : Int} (h : ∀ x ∈ List.take k l, P x) (hk : l.length ≤ k) (hy : l[j]? = some y) : P y := by
  rw [List.take_of_length_le hk] at h
  exact h y (List.mem_of_getElem? hy)
theorem s188_rng {y : Int} (h : 0 ≤ y ∧ y ≤ 99999) : 0 ≤ s188 y ∧ s188 y < 7 := by
  unfold s188
  rw [wrap_i64 ⟨by omega, by omega⟩, Int.tmod_eq_emod_of_nonneg (by omega)]
  omega
theorem day_ok {y b : Int} (h : ¬ s152 [s153 y, b] ≠ 0) : 0 ≤ y ∧ y ≤ 99999 := s153_rng (first2 (s153 y) b (Decidable.not_not.1 h)).1
end Go.Sim

set_option linter.unusedSimpArgs false
set_option linter.unusedVariables false
set_option maxRecDepth 10000
namespace Go.Sim
open Go.Proofs


/-- turnroundref01.Join -/
def s112_j1 (rec1 : Nat → (List S45) → Int → Option (List S45)) (k4 : Nat) (x7 : List S45) (x8 : Int) : Option (List S45) :=
  rec1 (k4 + 1) x7 x8
def s112_l1 (a0 : List Int) : List Int → Nat → (List S45) → Int → Option (List S45)
  | [], k4, x1, x2 => some x1
  | y5 :: t6, k4, x1, x2 => bindO (bif decide (0 < ((k4 : Nat) : Int)) then ixO a0 (IntKind.i64.wrap (((k4 : Nat) : Int) - 1)) else some default) fun y9 => (bif (decide (0 < ((k4 : Nat) : Int))) && (decide ((s163 y9) = (s163 y5))) then bindO (ixO x1 (IntKind.i64.wrap ((List.length x1 : Int) - 1))) fun y10 => s112_j1 (fun k_ z0_ z1_ => s112_l1 a0 t6 k_ z0_ z1_) k4 (List.set x1 (Int.toNat (IntKind.i64.wrap ((List.length x1 : Int) - 1))) (S45.mk y10.fFrom y5 y10.Days)) x2 else bindO (bif decide (0 < ((k4 : Nat) : Int)) then ixO a0 (IntKind.i64.wrap (((k4 : Nat) : Int) - 1)) else some default) fun y11 => bindO (bif (decide (0 < ((k4 : Nat) : Int))) && (decide ((s163 y11) = IntKind.i64.wrap ((s163 y5) - 1))) then ixO x1 (IntKind.i64.wrap ((List.length x1 : Int) - 1)) else some default) fun y12 => (bif (((decide (0 < ((k4 : Nat) : Int))) && (decide ((s163 y11) = IntKind.i64.wrap ((s163 y5) - 1)))) && (decide (y12.Days = (s164 a0 (s163 y5))))) && (decide (x2 < 57)) then bindO (ixO x1 (IntKind.i64.wrap ((List.length x1 : Int) - 1))) fun y13 => s112_j1 (fun k_ z0_ z1_ => s112_l1 a0 t6 k_ z0_ z1_) k4 (List.set x1 (Int.toNat (IntKind.i64.wrap ((List.length x1 : Int) - 1))) (S45.mk y13.fFrom y5 y13.Days)) (IntKind.i64.wrap (x2 + 1)) else s112_j1 (fun k_ z0_ z1_ => s112_l1 a0 t6 k_ z0_ z1_) k4 (x1 ++ [(S45.mk y5 y5 (s164 a0 (s163 y5)))]) 1))
def s112 (a0 : List Int) : Option (List S45) :=
  s112_l1 a0 a0 0 [] 0
theorem n112 {g : List (Nat × List Value)} (a0 : List Int) {R : List S45}  (hb0 : a0.length ≤ 401) (hR : s112 a0 = some R) : ConN (EG g) 112 [G.sl 1 (List.map cInt a0)] 46 3 (List.map S45.c R) := by
  unfold s112 at hR
  refine conN_of_aw Tryz.func112 rfl rfl fun w0 M0 => ?_
  refine len_sl (f := cInt) (l := a0) 0 rfl fun hla0 => ?_
  refine aw_seq ?_
  refine aw_region [.w] ?_
  refine st_w rfl rfl (eff_nilL 2 46 3 rfl rfl rfl) rfl ?_
  refine st_nil ?_
  refine aw_seq ?_
  refine aw_region [.w] ?_
  refine st_w rfl rfl (eff_nilL 3 46 3 rfl rfl rfl) rfl ?_
  refine st_nil ?_
  refine aw_seq ?_
  refine aw_region [.p] ?_
  refine st rfl rfl (eff_assigng rfl rfl) rfl ?_
  refine st_nil ?_
  refine aw_seq ?_
  refine aw_seq ?_
  refine aw_region [.p] ?_
  refine st rfl rfl (eff_assigng rfl rfl) rfl ?_
  refine st_nil ?_
  refine aw_block ?_
  refine aw_loop_g (γ := Nat × (List Int) × (List S45) × Int) (fun g => ([(0, .g (G.sl 1 (List.map cInt a0))), (3, .osl 3 3 0 (List.length g.2.2.1)), (4, .g (G.int g.2.2.2)), (5, .g (G.int ((g.1 : Nat) : Int)))], [(3, .arr 46 3 (List.map S45.c g.2.2.1))])) (fun g => g.2.2.1.length ≤ g.1 ∧ a0.drop g.1 = g.2.1 ∧ s112_l1 a0 g.2.1 g.1 g.2.2.1 g.2.2.2 = some R) (fun g => List.length g.2.1) ⟨rfl, (0, a0, [], 0), ⟨rfl, rfl, rfl, rfl, trivial⟩, ⟨rfl, trivial⟩, rfl, ⟨(by first | (simp; done) | (simp; omega)), rfl, hR⟩, trivial⟩ ?_
  · rintro ⟨k4, t6, x1, x2⟩ ⟨iv1_0, hd, hR⟩
    replace hd : a0.drop k4 = t6 := hd
    replace hR : s112_l1 a0 t6 k4 x1 x2 = some R := hR
    replace iv1_0 : x1.length ≤ k4 := iv1_0
    refine aw_seq ?_
    refine aw_seq ?_
    refine aw_region [.p, .p, .p, .p] ?_
    refine st rfl rfl (eff_moveg rfl rfl) rfl ?_
    refine st rfl rfl (eff_moveg rfl rfl) rfl ?_
    refine st rfl rfl (eff_lenM (f := cInt) (l := a0) rfl Tryz.underlying82 rfl) rfl ?_
    refine st rfl rfl (eff_lss rfl rfl rfl) rfl ?_
    refine st_nil ?_
    refine len_sl (f := cInt) (l := a0) 0 rfl fun hlz1 => ?_
    refine aw_cond _ rfl (fun h1 => ?_) (fun h1 => ?_)
    · replace h1 : (decide (((k4 : Nat) : Int) < (List.length a0 : Int))) = true := h1
      obtain ⟨y5, t6, rfl, hx1, hd⟩ := drop_cons hd (decT h1)
      replace h1 := decT h1
      rw [s112_l1] at hR
      try dsimp only at hR
      refine aw_skip ?_
      refine aw_cut_g (γ := (List S45) × Int) (fun g => ([(0, .g (G.sl 1 (List.map cInt a0))), (3, .osl 3 3 0 (List.length g.1)), (4, .g (G.int g.2)), (5, .g (G.int ((k4 : Nat) : Int)))], [(3, .arr 46 3 (List.map S45.c g.1))])) (fun g => g.1.length ≤ k4 + 1 ∧ s112_j1 (fun k_ z0_ z1_ => s112_l1 a0 t6 k_ z0_ z1_) k4 g.1 g.2 = some R) ?_ ?_
      · refine aw_block ?_
        refine aw_seq ?_
        refine aw_region [.p, .p, .p, .p, .p, .p] ?_
        refine st rfl rfl (eff_moveg rfl rfl) rfl ?_
        refine st rfl rfl (eff_moveg rfl rfl) rfl ?_
        refine st rfl rfl (eff_ix (f := cInt) (l := a0) (a := y5) rfl Tryz.underlying82 ty3 rfl rfl (Int.natCast_nonneg _) hx1) rfl ?_
        refine st rfl rfl (eff_load rfl ty3 rfl) rfl ?_
        refine st rfl rfl (eff_call rfl K163 rfl (c163 y5) (ag_cons rfl ag_nil)) rfl ?_
        refine st rfl rfl (eff_assigng rfl rfl) rfl ?_
        refine st_nil ?_
        refine aw_seq ?_
        refine aw_seq ?_
        obtain ⟨y9, by9, hR⟩ := bindO_inv hR
        refine aw_region [.p, .p, .p, .p, .p, .p, .p, .p, .p, .p, .p, .p] ?_
        refine st rfl rfl (eff_moveg rfl rfl) rfl ?_
        refine st rfl rfl (eff_gtr rfl rfl rfl) rfl ?_
        refine st rfl rfl (eff_moveg rfl rfl) rfl ?_
        refine st_g rfl rfl rfl (gb_bool _ _) (fun h => eff_moveg rfl rfl) rfl ?_
        refine st_g rfl rfl rfl (gb_bool _ _) (fun h => eff_moveg rfl rfl) rfl ?_
        refine st_g rfl rfl rfl (gb_bool _ _) (fun h => eff_subw rfl (gd h rfl) rfl) rfl ?_
        refine st_g rfl rfl rfl (gb_bool _ _) (fun h => eff_ix (f := cInt) (l := a0) (a := y9) rfl Tryz.underlying82 ty3 (gd h rfl) (gd h rfl) (ixO_nn (condT1 by9 h)) (ixO_get (condT1 by9 h))) rfl ?_
        refine st_g rfl rfl rfl (gb_bool _ _) (fun h => eff_load rfl ty3 (gd h rfl)) rfl ?_
        refine st_g rfl rfl rfl (gb_bool _ _) (fun h => eff_call rfl K163 rfl (c163 y9) (ag_cons (gd h rfl) ag_nil)) rfl ?_
        refine st_g rfl rfl rfl (gb_bool _ _) (fun h => eff_moveg rfl rfl) rfl ?_
        refine st_g rfl rfl rfl (gb_bool _ _) (fun h => eff_eql rfl (gd h rfl) (gd h rfl)) rfl ?_
        refine st rfl rfl (eff_and rfl rfl rfl rfl) rfl ?_
        refine st_nil ?_
        refine aw_cond _ rfl (fun h3 => ?_) (fun h3 => ?_)
        · replace h3 : ((decide (0 < ((k4 : Nat) : Int))) && (decide ((s163 y9) = (s163 y5)))) = true := h3
          replace hR := condT hR h3
          try simp only [Bool.or_eq_true, Bool.and_eq_true, Bool.or_eq_false_iff, Bool.and_eq_false_iff, Bool.not_eq_true', Bool.not_eq_false', decide_eq_true_eq, decide_eq_false_iff_not] at h3
          refine aw_seq ?_
          obtain ⟨y10, by10, hR⟩ := bindO_inv hR
          refine aw_region [.p, .p, .p, .p, .p, .p, .p, .p, .p, .p, .w] ?_
          refine st rfl rfl (eff_moveO rfl rfl) rfl ?_
          refine st rfl rfl (eff_moveO rfl rfl) rfl ?_
          refine st rfl rfl (eff_lenO0 rfl Tryz.underlying69 rfl) rfl ?_
          refine st rfl rfl (eff_subw rfl rfl rfl) rfl ?_
          refine st rfl rfl (eff_moveg rfl rfl) rfl ?_
          refine st rfl rfl (eff_moveg rfl rfl) rfl ?_
          refine st rfl rfl (eff_ix (f := cInt) (l := a0) (a := y5) rfl Tryz.underlying82 ty3 rfl rfl (Int.natCast_nonneg _) hx1) rfl ?_
          refine st rfl rfl (eff_load rfl ty3 rfl) rfl ?_
          refine st rfl rfl (eff_ixL rfl Tryz.underlying69 ty46 rfl rfl (ixO_nn by10) (Nat.lt_of_lt_of_eq (get_lt (ixO_get by10)) rfl)) rfl ?_
          refine st rfl rfl (eff_fieldE rfl fl46_1 rfl) rfl ?_
          refine st_wn rfl rfl (eff_setF (f := S45.c) (l := x1) (a := y10) (a' := (S45.mk y10.fFrom y5 y10.Days)) rfl ty3 rfl rfl rfl (ixO_get by10) rfl rfl rfl) ?_
          refine st_nil ?_
          refine aw_exit ?_
          exact ⟨rfl, (List.set x1 (Int.toNat (IntKind.i64.wrap ((List.length x1 : Int) - 1))) (S45.mk y10.fFrom y5 y10.Days), x2), ⟨rfl, (by simp only [List.length_set]; rfl), rfl, rfl, trivial⟩, ⟨rfl, trivial⟩, rfl, ⟨(by first | omega | (dsimp only; omega) | (simp at *; done) | (simp at *; omega)), hR⟩, trivial⟩
        · replace h3 : ((decide (0 < ((k4 : Nat) : Int))) && (decide ((s163 y9) = (s163 y5)))) = false := h3
          replace hR := condF hR h3
          try simp only [Bool.or_eq_true, Bool.and_eq_true, Bool.or_eq_false_iff, Bool.and_eq_false_iff, Bool.not_eq_true', Bool.not_eq_false', decide_eq_true_eq, decide_eq_false_iff_not] at h3
          refine aw_skip ?_
          refine aw_seq ?_
          refine aw_region [.p, .p, .p, .p] ?_
          refine st rfl rfl (eff_moveg rfl rfl) rfl ?_
          refine st rfl rfl (eff_moveg rfl rfl) rfl ?_
          refine st rfl rfl (eff_call rfl K164 rfl (c164 a0 (s163 y5)) (ag_cons rfl (ag_cons rfl ag_nil))) rfl ?_
          refine st rfl rfl (eff_assigng rfl rfl) rfl ?_
          refine st_nil ?_
          refine aw_seq ?_
          refine aw_seq ?_
          obtain ⟨y11, by11, hR⟩ := bindO_inv hR
          obtain ⟨y12, by12, hR⟩ := bindO_inv hR
          refine aw_region [.p, .p, .p, .p, .p, .p, .p, .p, .p, .p, .p, .p, .p, .p, .p, .p, .p, .p, .p, .p, .r, .p, .p, .p, .p, .p, .p, .p] ?_
          refine st rfl rfl (eff_moveg rfl rfl) rfl ?_
          refine st rfl rfl (eff_gtr rfl rfl rfl) rfl ?_
          refine st rfl rfl (eff_moveg rfl rfl) rfl ?_
          refine st_g rfl rfl rfl (gb_bool _ _) (fun h => eff_moveg rfl rfl) rfl ?_
          refine st_g rfl rfl rfl (gb_bool _ _) (fun h => eff_moveg rfl rfl) rfl ?_
          refine st_g rfl rfl rfl (gb_bool _ _) (fun h => eff_subw rfl (gd h rfl) rfl) rfl ?_
          refine st_g rfl rfl rfl (gb_bool _ _) (fun h => eff_ix (f := cInt) (l := a0) (a := y11) rfl Tryz.underlying82 ty3 (gd h rfl) (gd h rfl) (ixO_nn (condT1 by11 h)) (ixO_get (condT1 by11 h))) rfl ?_
          refine st_g rfl rfl rfl (gb_bool _ _) (fun h => eff_load rfl ty3 (gd h rfl)) rfl ?_
          refine st_g rfl rfl rfl (gb_bool _ _) (fun h => eff_call rfl K163 rfl (c163 y11) (ag_cons (gd h rfl) ag_nil)) rfl ?_
          refine st_g rfl rfl rfl (gb_bool _ _) (fun h => eff_moveg rfl rfl) rfl ?_
          refine st_g rfl rfl rfl (gb_bool _ _) (fun h => eff_subw rfl (gd h rfl) rfl) rfl ?_
          refine st_g rfl rfl rfl (gb_bool _ _) (fun h => eff_eql rfl (gd h rfl) (gd h rfl)) rfl ?_
          refine st rfl rfl (eff_and rfl rfl rfl rfl) rfl ?_
          refine st rfl rfl (eff_moveg rfl rfl) rfl ?_
          refine st_g rfl rfl rfl (gb_bool _ _) (fun h => eff_moveO rfl rfl) rfl ?_
          refine st_g rfl rfl rfl (gb_bool _ _) (fun h => eff_moveO rfl rfl) rfl ?_
          refine st_g rfl rfl rfl (gb_bool _ _) (fun h => eff_lenO0 rfl Tryz.underlying69 (gd h rfl)) rfl ?_
          refine st_g rfl rfl rfl (gb_bool _ _) (fun h => eff_subw rfl (gd h rfl) rfl) rfl ?_
          refine st_g rfl rfl rfl (gb_bool _ _) (fun h => eff_ixL rfl Tryz.underlying69 ty46 (gd h rfl) (gd h rfl) (ixO_nn (condT1 by12 h)) (Nat.lt_of_lt_of_eq (get_lt (ixO_get (condT1 by12 h))) rfl)) rfl ?_
          refine st_g rfl rfl rfl (gb_bool _ _) (fun h => eff_fieldE rfl fl46_2 (gd h rfl)) rfl ?_
          refine st_gr rfl rfl rfl (gb_bool _ _) (fun h => eff_ldE (f := S45.c) (l := x1) (a := y12) rfl ty3 (gd h rfl) rfl (ixO_get (condT1 by12 h)) rfl) rfl ?_
          refine st_g rfl rfl rfl (gb_bool _ _) (fun h => eff_moveg rfl rfl) rfl ?_
          refine st_g rfl rfl rfl (gb_bool _ _) (fun h => eff_eql rfl (gd h rfl) (gd h rfl)) rfl ?_
          refine st rfl rfl (eff_and rfl rfl rfl rfl) rfl ?_
          refine st rfl rfl (eff_moveg rfl rfl) rfl ?_
          refine st_g rfl rfl rfl (gb_bool _ _) (fun h => eff_moveg rfl rfl) rfl ?_
          refine st_g rfl rfl rfl (gb_bool _ _) (fun h => eff_lss rfl (gd h rfl) rfl) rfl ?_
          refine st rfl rfl (eff_and rfl rfl rfl rfl) rfl ?_
          refine st_nil ?_
          refine aw_cond _ rfl (fun h4 => ?_) (fun h4 => ?_)
          · replace h4 : ((((decide (0 < ((k4 : Nat) : Int))) && (decide ((s163 y11) = IntKind.i64.wrap ((s163 y5) - 1)))) && (decide (y12.Days = (s164 a0 (s163 y5))))) && (decide (x2 < 57))) = true := h4
            replace hR := condT hR h4
            try simp only [Bool.or_eq_true, Bool.and_eq_true, Bool.or_eq_false_iff, Bool.and_eq_false_iff, Bool.not_eq_true', Bool.not_eq_false', decide_eq_true_eq, decide_eq_false_iff_not] at h4
            refine aw_seq ?_
            obtain ⟨y13, by13, hR⟩ := bindO_inv hR
            refine aw_region [.p, .p, .p, .p, .p, .p, .p, .p, .p, .p, .w] ?_
            refine st rfl rfl (eff_moveO rfl rfl) rfl ?_
            refine st rfl rfl (eff_moveO rfl rfl) rfl ?_
            refine st rfl rfl (eff_lenO0 rfl Tryz.underlying69 rfl) rfl ?_
            refine st rfl rfl (eff_subw rfl rfl rfl) rfl ?_
            refine st rfl rfl (eff_moveg rfl rfl) rfl ?_
            refine st rfl rfl (eff_moveg rfl rfl) rfl ?_
            refine st rfl rfl (eff_ix (f := cInt) (l := a0) (a := y5) rfl Tryz.underlying82 ty3 rfl rfl (Int.natCast_nonneg _) hx1) rfl ?_
            refine st rfl rfl (eff_load rfl ty3 rfl) rfl ?_
            refine st rfl rfl (eff_ixL rfl Tryz.underlying69 ty46 rfl rfl (ixO_nn by13) (Nat.lt_of_lt_of_eq (get_lt (ixO_get by13)) rfl)) rfl ?_
            refine st rfl rfl (eff_fieldE rfl fl46_1 rfl) rfl ?_
            refine st_wn rfl rfl (eff_setF (f := S45.c) (l := x1) (a := y13) (a' := (S45.mk y13.fFrom y5 y13.Days)) rfl ty3 rfl rfl rfl (ixO_get by13) rfl rfl rfl) ?_
            refine st_nil ?_
            refine aw_seq ?_
            refine aw_region [.p, .p, .p] ?_
            refine st rfl rfl (eff_moveg rfl rfl) rfl ?_
            refine st rfl rfl (eff_addw rfl rfl rfl) rfl ?_
            refine st rfl rfl (eff_assigng rfl rfl) rfl ?_
            refine st_nil ?_
            refine aw_exit ?_
            exact ⟨rfl, (List.set x1 (Int.toNat (IntKind.i64.wrap ((List.length x1 : Int) - 1))) (S45.mk y13.fFrom y5 y13.Days), IntKind.i64.wrap (x2 + 1)), ⟨rfl, (by simp only [List.length_set]; rfl), rfl, rfl, trivial⟩, ⟨rfl, trivial⟩, rfl, ⟨(by first | omega | (dsimp only; omega) | (simp at *; done) | (simp at *; omega)), hR⟩, trivial⟩
          · replace h4 : ((((decide (0 < ((k4 : Nat) : Int))) && (decide ((s163 y11) = IntKind.i64.wrap ((s163 y5) - 1)))) && (decide (y12.Days = (s164 a0 (s163 y5))))) && (decide (x2 < 57))) = false := h4
            replace hR := condF hR h4
            try simp only [Bool.or_eq_true, Bool.and_eq_true, Bool.or_eq_false_iff, Bool.and_eq_false_iff, Bool.not_eq_true', Bool.not_eq_false', decide_eq_true_eq, decide_eq_false_iff_not] at h4
            refine aw_skip ?_
            refine aw_seq ?_
            refine aw_draw2 [.p, .pn 3, .pn 3, .pn 3, .pn 3, .pn 3, .pn 3, .pn 3, .pn 3, .pn 3, .pn 3, .pn 3, .kn 3, .p] (by kernel_rfl) ?_
            refine st rfl rfl (eff_moveO rfl rfl) rfl ?_
            refine st_pn rfl rfl (eff_moveg rfl rfl) rfl rfl rfl ?_
            refine st_pn rfl rfl (eff_moveg rfl rfl) rfl rfl rfl ?_
            refine st_pn rfl rfl (eff_ix (f := cInt) (l := a0) (a := y5) rfl Tryz.underlying82 ty3 rfl rfl (Int.natCast_nonneg _) hx1) rfl rfl rfl ?_
            refine st_pn rfl rfl (eff_load rfl ty3 rfl) rfl rfl rfl ?_
            refine st_pn rfl rfl (eff_moveg rfl rfl) rfl rfl rfl ?_
            refine st_pn rfl rfl (eff_moveg rfl rfl) rfl rfl rfl ?_
            refine st_pn rfl rfl (eff_ix (f := cInt) (l := a0) (a := y5) rfl Tryz.underlying82 ty3 rfl rfl (Int.natCast_nonneg _) hx1) rfl rfl rfl ?_
            refine st_pn rfl rfl (eff_load rfl ty3 rfl) rfl rfl rfl ?_
            refine st_pn rfl rfl (eff_moveg rfl rfl) rfl rfl rfl ?_
            refine st_pn rfl rfl (eff_build rfl z46 rfl pl46 (pb_cons rfl (pb_cons rfl (pb_cons rfl pb_nil))) rfl) rfl rfl rfl ?_
            refine st_pn rfl rfl (eff_buildSlice rfl Tryz.underlying69 ty46 z46 rfl (ps_cons rfl ps_nil) rfl (by exact lens rfl) (by decide)) rfl rfl rfl ?_
            refine st_kn rfl rfl (eff_appL (f := S45.c) (out := x1) (new := [(S45.mk y5 y5 (s164 a0 (s163 y5)))]) rfl app69 rfl rfl (src_eq rfl (src_sl (by decide) (by simp [S45.c]))) (refsN rfl) (by simp; omega)) rfl ?_
            refine st rfl rfl (eff_assignO rfl rfl) rfl ?_
            refine st_nil ?_
            refine aw_region [.p] ?_
            refine st rfl rfl (eff_assigng rfl rfl) rfl ?_
            refine st_nil ?_
            exact ⟨rfl, (x1 ++ [(S45.mk y5 y5 (s164 a0 (s163 y5)))], 1), ⟨rfl, rfl, rfl, rfl, trivial⟩, ⟨rfl, trivial⟩, rfl, ⟨(by first | omega | (dsimp only; omega) | (simp at *; done) | (simp at *; omega)), hR⟩, trivial⟩
      · rintro ⟨x7, x8⟩ ⟨jv1_0, hR⟩
        replace jv1_0 : x7.length ≤ k4 + 1 := jv1_0
        replace hR : s112_j1 (fun k_ z0_ z1_ => s112_l1 a0 t6 k_ z0_ z1_) k4 x7 x8 = some R := hR
        unfold s112_j1 at hR
        refine aw_region [.p, .p, .p] ?_
        refine st rfl rfl (eff_moveg rfl rfl) rfl ?_
        refine st rfl rfl (eff_add rfl rfl rfl (by unfold I64; omega)) rfl ?_
        refine st rfl rfl (eff_assigng rfl rfl) rfl ?_
        refine st_nil ?_
        exact ⟨rfl, (k4 + 1, t6, x7, x8), ⟨rfl, rfl, rfl, rfl, trivial⟩, ⟨rfl, trivial⟩, rfl, ⟨(by first | omega | (dsimp only; omega) | (simp at *; omega)), hd, hR⟩, by simp⟩
    · replace h1 : (decide (((k4 : Nat) : Int) < (List.length a0 : Int))) = false := h1
      obtain rfl := drop_nil hd (decF h1)
      rw [s112_l1] at hR
      refine aw_exit ?_
      refine aw_seq ?_
      refine aw_region [.p, .p] ?_
      refine st rfl rfl (eff_moveO rfl rfl) rfl ?_
      refine st rfl rfl (eff_assignO rfl rfl) rfl ?_
      refine st_nil ?_
      refine aw_ret ?_
      obtain rfl := Option.some.inj hR
      exact doneN_own rfl rfl rfl ((List.length_map ..).trans rfl)
/-- turnroundref01.SamePeriods -/
def s43_l1 (a1 : List S45) : List S45 → Nat → Option Bool
  | [], k2 => some true
  | y3 :: t4, k2 => bindO (ixO a1 ((k2 : Nat) : Int)) fun y5 => (bif !(eqAnd [decide (y3.fFrom = y5.fFrom), decide (y3.fTo = y5.fTo), decide (y3.Days = y5.Days)]) then some false else s43_l1 a1 t4 (k2 + 1))
def s43 (a0 : List S45) (a1 : List S45) : Option Bool :=
  (bif decide ((List.length a0 : Int) ≠ (List.length a1 : Int)) then some false else s43_l1 a1 a0 0)
theorem c43 {g : List (Nat × List Value)} (a0 : List S45) (a1 : List S45) {R : Bool}   (hR : s43 a0 a1 = some R) : Con (EG g) 43 [G.sl 3 (List.map S45.c a0), G.sl 3 (List.map S45.c a1)] (G.bool R) := by
  unfold s43 at hR
  refine con_of_aw Tryz.func43 rfl rfl fun w0 M0 => ?_
  refine len_sl (f := S45.c) (l := a0) 0 rfl fun hla0 => ?_
  refine len_sl (f := S45.c) (l := a1) 1 rfl fun hla1 => ?_
  refine aw_seq ?_
  refine aw_region [.p] ?_
  refine st rfl rfl (eff_assigng rfl rfl) rfl ?_
  refine st_nil ?_
  refine aw_seq ?_
  refine aw_seq ?_
  refine aw_region [.p, .p, .p, .p, .p] ?_
  refine st rfl rfl (eff_moveg rfl rfl) rfl ?_
  refine st rfl rfl (eff_lenM (f := S45.c) (l := a0) rfl Tryz.underlying69 rfl) rfl ?_
  refine st rfl rfl (eff_moveg rfl rfl) rfl ?_
  refine st rfl rfl (eff_lenM (f := S45.c) (l := a1) rfl Tryz.underlying69 rfl) rfl ?_
  refine st rfl rfl (eff_neq rfl rfl rfl) rfl ?_
  refine st_nil ?_
  refine aw_cond _ rfl (fun h1 => ?_) (fun h1 => ?_)
  · replace h1 : (decide ((List.length a0 : Int) ≠ (List.length a1 : Int))) = true := h1
    replace hR := condT hR h1
    try simp only [Bool.or_eq_true, Bool.and_eq_true, Bool.or_eq_false_iff, Bool.and_eq_false_iff, Bool.not_eq_true', Bool.not_eq_false', decide_eq_true_eq, decide_eq_false_iff_not] at h1
    refine aw_seq ?_
    refine aw_region [.p] ?_
    refine st rfl rfl (eff_assigng rfl rfl) rfl ?_
    refine st_nil ?_
    refine aw_ret ?_
    obtain rfl := Option.some.inj hR
    exact res_c rfl (rv_g rfl)
  · replace h1 : (decide ((List.length a0 : Int) ≠ (List.length a1 : Int))) = false := h1
    replace hR := condF hR h1
    try simp only [Bool.or_eq_true, Bool.and_eq_true, Bool.or_eq_false_iff, Bool.and_eq_false_iff, Bool.not_eq_true', Bool.not_eq_false', decide_eq_true_eq, decide_eq_false_iff_not] at h1
    refine aw_skip ?_
    refine aw_seq ?_
    refine aw_seq ?_
    refine aw_region [.p] ?_
    refine st rfl rfl (eff_assigng rfl rfl) rfl ?_
    refine st_nil ?_
    refine aw_block ?_
    refine aw_loop_g (γ := Nat × (List S45)) (fun g => ([(0, .g (G.sl 3 (List.map S45.c a0))), (1, .g (G.sl 3 (List.map S45.c a1))), (5, .g (G.int ((g.1 : Nat) : Int)))], [])) (fun g => a0.drop g.1 = g.2 ∧ s43_l1 a1 g.2 g.1 = some R) (fun g => List.length g.2) ⟨rfl, (0, a0), ⟨rfl, rfl, rfl, trivial⟩, trivial, rfl, ⟨rfl, hR⟩, trivial⟩ ?_
    · rintro ⟨k2, t4⟩ ⟨hd, hR⟩
      replace hd : a0.drop k2 = t4 := hd
      replace hR : s43_l1 a1 t4 k2 = some R := hR
      refine aw_seq ?_
      refine aw_seq ?_
      refine aw_region [.p, .p, .p, .p] ?_
      refine st rfl rfl (eff_moveg rfl rfl) rfl ?_
      refine st rfl rfl (eff_moveg rfl rfl) rfl ?_
      refine st rfl rfl (eff_lenM (f := S45.c) (l := a0) rfl Tryz.underlying69 rfl) rfl ?_
      refine st rfl rfl (eff_lss rfl rfl rfl) rfl ?_
      refine st_nil ?_
      refine len_sl (f := S45.c) (l := a0) 0 rfl fun hlz1 => ?_
      refine aw_cond _ rfl (fun h2 => ?_) (fun h2 => ?_)
      · replace h2 : (decide (((k2 : Nat) : Int) < (List.length a0 : Int))) = true := h2
        obtain ⟨y3, t4, rfl, hx1, hd⟩ := drop_cons hd (decT h2)
        replace h2 := decT h2
        rw [s43_l1] at hR
        try dsimp only at hR
        refine aw_skip ?_
        refine aw_seq ?_
        refine aw_block ?_
        refine aw_seq ?_
        obtain ⟨y5, by5, hR⟩ := bindO_inv hR
        refine aw_draw [.p, .p, .p, .p, .p, .p, .p, .p, .p] (by kernel_rfl) ?_
        refine st rfl rfl (eff_moveg rfl rfl) rfl ?_
        refine st rfl rfl (eff_moveg rfl rfl) rfl ?_
        refine st rfl rfl (eff_ix (f := S45.c) (l := a0) (a := y3) rfl Tryz.underlying69 ty46 rfl rfl (Int.natCast_nonneg _) hx1) rfl ?_
        refine st rfl rfl (eff_loadA rfl ty46 rfl rfl rfl) rfl ?_
        refine st rfl rfl (eff_moveg rfl rfl) rfl ?_
        refine st rfl rfl (eff_moveg rfl rfl) rfl ?_
        refine st rfl rfl (eff_ix (f := S45.c) (l := a1) (a := y5) rfl Tryz.underlying69 ty46 rfl rfl (ixO_nn by5) (ixO_get by5)) rfl ?_
        refine st rfl rfl (eff_loadA rfl ty46 rfl rfl rfl) rfl ?_
        refine st rfl rfl (eff_aneq [.int .i64 y3.fFrom, .int .i64 y3.fTo, .int .i64 y3.Days] [.int .i64 y5.fFrom, .int .i64 y5.fTo, .int .i64 y5.Days] rfl flat46 rfl rfl rfl rfl rfl) rfl ?_
        refine st_nil ?_
        refine aw_cond _ rfl (fun h4 => ?_) (fun h4 => ?_)
        · replace h4 : (!(eqAnd [decide (y3.fFrom = y5.fFrom), decide (y3.fTo = y5.fTo), decide (y3.Days = y5.Days)])) = true := h4
          replace hR := condT hR h4
          try simp only [Bool.or_eq_true, Bool.and_eq_true, Bool.or_eq_false_iff, Bool.and_eq_false_iff, Bool.not_eq_true', Bool.not_eq_false', decide_eq_true_eq, decide_eq_false_iff_not] at h4
          refine aw_seq ?_
          refine aw_region [.p] ?_
          refine st rfl rfl (eff_assigng rfl rfl) rfl ?_
          refine st_nil ?_
          refine aw_ret ?_
          obtain rfl := Option.some.inj hR
          exact res_c rfl (rv_g rfl)
        · replace h4 : (!(eqAnd [decide (y3.fFrom = y5.fFrom), decide (y3.fTo = y5.fTo), decide (y3.Days = y5.Days)])) = false := h4
          replace hR := condF hR h4
          try simp only [Bool.or_eq_true, Bool.and_eq_true, Bool.or_eq_false_iff, Bool.and_eq_false_iff, Bool.not_eq_true', Bool.not_eq_false', decide_eq_true_eq, decide_eq_false_iff_not] at h4
          refine aw_skip ?_
          refine aw_region [.p, .p, .p] ?_
          refine st rfl rfl (eff_moveg rfl rfl) rfl ?_
          refine st rfl rfl (eff_add rfl rfl rfl (by unfold I64; omega)) rfl ?_
          refine st rfl rfl (eff_assigng rfl rfl) rfl ?_
          refine st_nil ?_
          exact ⟨rfl, (k2 + 1, t4), ⟨rfl, rfl, rfl, trivial⟩, trivial, rfl, ⟨hd, hR⟩, by simp⟩
      · replace h2 : (decide (((k2 : Nat) : Int) < (List.length a0 : Int))) = false := h2
        obtain rfl := drop_nil hd (decF h2)
        rw [s43_l1] at hR
        refine aw_exit ?_
        refine aw_seq ?_
        refine aw_region [.p] ?_
        refine st rfl rfl (eff_assigng rfl rfl) rfl ?_
        refine st_nil ?_
        refine aw_ret ?_
        obtain rfl := Option.some.inj hR
        exact res_c rfl (rv_g rfl)
end Go.Sim

set_option linter.unusedSimpArgs false
set_option linter.unusedVariables false
set_option maxRecDepth 10000
namespace Go.Sim
open Go.Proofs


/-- calendar.Join -/
def s160_j1 (rec3 : (List S45) → Int → Option ((List S45) × Int)) (x6 : List (Int × Int)) (x10 : List S45) (y13 : Int) (y14 : Int) (x16 : Int) (x17 : Int) : Option ((List S45) × Int) :=
  rec3 (x10 ++ [(S45.mk y14 x17 (mgetD x6 (s196 y13) 0))]) x16
def s160_j2 (rec4 : Int → Int → Int → Option ((List S45) × Int)) (a0 : List Int) (x18 : Int) (x22 : Int) : Option ((List S45) × Int) :=
  bindO (ixO a0 x18) fun y23 => rec4 (IntKind.i64.wrap (x18 + 1)) x22 y23
def s160_l4 (rec3 : (List S45) → Int → Option ((List S45) × Int)) (a0 : List Int) (x6 : List (Int × Int)) (x10 : List S45) (y13 : Int) (y14 : Int) : Nat → Int → Int → Int → Option ((List S45) × Int)
  | 0, _, _, _ => none
  | k21 + 1, x18, x19, x20 => (bif decide (x18 < (List.length a0 : Int)) then bindO (ixO a0 x18) fun y24 => (bif decide ((s196 y24) = x19) then s160_j2 (fun z0_ z1_ z2_ => s160_l4 rec3 a0 x6 x10 y13 y14 k21 z0_ z1_ z2_) a0 x18 x19 else (bif ((decide ((s196 y24) = IntKind.i64.wrap (x19 + 1))) && (decide ((mgetD x6 (s196 y24) 0) = (mgetD x6 (s196 y13) 0)))) && (decide (IntKind.i64.wrap ((s196 y24) - (s196 y13)) < 57)) then s160_j2 (fun z0_ z1_ z2_ => s160_l4 rec3 a0 x6 x10 y13 y14 k21 z0_ z1_ z2_) a0 x18 (s196 y24) else s160_j1 rec3 x6 x10 y13 y14 x18 x20)) else s160_j1 rec3 x6 x10 y13 y14 x18 x20)
def s160_l3 (a0 : List Int) (x6 : List (Int × Int)) : Nat → (List S45) → Int → Option ((List S45) × Int)
  | 0, _, _ => none
  | k12 + 1, x10, x11 => (bif decide (x11 < (List.length a0 : Int)) then bindO (ixO a0 x11) fun y13 => bindO (ixO a0 x11) fun y14 => bindO (ixO a0 x11) fun y15 => s160_l4 (fun z0_ z1_ => s160_l3 a0 x6 k12 z0_ z1_) a0 x6 x10 y13 y14 ((((List.length a0 : Int) - x11).toNat) + 1) x11 (s196 y13) y15 else some ((s197 x10), 0))
def s160_l2 (a0 : List Int) : List Int → Nat → (List (Int × Int)) → Option ((List S45) × Int)
  | [], k7, x6 => s160_l3 a0 x6 ((((List.length a0 : Int) - 0).toNat) + 1) [] 0
  | y8 :: t9, k7, x6 => s160_l2 a0 t9 (k7 + 1) (mset x6 (s196 y8) (orI (mgetD x6 (s196 y8) 0) (shlI 1 (s188 y8))))
def s160_l1 (a0 : List Int) : List Int → Nat → Option ((List S45) × Int)
  | [], k2 => s160_l2 a0 a0 0 []
  | y3 :: t4, k2 => bindO (bif decide (0 < ((k2 : Nat) : Int)) then ixO a0 (max 0 (IntKind.i64.wrap (((k2 : Nat) : Int) - 1))) else some default) fun y25 => (bif decide ((s152 [(s153 y3), (s154 ((decide (0 < ((k2 : Nat) : Int))) && (decide (y3 ≤ y25))) 11)]) ≠ 0) then some ([], (s152 [(s153 y3), (s154 ((decide (0 < ((k2 : Nat) : Int))) && (decide (y3 ≤ y25))) 11)])) else s160_l1 a0 t4 (k2 + 1))
def s160 (a0 : List Int) : Option ((List S45) × Int) :=
  (bif decide (512 < (List.length a0 : Int)) then some ([], 5) else s160_l1 a0 a0 0)
theorem c160 {g : List (Nat × List Value)} (a0 : List Int) {R : (List S45) × Int}  (hb0 : a0.length ≤ 401) (hR : s160 a0 = some R) : Con (EG g) 160 [G.sl 1 (List.map cInt a0)] (G.tup [G.sl 3 (List.map S45.c R.1), G.int R.2]) := by
  unfold s160 at hR
  refine con_of_aw Tryz.func160 rfl rfl fun w0 M0 => ?_
  refine len_sl (f := cInt) (l := a0) 0 rfl fun hla0 => ?_
  refine aw_seq ?_
  refine aw_region [.p, .p] ?_
  refine st rfl rfl (eff_assigng rfl rfl) rfl ?_
  refine st rfl rfl (eff_assigng rfl rfl) rfl ?_
  refine st_nil ?_
  refine aw_seq ?_
  refine aw_seq ?_
  refine aw_region [.p, .p, .p] ?_
  refine st rfl rfl (eff_moveg rfl rfl) rfl ?_
  refine st rfl rfl (eff_lenM (f := cInt) (l := a0) rfl Tryz.underlying82 rfl) rfl ?_
  refine st rfl rfl (eff_gtr rfl rfl rfl) rfl ?_
  refine st_nil ?_
  refine aw_cond _ rfl (fun h1 => ?_) (fun h1 => ?_)
  · replace h1 : (decide (512 < (List.length a0 : Int))) = true := h1
    replace hR := condT hR h1
    try simp only [Bool.or_eq_true, Bool.and_eq_true, Bool.or_eq_false_iff, Bool.and_eq_false_iff, Bool.not_eq_true', Bool.not_eq_false', decide_eq_true_eq, decide_eq_false_iff_not] at h1
    refine aw_seq ?_
    refine aw_region [.p, .p] ?_
    refine st rfl rfl (eff_assigng rfl rfl) rfl ?_
    refine st rfl rfl (eff_assigng rfl rfl) rfl ?_
    refine st_nil ?_
    refine aw_ret ?_
    obtain rfl := Option.some.inj hR
    exact resN rfl ⟨rv_nilG rfl (nil_sl _), rv_g rfl, trivial⟩ (by simp)
  · replace h1 : (decide (512 < (List.length a0 : Int))) = false := h1
    replace hR := condF hR h1
    try simp only [Bool.or_eq_true, Bool.and_eq_true, Bool.or_eq_false_iff, Bool.and_eq_false_iff, Bool.not_eq_true', Bool.not_eq_false', decide_eq_true_eq, decide_eq_false_iff_not] at h1
    refine aw_skip ?_
    refine aw_seq ?_
    refine aw_seq ?_
    refine aw_region [.p, .p, .p] ?_
    refine st rfl rfl (eff_moveg rfl rfl) rfl ?_
    refine st rfl rfl (eff_lenM (f := cInt) (l := a0) rfl Tryz.underlying82 rfl) rfl ?_
    refine st rfl rfl (eff_moveg rfl rfl) rfl ?_
    refine st_nil ?_
    refine aw_block ?_
    refine aw_loop_g (γ := Nat × (List Int)) (fun g => ([(0, .g (G.sl 1 (List.map cInt a0))), (19, .g (G.sl 1 (List.map cInt a0))), (20, .g (G.int (List.length a0 : Int))), (21, .g (G.int ((g.1 : Nat) : Int)))], [])) (fun g => (∀ x ∈ List.take g.1 a0, 0 ≤ x ∧ x ≤ 99999) ∧ a0.drop g.1 = g.2 ∧ s160_l1 a0 g.2 g.1 = some R) (fun g => List.length g.2) ⟨rfl, (0, a0), ⟨rfl, rfl, rfl, rfl, trivial⟩, trivial, rfl, ⟨(fun x hx => absurd hx (by simp)), rfl, hR⟩, trivial⟩ ?_
    · rintro ⟨k2, t4⟩ ⟨iv1_0, hd, hR⟩
      replace hd : a0.drop k2 = t4 := hd
      replace hR : s160_l1 a0 t4 k2 = some R := hR
      replace iv1_0 : (∀ x ∈ List.take k2 a0, 0 ≤ x ∧ x ≤ 99999) := iv1_0
      refine aw_seq ?_
      refine aw_region [.p] ?_
      refine st rfl rfl (eff_lss rfl rfl rfl) rfl ?_
      refine st_nil ?_
      refine len_sl (f := cInt) (l := a0) 0 rfl fun hlz1 => ?_
      refine aw_seq ?_
      refine aw_cond _ rfl (fun h2 => ?_) (fun h2 => ?_)
      · replace h2 : (decide (((k2 : Nat) : Int) < (List.length a0 : Int))) = true := h2
        obtain ⟨y3, t4, rfl, hx1, hd⟩ := drop_cons hd (decT h2)
        replace h2 := decT h2
        rw [s160_l1] at hR
        try dsimp only at hR
        refine aw_skip ?_
        refine aw_seq ?_
        refine aw_block ?_
        refine aw_seq ?_
        refine aw_region [.p, .p, .p, .p, .p] ?_
        refine st rfl rfl (eff_moveg rfl rfl) rfl ?_
        refine st rfl rfl (eff_ix (f := cInt) (l := a0) (a := y3) rfl Tryz.underlying82 ty3 rfl rfl (Int.natCast_nonneg _) hx1) rfl ?_
        refine st rfl rfl (eff_load rfl ty3 rfl) rfl ?_
        refine st rfl rfl (eff_assigng rfl rfl) rfl ?_
        refine st rfl rfl (eff_assigng rfl rfl) rfl ?_
        refine st_nil ?_
        refine aw_seq ?_
        obtain ⟨y25, by25, hR⟩ := bindO_inv hR
        refine aw_region [.p, .p, .p, .p, .p, .p, .p, .p, .p, .p, .p, .p, .p, .p, .p, .p, .p, .p] ?_
        refine st rfl rfl (eff_moveg rfl rfl) rfl ?_
        refine st rfl rfl (eff_call rfl K153 rfl (c153 y3) (ag_cons rfl ag_nil)) rfl ?_
        refine st rfl rfl (eff_moveg rfl rfl) rfl ?_
        refine st rfl rfl (eff_gtr rfl rfl rfl) rfl ?_
        refine st rfl rfl (eff_moveg rfl rfl) rfl ?_
        refine st_g rfl rfl rfl (gb_bool _ _) (fun h => eff_moveg rfl rfl) rfl ?_
        refine st_g rfl rfl rfl (gb_bool _ _) (fun h => eff_moveg rfl rfl) rfl ?_
        refine st_g rfl rfl rfl (gb_bool _ _) (fun h => eff_moveg rfl rfl) rfl ?_
        refine st_g rfl rfl rfl (gb_bool _ _) (fun h => eff_subw rfl (gd h rfl) rfl) rfl ?_
        refine st_g rfl rfl rfl (gb_bool _ _) (fun h => eff_max rfl rfl (gd h rfl)) rfl ?_
        refine st_g rfl rfl rfl (gb_bool _ _) (fun h => eff_ix (f := cInt) (l := a0) (a := y25) rfl Tryz.underlying82 ty3 (gd h rfl) (gd h rfl) (ixO_nn (condT1 by25 h)) (ixO_get (condT1 by25 h))) rfl ?_
        refine st_g rfl rfl rfl (gb_bool _ _) (fun h => eff_load rfl ty3 (gd h rfl)) rfl ?_
        refine st_g rfl rfl rfl (gb_bool _ _) (fun h => eff_leq rfl (gd h rfl) (gd h rfl)) rfl ?_
        refine st rfl rfl (eff_and rfl rfl rfl rfl) rfl ?_
        refine st rfl rfl (eff_call rfl K154 rfl (c154 ((decide (0 < ((k2 : Nat) : Int))) && (decide (y3 ≤ y25))) 11) (ag_cons rfl (ag_cons rfl ag_nil))) rfl ?_
        refine st rfl rfl (eff_buildSlice rfl Tryz.underlying170 ty37 z37 rfl (ps_cons rfl (ps_cons rfl ps_nil)) rfl (by simp []) (by decide)) rfl ?_
        refine st rfl rfl (eff_call rfl K152 rfl (c152 [(s153 y3), (s154 ((decide (0 < ((k2 : Nat) : Int))) && (decide (y3 ≤ y25))) 11)]) (ag_cons rfl ag_nil)) rfl ?_
        refine st rfl rfl (eff_assigng rfl rfl) rfl ?_
        refine st_nil ?_
        refine aw_seq ?_
        refine aw_region [.p, .p] ?_
        refine st rfl rfl (eff_moveg rfl rfl) rfl ?_
        refine st rfl rfl (eff_neq rfl rfl rfl) rfl ?_
        refine st_nil ?_
        refine aw_cond _ rfl (fun h10 => ?_) (fun h10 => ?_)
        · replace h10 : (decide ((s152 [(s153 y3), (s154 ((decide (0 < ((k2 : Nat) : Int))) && (decide (y3 ≤ y25))) 11)]) ≠ 0)) = true := h10
          replace hR := condT hR h10
          try simp only [Bool.or_eq_true, Bool.and_eq_true, Bool.or_eq_false_iff, Bool.and_eq_false_iff, Bool.not_eq_true', Bool.not_eq_false', decide_eq_true_eq, decide_eq_false_iff_not] at h10
          refine aw_seq ?_
          refine aw_region [.p, .p, .p] ?_
          refine st rfl rfl (eff_moveg rfl rfl) rfl ?_
          refine st rfl rfl (eff_assigng rfl rfl) rfl ?_
          refine st rfl rfl (eff_assigng rfl rfl) rfl ?_
          refine st_nil ?_
          refine aw_ret ?_
          obtain rfl := Option.some.inj hR
          exact resN rfl ⟨rv_nilG rfl (nil_sl _), rv_g rfl, trivial⟩ (by simp)
        · replace h10 : (decide ((s152 [(s153 y3), (s154 ((decide (0 < ((k2 : Nat) : Int))) && (decide (y3 ≤ y25))) 11)]) ≠ 0)) = false := h10
          replace hR := condF hR h10
          try simp only [Bool.or_eq_true, Bool.and_eq_true, Bool.or_eq_false_iff, Bool.and_eq_false_iff, Bool.not_eq_true', Bool.not_eq_false', decide_eq_true_eq, decide_eq_false_iff_not] at h10
          refine aw_skip ?_
          refine aw_region [.p, .p] ?_
          refine st rfl rfl (eff_add rfl rfl rfl (by unfold I64; omega)) rfl ?_
          refine st rfl rfl (eff_moveg rfl rfl) rfl ?_
          refine st_nil ?_
          exact ⟨rfl, (k2 + 1, t4), ⟨rfl, rfl, rfl, rfl, trivial⟩, trivial, rfl, ⟨(day_step iv1_0 hx1 (day_ok h10)), hd, hR⟩, by simp⟩
      · replace h2 : (decide (((k2 : Nat) : Int) < (List.length a0 : Int))) = false := h2
        obtain rfl := drop_nil hd (decF h2)
        rw [s160_l1] at hR
        refine aw_exit ?_
        refine aw_seq ?_
        refine aw_region [.w, .p] ?_
        refine st_w rfl rfl (eff_makeMap 47 rfl rfl) rfl ?_
        refine st rfl rfl (eff_assignM rfl rfl) rfl ?_
        refine st_nil ?_
        refine aw_seq ?_
        refine aw_seq ?_
        refine aw_region [.p, .p, .p] ?_
        refine st rfl rfl (eff_moveg rfl rfl) rfl ?_
        refine st rfl rfl (eff_lenM (f := cInt) (l := a0) rfl Tryz.underlying82 rfl) rfl ?_
        refine st rfl rfl (eff_moveg rfl rfl) rfl ?_
        refine st_nil ?_
        refine aw_block ?_
        refine aw_loop_g (γ := Nat × (List Int) × (List (Int × Int))) (fun g => ([(0, .g (G.sl 1 (List.map cInt a0))), (7, .omap 47), (48, .g (G.sl 1 (List.map cInt a0))), (49, .g (G.int (List.length a0 : Int))), (50, .g (G.int ((g.1 : Nat) : Int)))], [(47, mpB (K := Int) (V := Int) (Value.int .i64) (fun v => G.int v) g.2.2)])) (fun g => a0.drop g.1 = g.2.1 ∧ s160_l2 a0 g.2.1 g.1 g.2.2 = some R) (fun g => List.length g.2.1) ⟨rfl, (0, a0, []), ⟨rfl, rfl, rfl, rfl, rfl, trivial⟩, ⟨rfl, trivial⟩, rfl, ⟨rfl, hR⟩, trivial⟩ ?_
        · rintro ⟨k7, t9, x6⟩ ⟨hd, hR⟩
          replace hd : a0.drop k7 = t9 := hd
          replace hR : s160_l2 a0 t9 k7 x6 = some R := hR
          refine aw_seq ?_
          refine aw_region [.p] ?_
          refine st rfl rfl (eff_lss rfl rfl rfl) rfl ?_
          refine st_nil ?_
          refine len_sl (f := cInt) (l := a0) 0 rfl fun hlz2 => ?_
          refine aw_seq ?_
          refine aw_cond _ rfl (fun h4 => ?_) (fun h4 => ?_)
          · replace h4 : (decide (((k7 : Nat) : Int) < (List.length a0 : Int))) = true := h4
            obtain ⟨y8, t9, rfl, hx2, hd⟩ := drop_cons hd (decT h4)
            replace h4 := decT h4
            rw [s160_l2] at hR
            try dsimp only at hR
            refine aw_skip ?_
            refine aw_seq ?_
            refine aw_block ?_
            refine aw_seq ?_
            refine aw_region [.p, .p, .p] ?_
            refine st rfl rfl (eff_ix (f := cInt) (l := a0) (a := y8) rfl Tryz.underlying82 ty3 rfl rfl (Int.natCast_nonneg _) hx2) rfl ?_
            refine st rfl rfl (eff_load rfl ty3 rfl) rfl ?_
            refine st rfl rfl (eff_assigng rfl rfl) rfl ?_
            refine st_nil ?_
            have hv8 := s188_rng (day_of iv1_0 (by have := decF h2; omega) hx2)
            refine aw_draw [.p, .p, .p, .r, .p, .p, .p, .p, .w] (by kernel_rfl) ?_
            refine st rfl rfl (eff_moveM rfl rfl) rfl ?_
            refine st rfl rfl (eff_moveg rfl rfl) rfl ?_
            refine st rfl rfl (eff_call rfl K196 rfl (c196 y8) (ag_cons rfl ag_nil)) rfl ?_
            refine st_r rfl rfl (eff_lookup (kf := Value.int .i64) (vf := (fun v => G.int v)) (m := x6) (k := (s196 y8)) (z := 0) rfl Tryz.underlying224 Tryz.underlying3 zr3 (fun _ _ => rfl) rfl rfl rfl) rfl ?_
            refine st rfl rfl (eff_moveg rfl rfl) rfl ?_
            refine st rfl rfl (eff_call rfl K188 rfl (c188 y8) (ag_cons rfl ag_nil)) rfl ?_
            refine st rfl rfl (eff_shl rfl rfl rfl (by omega)) rfl ?_
            refine st rfl rfl (eff_or2 rfl rfl rfl) rfl ?_
            refine st_wn rfl rfl (eff_update (kf := Value.int .i64) (vf := (fun v => G.int v)) (m := x6) (k := (s196 y8)) (v := orI (mgetD x6 (s196 y8) 0) (shlI 1 (s188 y8))) (ins := false) rfl Tryz.underlying224 Tryz.underlying3 rfl rfl rfl rfl) ?_
            refine st_nil ?_
            refine aw_region [.p, .p] ?_
            refine st rfl rfl (eff_add rfl rfl rfl (by unfold I64; omega)) rfl ?_
            refine st rfl rfl (eff_moveg rfl rfl) rfl ?_
            refine st_nil ?_
            exact ⟨rfl, (k7 + 1, t9, mset x6 (s196 y8) (orI (mgetD x6 (s196 y8) 0) (shlI 1 (s188 y8)))), ⟨rfl, rfl, rfl, rfl, rfl, trivial⟩, ⟨rfl, trivial⟩, rfl, ⟨hd, hR⟩, by simp⟩
          · replace h4 : (decide (((k7 : Nat) : Int) < (List.length a0 : Int))) = false := h4
            obtain rfl := drop_nil hd (decF h4)
            rw [s160_l2] at hR
            refine aw_exit ?_
            refine aw_seq ?_
            refine aw_region [.w] ?_
            refine st_w rfl rfl (eff_nilL 10 46 3 rfl rfl rfl) rfl ?_
            refine st_nil ?_
            refine aw_seq ?_
            refine aw_seq ?_
            refine aw_region [.p] ?_
            refine st rfl rfl (eff_assigng rfl rfl) rfl ?_
            refine st_nil ?_
            refine aw_block ?_
            refine aw_loop_g (γ := Nat × (List S45) × Int) (fun g => ([(0, .g (G.sl 1 (List.map cInt a0))), (7, .omap 47), (10, .osl 10 3 0 (List.length g.2.1)), (11, .g (G.int g.2.2))], [(10, .arr 46 3 (List.map S45.c g.2.1)), (47, mpB (K := Int) (V := Int) (Value.int .i64) (fun v => G.int v) x6)])) (fun g => ((List.length a0 : Int) - g.2.2).toNat < g.1 ∧ 0 ≤ g.2.2 ∧ g.2.2 ≤ (List.length a0 : Int) ∧ (g.2.1.length : Int) ≤ g.2.2 ∧ s160_l3 a0 x6 g.1 g.2.1 g.2.2 = some R) (fun g => g.1) ⟨rfl, ((((List.length a0 : Int) - 0).toNat) + 1, [], 0), ⟨rfl, rfl, rfl, rfl, trivial⟩, ⟨rfl, rfl, trivial⟩, rfl, ⟨Nat.lt_succ_self _, (by first | omega | (dsimp only; omega) | simp), (by first | omega | (dsimp only; omega) | simp), (by first | omega | (dsimp only; omega) | simp), hR⟩, trivial⟩ ?_
            · rintro ⟨k12, x10, x11⟩ ⟨hk3, iv3_0, iv3_1, iv3_2, hR⟩
              replace hk3 : ((List.length a0 : Int) - x11).toNat < k12 := hk3
              replace hR : s160_l3 a0 x6 k12 x10 x11 = some R := hR
              replace iv3_0 : 0 ≤ x11 := iv3_0
              replace iv3_1 : x11 ≤ (List.length a0 : Int) := iv3_1
              replace iv3_2 : (x10.length : Int) ≤ x11 := iv3_2
              obtain ⟨k12, rfl⟩ : ∃ m, k12 = m + 1 := ⟨k12 - 1, by omega⟩
              rw [s160_l3] at hR
              try dsimp only at hR
              refine aw_seq ?_
              refine aw_seq ?_
              refine aw_region [.p, .p, .p, .p] ?_
              refine st rfl rfl (eff_moveg rfl rfl) rfl ?_
              refine st rfl rfl (eff_moveg rfl rfl) rfl ?_
              refine st rfl rfl (eff_lenM (f := cInt) (l := a0) rfl Tryz.underlying82 rfl) rfl ?_
              refine st rfl rfl (eff_lss rfl rfl rfl) rfl ?_
              refine st_nil ?_
              refine aw_cond _ rfl (fun h6 => ?_) (fun h6 => ?_)
              · replace h6 : (decide (x11 < (List.length a0 : Int))) = true := h6
                replace hR := condT hR h6
                try simp only [Bool.or_eq_true, Bool.and_eq_true, Bool.or_eq_false_iff, Bool.and_eq_false_iff, Bool.not_eq_true', Bool.not_eq_false', decide_eq_true_eq, decide_eq_false_iff_not] at h6
                refine aw_skip ?_
                refine aw_block ?_
                refine aw_scope ?_
                refine aw_seq ?_
                obtain ⟨y13, by13, hR⟩ := bindO_inv hR
                refine aw_region [.p, .p, .p, .p, .p, .p] ?_
                refine st rfl rfl (eff_moveg rfl rfl) rfl ?_
                refine st rfl rfl (eff_moveg rfl rfl) rfl ?_
                refine st rfl rfl (eff_ix (f := cInt) (l := a0) (a := y13) rfl Tryz.underlying82 ty3 rfl rfl (ixO_nn by13) (ixO_get by13)) rfl ?_
                refine st rfl rfl (eff_load rfl ty3 rfl) rfl ?_
                refine st rfl rfl (eff_call rfl K196 rfl (c196 y13) (ag_cons rfl ag_nil)) rfl ?_
                refine st rfl rfl (eff_assigng rfl rfl) rfl ?_
                refine st_nil ?_
                refine aw_seq ?_
                obtain ⟨y14, by14, hR⟩ := bindO_inv hR
                obtain ⟨y15, by15, hR⟩ := bindO_inv hR
                refine aw_draw [.p, .p, .p, .p, .p, .p, .p, .p, .p, .p, .rq 47, .p, .al 13, .w] (by kernel_rfl) ?_
                refine st rfl rfl (eff_moveg rfl rfl) rfl ?_
                refine st rfl rfl (eff_moveg rfl rfl) rfl ?_
                refine st rfl rfl (eff_ix (f := cInt) (l := a0) (a := y14) rfl Tryz.underlying82 ty3 rfl rfl (ixO_nn by14) (ixO_get by14)) rfl ?_
                refine st rfl rfl (eff_load rfl ty3 rfl) rfl ?_
                refine st rfl rfl (eff_moveg rfl rfl) rfl ?_
                refine st rfl rfl (eff_moveg rfl rfl) rfl ?_
                refine st rfl rfl (eff_ix (f := cInt) (l := a0) (a := y15) rfl Tryz.underlying82 ty3 rfl rfl (ixO_nn by15) (ixO_get by15)) rfl ?_
                refine st rfl rfl (eff_load rfl ty3 rfl) rfl ?_
                refine st rfl rfl (eff_moveM rfl rfl) rfl ?_
                refine st rfl rfl (eff_moveg rfl rfl) rfl ?_
                refine st_rq (i := 47) rfl rfl rfl (fun m_ hm_ => eff_lookup (kf := Value.int .i64) (vf := (fun v => G.int v)) (m := x6) (k := (s196 y13)) (z := 0) rfl Tryz.underlying224 Tryz.underlying3 zr3 (fun _ _ => rfl) rfl rfl hm_) rfl ?_
                refine st rfl rfl (eff_build rfl z46 rfl pl46 (pb_cons rfl (pb_cons rfl (pb_cons rfl pb_nil))) rfl) rfl ?_
                refine st_al (i := 13) rfl rfl rfl (fun m_ hm_ => eff_alloc 13 rfl z46 rfl hm_) rfl ?_
                refine st_wn rfl rfl (eff_store (tv := .g (G.agg [G.int y14, G.int y15, G.int (mgetD x6 (s196 y13) 0)])) rfl ty46 rfl rfl rfl rfl rfl) ?_
                refine st_nil ?_
                refine aw_seq ?_
                refine aw_region [.p, .p] ?_
                refine st rfl rfl (eff_moveg rfl rfl) rfl ?_
                refine st rfl rfl (eff_assigng rfl rfl) rfl ?_
                refine st_nil ?_
                refine aw_seq ?_
                refine aw_label ?_
                refine aw_cut_g (γ := Int × Int) (fun g => ([(0, .g (G.sl 1 (List.map cInt a0))), (7, .omap 47), (10, .osl 10 3 0 (List.length x10)), (11, .g (G.int g.1)), (13, .ptr 13 0)], [(10, .arr 46 3 (List.map S45.c x10)), (13, .box [.g (G.int y14), .g (G.int g.2), .g (G.int (mgetD x6 (s196 y13) 0))]), (47, mpB (K := Int) (V := Int) (Value.int .i64) (fun v => G.int v) x6)])) (fun g => x11 < g.1 ∧ g.1 ≤ (List.length a0 : Int) ∧ s160_j1 (fun z0_ z1_ => s160_l3 a0 x6 k12 z0_ z1_) x6 x10 y13 y14 g.1 g.2 = some R) ?_ ?_
                · refine aw_block ?_
                  refine aw_loop_g (γ := Nat × Int × Int × Int) (fun g => ([(0, .g (G.sl 1 (List.map cInt a0))), (7, .omap 47), (10, .osl 10 3 0 (List.length x10)), (11, .g (G.int g.2.1)), (12, .g (G.int (s196 y13))), (13, .ptr 13 0), (14, .g (G.int g.2.2.1))], [(10, .arr 46 3 (List.map S45.c x10)), (13, .box [.g (G.int y14), .g (G.int g.2.2.2), .g (G.int (mgetD x6 (s196 y13) 0))]), (47, mpB (K := Int) (V := Int) (Value.int .i64) (fun v => G.int v) x6)])) (fun g => ((List.length a0 : Int) - g.2.1).toNat < g.1 ∧ 0 ≤ g.2.1 ∧ g.2.1 ≤ (List.length a0 : Int) ∧ x11 ≤ g.2.1 ∧ (g.2.1 = x11 → g.2.2.1 = s196 y13) ∧ s160_l4 (fun z0_ z1_ => s160_l3 a0 x6 k12 z0_ z1_) a0 x6 x10 y13 y14 g.1 g.2.1 g.2.2.1 g.2.2.2 = some R) (fun g => g.1) ⟨rfl, ((((List.length a0 : Int) - x11).toNat) + 1, x11, (s196 y13), y15), ⟨rfl, rfl, rfl, rfl, rfl, rfl, rfl, trivial⟩, ⟨rfl, rfl, rfl, trivial⟩, rfl, ⟨Nat.lt_succ_self _, (by first | omega | (dsimp only; omega) | simp), (by first | omega | (dsimp only; omega) | simp), (by first | omega | (dsimp only; omega) | simp), (by first | omega | (dsimp only; omega) | simp), hR⟩, trivial⟩ ?_
                  · rintro ⟨k21, x18, x19, x20⟩ ⟨hk4, iv4_0, iv4_1, iv4_2, iv4_3, hR⟩
                    replace hk4 : ((List.length a0 : Int) - x18).toNat < k21 := hk4
                    replace hR : s160_l4 (fun z0_ z1_ => s160_l3 a0 x6 k12 z0_ z1_) a0 x6 x10 y13 y14 k21 x18 x19 x20 = some R := hR
                    replace iv4_0 : 0 ≤ x18 := iv4_0
                    replace iv4_1 : x18 ≤ (List.length a0 : Int) := iv4_1
                    replace iv4_2 : x11 ≤ x18 := iv4_2
                    replace iv4_3 : (x18 = x11 → x19 = s196 y13) := iv4_3
                    obtain ⟨k21, rfl⟩ : ∃ m, k21 = m + 1 := ⟨k21 - 1, by omega⟩
                    rw [s160_l4] at hR
                    try dsimp only at hR
                    refine aw_seq ?_
                    refine aw_seq ?_
                    refine aw_region [.p, .p, .p, .p] ?_
                    refine st rfl rfl (eff_moveg rfl rfl) rfl ?_
                    refine st rfl rfl (eff_moveg rfl rfl) rfl ?_
                    refine st rfl rfl (eff_lenM (f := cInt) (l := a0) rfl Tryz.underlying82 rfl) rfl ?_
                    refine st rfl rfl (eff_lss rfl rfl rfl) rfl ?_
                    refine st_nil ?_
                    refine aw_cond _ rfl (fun h7 => ?_) (fun h7 => ?_)
                    · replace h7 : (decide (x18 < (List.length a0 : Int))) = true := h7
                      replace hR := condT hR h7
                      try simp only [Bool.or_eq_true, Bool.and_eq_true, Bool.or_eq_false_iff, Bool.and_eq_false_iff, Bool.not_eq_true', Bool.not_eq_false', decide_eq_true_eq, decide_eq_false_iff_not] at h7
                      refine aw_skip ?_
                      refine aw_seq ?_
                      refine aw_block ?_
                      refine aw_cut_g (γ := Int) (fun g => ([(0, .g (G.sl 1 (List.map cInt a0))), (7, .omap 47), (10, .osl 10 3 0 (List.length x10)), (11, .g (G.int x18)), (12, .g (G.int (s196 y13))), (13, .ptr 13 0), (14, .g (G.int g))], [(10, .arr 46 3 (List.map S45.c x10)), (13, .box [.g (G.int y14), .g (G.int x20), .g (G.int (mgetD x6 (s196 y13) 0))]), (47, mpB (K := Int) (V := Int) (Value.int .i64) (fun v => G.int v) x6)])) (fun g => s160_j2 (fun z0_ z1_ z2_ => s160_l4 (fun z0_ z1_ => s160_l3 a0 x6 k12 z0_ z1_) a0 x6 x10 y13 y14 k21 z0_ z1_ z2_) a0 x18 g = some R) ?_ ?_
                      · refine aw_seq ?_
                        obtain ⟨y24, by24, hR⟩ := bindO_inv hR
                        have hy24 : x18 = x11 → s196 y24 = s196 y13 := fun e => by rw [e] at by24; rw [Option.some.inj (by24.symm.trans by13)]
                        refine aw_region [.p, .p, .p, .p, .p, .p] ?_
                        refine st rfl rfl (eff_moveg rfl rfl) rfl ?_
                        refine st rfl rfl (eff_moveg rfl rfl) rfl ?_
                        refine st rfl rfl (eff_ix (f := cInt) (l := a0) (a := y24) rfl Tryz.underlying82 ty3 rfl rfl (ixO_nn by24) (ixO_get by24)) rfl ?_
                        refine st rfl rfl (eff_load rfl ty3 rfl) rfl ?_
                        refine st rfl rfl (eff_call rfl K196 rfl (c196 y24) (ag_cons rfl ag_nil)) rfl ?_
                        refine st rfl rfl (eff_assigng rfl rfl) rfl ?_
                        refine st_nil ?_
                        refine aw_block ?_
                        refine aw_seq ?_
                        refine aw_region [.p, .p, .p, .p] ?_
                        refine st rfl rfl (eff_moveg rfl rfl) rfl ?_
                        refine st rfl rfl (eff_moveg rfl rfl) rfl ?_
                        refine st rfl rfl (eff_eql rfl rfl rfl) rfl ?_
                        refine st rfl rfl (eff_assigng rfl rfl) rfl ?_
                        refine st_nil ?_
                        refine aw_cond _ rfl (fun h8 => ?_) (fun h8 => ?_)
                        · replace h8 : (decide ((s196 y24) = x19)) = true := h8
                          replace hR := condT hR h8
                          try simp only [Bool.or_eq_true, Bool.and_eq_true, Bool.or_eq_false_iff, Bool.and_eq_false_iff, Bool.not_eq_true', Bool.not_eq_false', decide_eq_true_eq, decide_eq_false_iff_not] at h8
                          refine aw_skip ?_
                          exact ⟨rfl, x19, ⟨rfl, rfl, rfl, rfl, rfl, rfl, rfl, trivial⟩, ⟨rfl, rfl, rfl, trivial⟩, rfl, hR, trivial⟩
                        · replace h8 : (decide ((s196 y24) = x19)) = false := h8
                          replace hR := condF hR h8
                          try simp only [Bool.or_eq_true, Bool.and_eq_true, Bool.or_eq_false_iff, Bool.and_eq_false_iff, Bool.not_eq_true', Bool.not_eq_false', decide_eq_true_eq, decide_eq_false_iff_not] at h8
                          refine aw_seq ?_
                          refine aw_region [.p, .p, .p, .p, .p, .p, .p, .r, .p, .r, .p, .p, .p, .p, .p, .p, .p, .p, .p] ?_
                          refine st rfl rfl (eff_moveg rfl rfl) rfl ?_
                          refine st rfl rfl (eff_moveg rfl rfl) rfl ?_
                          refine st rfl rfl (eff_addw rfl rfl rfl) rfl ?_
                          refine st rfl rfl (eff_eql rfl rfl rfl) rfl ?_
                          refine st rfl rfl (eff_moveg rfl rfl) rfl ?_
                          refine st_g rfl rfl rfl (gb_bool _ _) (fun h => eff_moveM rfl rfl) rfl ?_
                          refine st_g rfl rfl rfl (gb_bool _ _) (fun h => eff_moveg rfl rfl) rfl ?_
                          refine st_gr rfl rfl rfl (gb_bool _ _) (fun h => eff_lookup (kf := Value.int .i64) (vf := (fun v => G.int v)) (m := x6) (k := (s196 y24)) (z := 0) rfl Tryz.underlying224 Tryz.underlying3 zr3 (fun _ _ => rfl) (gd h rfl) (gd h rfl) rfl) rfl ?_
                          refine st_g rfl rfl rfl (gb_bool _ _) (fun h => eff_fieldO rfl fl46_2 rfl) rfl ?_
                          refine st_gr rfl rfl rfl (gb_bool _ _) (fun h => eff_loadO rfl ty3 (gd h rfl) rfl rfl) rfl ?_
                          refine st_g rfl rfl rfl (gb_bool _ _) (fun h => eff_eql rfl (gd h rfl) (gd h rfl)) rfl ?_
                          refine st rfl rfl (eff_and rfl rfl rfl rfl) rfl ?_
                          refine st rfl rfl (eff_moveg rfl rfl) rfl ?_
                          refine st_g rfl rfl rfl (gb_bool _ _) (fun h => eff_moveg rfl rfl) rfl ?_
                          refine st_g rfl rfl rfl (gb_bool _ _) (fun h => eff_moveg rfl rfl) rfl ?_
                          refine st_g rfl rfl rfl (gb_bool _ _) (fun h => eff_subw rfl (gd h rfl) (gd h rfl)) rfl ?_
                          refine st_g rfl rfl rfl (gb_bool _ _) (fun h => eff_lss rfl (gd h rfl) rfl) rfl ?_
                          refine st rfl rfl (eff_and rfl rfl rfl rfl) rfl ?_
                          refine st rfl rfl (eff_assigng rfl rfl) rfl ?_
                          refine st_nil ?_
                          refine aw_cond _ rfl (fun h9 => ?_) (fun h9 => ?_)
                          · replace h9 : (((decide ((s196 y24) = IntKind.i64.wrap (x19 + 1))) && (decide ((mgetD x6 (s196 y24) 0) = (mgetD x6 (s196 y13) 0)))) && (decide (IntKind.i64.wrap ((s196 y24) - (s196 y13)) < 57))) = true := h9
                            replace hR := condT hR h9
                            try simp only [Bool.or_eq_true, Bool.and_eq_true, Bool.or_eq_false_iff, Bool.and_eq_false_iff, Bool.not_eq_true', Bool.not_eq_false', decide_eq_true_eq, decide_eq_false_iff_not] at h9
                            refine aw_region [.p, .p] ?_
                            refine st rfl rfl (eff_moveg rfl rfl) rfl ?_
                            refine st rfl rfl (eff_assigng rfl rfl) rfl ?_
                            refine st_nil ?_
                            exact ⟨rfl, (s196 y24), ⟨rfl, rfl, rfl, rfl, rfl, rfl, rfl, trivial⟩, ⟨rfl, rfl, rfl, trivial⟩, rfl, hR, trivial⟩
                          · replace h9 : (((decide ((s196 y24) = IntKind.i64.wrap (x19 + 1))) && (decide ((mgetD x6 (s196 y24) 0) = (mgetD x6 (s196 y13) 0)))) && (decide (IntKind.i64.wrap ((s196 y24) - (s196 y13)) < 57))) = false := h9
                            replace hR := condF hR h9
                            try simp only [Bool.or_eq_true, Bool.and_eq_true, Bool.or_eq_false_iff, Bool.and_eq_false_iff, Bool.not_eq_true', Bool.not_eq_false', decide_eq_true_eq, decide_eq_false_iff_not] at h9
                            refine aw_exit ?_
                            exact ⟨rfl, (x18, x20), ⟨rfl, rfl, rfl, rfl, rfl, trivial⟩, ⟨rfl, rfl, rfl, trivial⟩, rfl, ⟨(by first | omega | (dsimp only; omega) | (simp at *; omega)), (by first | omega | (dsimp only; omega) | (simp at *; omega)), hR⟩, trivial⟩
                      · rintro x22 hR
                        replace hR : s160_j2 (fun z0_ z1_ z2_ => s160_l4 (fun z0_ z1_ => s160_l3 a0 x6 k12 z0_ z1_) a0 x6 x10 y13 y14 k21 z0_ z1_ z2_) a0 x18 x22 = some R := hR
                        unfold s160_j2 at hR
                        obtain ⟨y23, by23, hR⟩ := bindO_inv hR
                        refine aw_region [.p, .p, .p, .p, .p, .w] ?_
                        refine st rfl rfl (eff_moveg rfl rfl) rfl ?_
                        refine st rfl rfl (eff_moveg rfl rfl) rfl ?_
                        refine st rfl rfl (eff_ix (f := cInt) (l := a0) (a := y23) rfl Tryz.underlying82 ty3 rfl rfl (ixO_nn by23) (ixO_get by23)) rfl ?_
                        refine st rfl rfl (eff_load rfl ty3 rfl) rfl ?_
                        refine st rfl rfl (eff_fieldO rfl fl46_1 rfl) rfl ?_
                        refine st_wn rfl rfl (eff_store (tv := .g (G.int y23)) rfl ty3 rfl rfl rfl rfl rfl) ?_
                        refine st_nil ?_
                        have hw := wrap_i64 (n := x18 + 1) ⟨by omega, by omega⟩
                        refine aw_region [.p, .p, .p] ?_
                        refine st rfl rfl (eff_moveg rfl rfl) rfl ?_
                        refine st rfl rfl (eff_addw rfl rfl rfl) rfl ?_
                        refine st rfl rfl (eff_assigng rfl rfl) rfl ?_
                        refine st_nil ?_
                        exact ⟨rfl, (k21, IntKind.i64.wrap (x18 + 1), x22, y23), ⟨rfl, rfl, rfl, rfl, rfl, rfl, rfl, trivial⟩, ⟨rfl, rfl, rfl, trivial⟩, rfl, ⟨(by first | omega | (dsimp only; omega) | (simp at *; omega)), (by first | omega | (dsimp only; omega) | (simp at *; omega)), (by first | omega | (dsimp only; omega) | (simp at *; omega)), (by first | omega | (dsimp only; omega) | (simp at *; omega)), (by first | omega | (dsimp only; omega) | (simp at *; omega)), hR⟩, by simp⟩
                    · replace h7 : (decide (x18 < (List.length a0 : Int))) = false := h7
                      replace hR := condF hR h7
                      try simp only [Bool.or_eq_true, Bool.and_eq_true, Bool.or_eq_false_iff, Bool.and_eq_false_iff, Bool.not_eq_true', Bool.not_eq_false', decide_eq_true_eq, decide_eq_false_iff_not] at h7
                      refine aw_exit ?_
                      exact ⟨rfl, (x18, x20), ⟨rfl, rfl, rfl, rfl, rfl, trivial⟩, ⟨rfl, rfl, rfl, trivial⟩, rfl, ⟨(by first | omega | (dsimp only; omega) | (simp at *; omega)), (by first | omega | (dsimp only; omega) | (simp at *; omega)), hR⟩, trivial⟩
                · rintro ⟨x16, x17⟩ ⟨jv2_0, jv2_1, hR⟩
                  replace jv2_0 : x11 < x16 := jv2_0
                  replace jv2_1 : x16 ≤ (List.length a0 : Int) := jv2_1
                  replace hR : s160_j1 (fun z0_ z1_ => s160_l3 a0 x6 k12 z0_ z1_) x6 x10 y13 y14 x16 x17 = some R := hR
                  unfold s160_j1 at hR
                  refine aw_region [.p, .r, .p, .k, .p] ?_
                  refine st rfl rfl (eff_moveO rfl rfl) rfl ?_
                  refine st_r rfl rfl (eff_loadOA rfl ty46 rfl rfl rfl rfl) rfl ?_
                  refine st rfl rfl (eff_buildSlice rfl Tryz.underlying69 ty46 z46 rfl (ps_cons rfl ps_nil) rfl (by exact lens rfl) (by decide)) rfl ?_
                  refine st_k rfl rfl (eff_appL (f := S45.c) (out := x10) (new := [(S45.mk y14 x17 (mgetD x6 (s196 y13) 0))]) rfl app69 rfl rfl (src_eq rfl (src_sl (by decide) (by simp [S45.c]))) (refsN rfl) (by simp; omega)) rfl ?_
                  refine st rfl rfl (eff_assignO rfl rfl) rfl ?_
                  refine st_nil ?_
                  exact ⟨rfl, (k12, x10 ++ [(S45.mk y14 x17 (mgetD x6 (s196 y13) 0))], x16), ⟨rfl, rfl, rfl, rfl, trivial⟩, ⟨rfl, rfl, trivial⟩, rfl, ⟨(by first | omega | (dsimp only; omega) | (simp at *; omega)), (by first | omega | (dsimp only; omega) | (simp at *; omega)), (by first | omega | (dsimp only; omega) | (simp at *; omega)), (by first | omega | (dsimp only; omega) | (simp at *; omega)), hR⟩, by simp⟩
              · replace h6 : (decide (x11 < (List.length a0 : Int))) = false := h6
                replace hR := condF hR h6
                try simp only [Bool.or_eq_true, Bool.and_eq_true, Bool.or_eq_false_iff, Bool.and_eq_false_iff, Bool.not_eq_true', Bool.not_eq_false', decide_eq_true_eq, decide_eq_false_iff_not] at h6
                refine aw_exit ?_
                refine aw_seq ?_
                refine aw_freeze (l := [(10, .g (G.sl 3 (List.map S45.c x10)))]) (m := []) 10 rfl ⟨.inr (frz_arr rfl), trivial⟩ trivial rfl rfl ?_
                refine aw_region [.p, .p, .p, .p] ?_
                refine st rfl rfl (eff_moveg rfl rfl) rfl ?_
                refine st rfl rfl (eff_call rfl K197 rfl (c197 x10) (ag_cons rfl ag_nil)) rfl ?_
                refine st rfl rfl (eff_assigng rfl rfl) rfl ?_
                refine st rfl rfl (eff_assigng rfl rfl) rfl ?_
                refine st_nil ?_
                refine aw_ret ?_
                obtain rfl := Option.some.inj hR
                exact resN rfl ⟨rv_g rfl, rv_g rfl, trivial⟩ (by simp)
end Go.Sim

namespace Go.Sim
open Go.Proofs
/-! ## the days of a period, and the year of a season -/
theorem c69' {g : List (Nat × List Value)} (a0 : S45) : Con (EG g) 69 [G.agg [G.int a0.fFrom, G.int a0.fTo, G.int a0.Days]] (G.tup [G.sl 1 (List.map cInt ((s69 a0)).1), G.int ((s69 a0)).2]) := by
  intro w M vs hM hgl hv
  refine (c69 a0 w M vs hM hgl hv).mono ?_
  rintro e w' ⟨v, h1, h2, us, h3, h4⟩
  refine ⟨v, h1, h2, us, h3, ?_⟩
  match us, h4 with
  | [u1, u2], ⟨k1, k2, k3⟩ => exact ⟨slX_sl k1, k2, k3⟩
theorem days_s104 {p : S45} (h : s102 p = 0) : (s104 p).length ≤ 401 ∧ ∀ d ∈ s104 p, 0 ≤ d ∧ d ≤ 99999 := by
  obtain ⟨q1, q2, q3, q4, q5, q6⟩ := period_ok p h
  rw [days_eq p h]
  refine ⟨?_, fun d hd => ?_⟩
  · have := dayL_len p.Days (p.fTo + 1 - p.fFrom).toNat p.fFrom
    omega
  · have := dayL_range p.Days (p.fTo + 1 - p.fFrom).toNat p.fFrom d hd
    omega
theorem s69_days {p : S45} (h : s102 p = 0) : (s69 p).1 = s104 p := by
  rw [days_eq p h]
  unfold s69
  rw [decide_eq_false (by simpa using h), cond_false]
theorem days_s69 {p : S45} (h : s102 p = 0) : ((s69 p).1).length ≤ 401 := by
  rw [s69_days h]; exact (days_s104 h).1
theorem day_at {p : S45} (h : s102 p = 0) {k : Nat} {y : Int} (hy : (s104 p)[k]? = some y) : 0 ≤ y ∧ y ≤ 99999 := (days_s104 h).2 y (List.mem_of_getElem? hy)
theorem s110_in (rec1 : Int → Option (S67 × Bool)) (a0 x2 : Int) (hrec : ∀ z x, rec1 z = some (x, true) → z ≤ x.Year) : ∀ (k : Nat) (x4 : Int) (x : S67), s110_l2 rec1 a0 x2 k x4 = some (x, true) → x2 ≤ x.Year
  | 0, x4, x, h => by
    rw [s110_l2] at h
    have := hrec _ _ h
    omega
  | k + 1, x4, x, h => by
    rw [s110_l2] at h
    obtain ⟨y, h1, h⟩ := bindO_inv h
    cases hc : s157 y a0
    · rw [hc, cond_false] at h
      exact s110_in rec1 a0 x2 hrec k _ x h
    · rw [hc, cond_true] at h
      cases h
      exact Int.le_refl _
theorem s110_in2 (rec1 : Int → Option (S67 × Bool)) (a0 x2 b : Int) (hb : x2 ≤ b) (hrec : ∀ x, rec1 (x2 + 1) = some (x, true) → x.Year ≤ b) : ∀ (k : Nat) (x4 : Int) (x : S67), s110_l2 rec1 a0 x2 k x4 = some (x, true) → x.Year ≤ b
  | 0, x4, x, h => by
    rw [s110_l2] at h
    exact hrec _ h
  | k + 1, x4, x, h => by
    rw [s110_l2] at h
    obtain ⟨y, h1, h⟩ := bindO_inv h
    cases hc : s157 y a0
    · rw [hc, cond_false] at h
      exact s110_in2 rec1 a0 x2 b hb hrec k _ x h
    · rw [hc, cond_true] at h
      cases h
      exact hb
theorem s110_out (a0 : Int) : ∀ (k : Nat) (x2 : Int) (x : S67), s110_l1 a0 k x2 = some (x, true) → x2 ≤ x.Year
  | 0, x2, x, h => by rw [s110_l1] at h; cases h
  | k + 1, x2, x, h => by
    rw [s110_l1] at h
    exact s110_in _ a0 x2 (fun z x h => s110_out a0 k z x h) _ _ x h
theorem s110_out2 (a0 b : Int) : ∀ (k : Nat) (x2 : Int) (x : S67), k = (b + 1 - x2).toNat → s110_l1 a0 k x2 = some (x, true) → x.Year ≤ b
  | 0, x2, x, _, h => by rw [s110_l1] at h; cases h
  | k + 1, x2, x, hk, h => by
    rw [s110_l1] at h
    exact s110_in2 _ a0 x2 b (by omega) (fun x h => s110_out2 a0 b k (x2 + 1) x (by omega) h) _ _ x h
theorem s110_yr {d : Int} {r : S67 × Bool} (h : s110 d = some r) (hr : r.2 = true) : 2000 ≤ r.1.Year ∧ r.1.Year ≤ 2272 := by
  obtain ⟨x, t⟩ := r
  have hr : t = true := hr
  subst hr
  unfold s110 at h
  obtain ⟨y, h1, h⟩ := bindO_inv h
  have g1 := s110_out d _ _ x h
  have g2 := s110_out2 d (min 2272 y.1) _ _ x rfl h
  show 2000 ≤ x.Year ∧ x.Year ≤ 2272
  omega
end Go.Sim

set_option linter.unusedSimpArgs false
set_option linter.unusedVariables false
set_option maxRecDepth 10000
namespace Go.Sim
open Go.Proofs


/-- use.historic -/
def s108_j1 (rec2 : Nat → (List Int) → Option ((List S45) × Int)) (k9 : Nat) (x13 : List Int) : Option ((List S45) × Int) :=
  rec2 (k9 + 1) x13
def s108_l2 (a1 : S67) : List Int → Nat → (List Int) → Option ((List S45) × Int)
  | [], k9, x7 => bindO (s160 x7) fun r12 => some (r12.1, r12.2)
  | y10 :: t11, k9, x7 => bindO (s159 y10 a1) fun r14 => (bif decide (r14.2 = 0) then s108_j1 (fun k_ z0_ => s108_l2 a1 t11 k_ z0_) k9 (x7 ++ [r14.1]) else s108_j1 (fun k_ z0_ => s108_l2 a1 t11 k_ z0_) k9 x7)
def s108_l1 (a0 : S45) (a1 : S67) : List Int → Nat → Int → ByteArray → Option ((List S45) × Int)
  | [], k4, x2, x3 => (bif (decide (0 < (List.length ((s69 a0).1) : Int))) && (!decide (x3 = a1.Kind)) then some ([], 13) else s108_l2 a1 ((s69 a0).1) 0 [])
  | y5 :: t6, k4, x2, x3 => bindO (s158 y5) fun r15 => (bif (decide (r15.2 ≠ 0)) || ((decide (0 < ((k4 : Nat) : Int))) && (!(eqAnd [decide (r15.1.Year = x2), decide (r15.1.Kind = x3)]))) then some ([], 30) else s108_l1 a0 a1 t6 (k4 + 1) r15.1.Year r15.1.Kind)
def s108 (a0 : S45) (a1 : S67) : Option ((List S45) × Int) :=
  s108_l1 a0 a1 ((s69 a0).1) 0 0 ByteArray.empty
theorem c108 (a0 : S45) (a1 : S67) {R : (List S45) × Int}  (hp : s102 a0 = 0) (hR : s108 a0 a1 = some R) : Con (EG glT) 108 [G.agg [G.int a0.fFrom, G.int a0.fTo, G.int a0.Days], G.agg [G.int a1.Year, G.str a1.Kind]] (G.tup [G.sl 3 (List.map S45.c R.1), G.int R.2]) := by
  unfold s108 at hR
  refine con_of_aw Tryz.func108 rfl rfl fun w0 M0 => ?_
  have hl := days_s69 hp
  refine aw_seq ?_
  refine aw_region [.p, .p, .p, .p] ?_
  refine st rfl rfl (eff_box rfl rfl) rfl ?_
  refine st rfl rfl (eff_box rfl rfl) rfl ?_
  refine st rfl rfl (eff_assigng rfl rfl) rfl ?_
  refine st rfl rfl (eff_assigng rfl rfl) rfl ?_
  refine st_nil ?_
  refine aw_seq ?_
  refine aw_region [.p, .p, .p, .p, .p, .p, .p] ?_
  refine st rfl rfl (eff_loadA rfl ty46 rfl rfl rfl) rfl ?_
  refine st rfl rfl (eff_call rfl K69 rfl (c69' a0) (ag_cons rfl ag_nil)) rfl ?_
  refine st rfl rfl (eff_moveg rfl rfl) rfl ?_
  refine st rfl rfl (eff_extract rfl rfl rfl) rfl ?_
  refine st rfl rfl (eff_extract rfl rfl rfl) rfl ?_
  refine st rfl rfl (eff_assigng rfl rfl) rfl ?_
  refine st rfl rfl (eff_assigng rfl rfl) rfl ?_
  refine st_nil ?_
  refine aw_seq ?_
  refine aw_region [.w] ?_
  refine st_w rfl rfl (eff_alloc 8 rfl z68 rfl rfl) rfl ?_
  refine st_nil ?_
  refine aw_seq ?_
  refine aw_seq ?_
  refine aw_region [.p, .p, .p] ?_
  refine st rfl rfl (eff_moveg rfl rfl) rfl ?_
  refine st rfl rfl (eff_lenM (f := cInt) (l := (s69 a0).1) rfl Tryz.underlying82 rfl) rfl ?_
  refine st rfl rfl (eff_moveg rfl rfl) rfl ?_
  refine st_nil ?_
  refine aw_block ?_
  refine aw_loop_g (γ := Nat × (List Int) × Int × ByteArray) (fun g => ([(3, .g (G.ref [G.int a1.Year, G.str a1.Kind])), (6, .g (G.sl 1 (List.map cInt ((s69 a0).1)))), (8, .ptr 8 0), (23, .g (G.sl 1 (List.map cInt ((s69 a0).1)))), (24, .g (G.int (List.length ((s69 a0).1) : Int))), (25, .g (G.int ((g.1 : Nat) : Int)))], [(8, .box [.g (G.int g.2.2.1), .g (G.str g.2.2.2)])])) (fun g => ((s69 a0).1).drop g.1 = g.2.1 ∧ s108_l1 a0 a1 g.2.1 g.1 g.2.2.1 g.2.2.2 = some R) (fun g => List.length g.2.1) ⟨rfl, (0, ((s69 a0).1), 0, ByteArray.empty), ⟨rfl, rfl, rfl, rfl, rfl, rfl, trivial⟩, ⟨rfl, trivial⟩, rfl, ⟨rfl, hR⟩, trivial⟩ ?_
  · rintro ⟨k4, t6, x2, x3⟩ ⟨hd, hR⟩
    replace hd : ((s69 a0).1).drop k4 = t6 := hd
    replace hR : s108_l1 a0 a1 t6 k4 x2 x3 = some R := hR
    refine aw_seq ?_
    refine aw_region [.p] ?_
    refine st rfl rfl (eff_lss rfl rfl rfl) rfl ?_
    refine st_nil ?_
    refine len_sl (f := cInt) (l := (s69 a0).1) 6 rfl fun hlz1 => ?_
    refine aw_seq ?_
    refine aw_cond _ rfl (fun h1 => ?_) (fun h1 => ?_)
    · replace h1 : (decide (((k4 : Nat) : Int) < (List.length ((s69 a0).1) : Int))) = true := h1
      obtain ⟨y5, t6, rfl, hx1, hd⟩ := drop_cons hd (decT h1)
      replace h1 := decT h1
      rw [s108_l1] at hR
      try dsimp only at hR
      refine aw_skip ?_
      refine aw_seq ?_
      refine aw_block ?_
      refine aw_seq ?_
      refine aw_region [.p, .p, .p, .p, .p] ?_
      refine st rfl rfl (eff_moveg rfl rfl) rfl ?_
      refine st rfl rfl (eff_ix (f := cInt) (l := (s69 a0).1) (a := y5) rfl Tryz.underlying82 ty3 rfl rfl (Int.natCast_nonneg _) hx1) rfl ?_
      refine st rfl rfl (eff_load rfl ty3 rfl) rfl ?_
      refine st rfl rfl (eff_assigng rfl rfl) rfl ?_
      refine st rfl rfl (eff_assigng rfl rfl) rfl ?_
      refine st_nil ?_
      refine aw_seq ?_
      obtain ⟨r15, br15, hR⟩ := bindO_inv hR
      refine aw_region [.p, .p, .p, .p, .p, .w, .w, .p] ?_
      refine st rfl rfl (eff_moveg rfl rfl) rfl ?_
      refine st rfl rfl (eff_call rfl K158 rfl (c158 y5 br15) (ag_cons rfl ag_nil)) rfl ?_
      refine st rfl rfl (eff_moveg rfl rfl) rfl ?_
      refine st rfl rfl (eff_extract rfl rfl rfl) rfl ?_
      refine st rfl rfl (eff_extract rfl rfl rfl) rfl ?_
      refine st_w rfl rfl (eff_alloc 11 rfl z68 rfl rfl) rfl ?_
      refine st_wn rfl rfl (eff_store (tv := .g (G.agg [G.int r15.1.Year, G.str r15.1.Kind])) rfl ty68 rfl rfl rfl rfl rfl) ?_
      refine st rfl rfl (eff_assigng rfl rfl) rfl ?_
      refine st_nil ?_
      refine aw_seq ?_
      refine aw_seq ?_
      refine aw_region [.p, .p, .p, .p, .p, .p, .r, .r, .p, .p, .p] ?_
      refine st rfl rfl (eff_moveg rfl rfl) rfl ?_
      refine st rfl rfl (eff_neq rfl rfl rfl) rfl ?_
      refine st rfl rfl (eff_moveg rfl rfl) rfl ?_
      refine st_g rfl rfl rfl (gb_bool _ _) (fun h => eff_moveg rfl rfl) rfl ?_
      refine st_g rfl rfl rfl (gb_bool _ _) (fun h => eff_gtr rfl (gd h rfl) rfl) rfl ?_
      refine st_g rfl rfl rfl (gb_bool _ _) (fun h => eff_moveg rfl (gd h rfl)) rfl ?_
      refine st_gr rfl rfl rfl (gb_if _ _ _) (fun h => eff_loadOA rfl ty68 rfl rfl rfl rfl) rfl ?_
      refine st_gr rfl rfl rfl (gb_if _ _ _) (fun h => eff_loadOA rfl ty68 rfl rfl rfl rfl) rfl ?_
      refine st_g rfl rfl rfl (gb_if _ _ _) (fun h => eff_aneq [.int .i64 r15.1.Year, .string r15.1.Kind] [.int .i64 x2, .string x3] rfl flat68 (gd h rfl) (gd h rfl) rfl rfl rfl) rfl ?_
      refine st_g rfl rfl rfl (gb_bool _ _) (fun h => eff_and rfl (gd h rfl) rfl (gd2 h rfl)) rfl ?_
      refine st rfl rfl (eff_or rfl rfl rfl rfl) rfl ?_
      refine st_nil ?_
      refine aw_cond _ rfl (fun h7 => ?_) (fun h7 => ?_)
      · replace h7 : ((decide (r15.2 ≠ 0)) || ((decide (0 < ((k4 : Nat) : Int))) && (!(eqAnd [decide (r15.1.Year = x2), decide (r15.1.Kind = x3)])))) = true := h7
        replace hR := condT hR h7
        try simp only [Bool.or_eq_true, Bool.and_eq_true, Bool.or_eq_false_iff, Bool.and_eq_false_iff, Bool.not_eq_true', Bool.not_eq_false', decide_eq_true_eq, decide_eq_false_iff_not] at h7
        refine aw_seq ?_
        refine aw_region [.p, .p] ?_
        refine st rfl rfl (eff_assigng rfl rfl) rfl ?_
        refine st rfl rfl (eff_assigng rfl rfl) rfl ?_
        refine st_nil ?_
        refine aw_ret ?_
        obtain rfl := Option.some.inj hR
        exact resN rfl ⟨rv_nilG rfl (nil_sl _), rv_g rfl, trivial⟩ (by simp)
      · replace h7 : ((decide (r15.2 ≠ 0)) || ((decide (0 < ((k4 : Nat) : Int))) && (!(eqAnd [decide (r15.1.Year = x2), decide (r15.1.Kind = x3)])))) = false := h7
        replace hR := condF hR h7
        try simp only [Bool.or_eq_true, Bool.and_eq_true, Bool.or_eq_false_iff, Bool.and_eq_false_iff, Bool.not_eq_true', Bool.not_eq_false', decide_eq_true_eq, decide_eq_false_iff_not] at h7
        refine aw_skip ?_
        refine aw_region [.r, .w] ?_
        refine st_r rfl rfl (eff_loadOA rfl ty68 rfl rfl rfl rfl) rfl ?_
        refine st_wn rfl rfl (eff_store (tv := .g (G.agg [G.int r15.1.Year, G.str r15.1.Kind])) rfl ty68 rfl rfl rfl rfl rfl) ?_
        refine st_nil ?_
        refine aw_region [.p, .p] ?_
        refine st rfl rfl (eff_add rfl rfl rfl (by unfold I64; omega)) rfl ?_
        refine st rfl rfl (eff_moveg rfl rfl) rfl ?_
        refine st_nil ?_
        exact ⟨rfl, (k4 + 1, t6, r15.1.Year, r15.1.Kind), ⟨rfl, rfl, rfl, rfl, rfl, rfl, trivial⟩, ⟨rfl, trivial⟩, rfl, ⟨hd, hR⟩, by simp⟩
    · replace h1 : (decide (((k4 : Nat) : Int) < (List.length ((s69 a0).1) : Int))) = false := h1
      obtain rfl := drop_nil hd (decF h1)
      rw [s108_l1] at hR
      refine aw_exit ?_
      refine aw_seq ?_
      refine aw_seq ?_
      refine aw_region [.p, .p, .p, .p, .p, .r, .p, .p, .p, .p] ?_
      refine st rfl rfl (eff_moveg rfl rfl) rfl ?_
      refine st rfl rfl (eff_lenM (f := cInt) (l := (s69 a0).1) rfl Tryz.underlying82 rfl) rfl ?_
      refine st rfl rfl (eff_gtr rfl rfl rfl) rfl ?_
      refine st rfl rfl (eff_moveg rfl rfl) rfl ?_
      refine st_g rfl rfl rfl (gb_bool _ _) (fun h => eff_fieldO rfl fl68_1 rfl) rfl ?_
      refine st_gr rfl rfl rfl (gb_bool _ _) (fun h => eff_loadO rfl ty9 (gd h rfl) rfl rfl) rfl ?_
      refine st_g rfl rfl rfl (gb_bool _ _) (fun h => eff_fieldAddr rfl fl68_1 rfl) rfl ?_
      refine st_g rfl rfl rfl (gb_bool _ _) (fun h => eff_load rfl ty9 (gd h rfl)) rfl ?_
      refine st_g rfl rfl rfl (gb_bool _ _) (fun h => eff_sne rfl (gd h rfl) (gd h rfl)) rfl ?_
      refine st rfl rfl (eff_and rfl rfl rfl rfl) rfl ?_
      refine st_nil ?_
      refine aw_cond _ rfl (fun h3 => ?_) (fun h3 => ?_)
      · replace h3 : ((decide (0 < (List.length ((s69 a0).1) : Int))) && (!decide (x3 = a1.Kind))) = true := h3
        replace hR := condT hR h3
        try simp only [Bool.or_eq_true, Bool.and_eq_true, Bool.or_eq_false_iff, Bool.and_eq_false_iff, Bool.not_eq_true', Bool.not_eq_false', decide_eq_true_eq, decide_eq_false_iff_not] at h3
        refine aw_seq ?_
        refine aw_region [.p, .p] ?_
        refine st rfl rfl (eff_assigng rfl rfl) rfl ?_
        refine st rfl rfl (eff_assigng rfl rfl) rfl ?_
        refine st_nil ?_
        refine aw_ret ?_
        obtain rfl := Option.some.inj hR
        exact resN rfl ⟨rv_nilG rfl (nil_sl _), rv_g rfl, trivial⟩ (by simp)
      · replace h3 : ((decide (0 < (List.length ((s69 a0).1) : Int))) && (!decide (x3 = a1.Kind))) = false := h3
        replace hR := condF hR h3
        try simp only [Bool.or_eq_true, Bool.and_eq_true, Bool.or_eq_false_iff, Bool.and_eq_false_iff, Bool.not_eq_true', Bool.not_eq_false', decide_eq_true_eq, decide_eq_false_iff_not] at h3
        refine aw_skip ?_
        refine aw_seq ?_
        refine aw_region [.w] ?_
        refine st_w rfl rfl (eff_nilL 13 3 1 rfl rfl rfl) rfl ?_
        refine st_nil ?_
        refine aw_seq ?_
        refine aw_seq ?_
        refine aw_region [.p, .p, .p] ?_
        refine st rfl rfl (eff_moveg rfl rfl) rfl ?_
        refine st rfl rfl (eff_lenM (f := cInt) (l := (s69 a0).1) rfl Tryz.underlying82 rfl) rfl ?_
        refine st rfl rfl (eff_moveg rfl rfl) rfl ?_
        refine st_nil ?_
        refine aw_block ?_
        refine aw_loop_g (γ := Nat × (List Int) × (List Int)) (fun g => ([(3, .g (G.ref [G.int a1.Year, G.str a1.Kind])), (13, .osl 13 1 0 (List.length g.2.2)), (58, .g (G.sl 1 (List.map cInt ((s69 a0).1)))), (59, .g (G.int (List.length ((s69 a0).1) : Int))), (60, .g (G.int ((g.1 : Nat) : Int)))], [(13, .arr 3 1 (List.map cInt g.2.2))])) (fun g => g.2.2.length ≤ g.1 ∧ g.1 ≤ ((s69 a0).1).length ∧ g.2.2.length ≤ g.1 ∧ ((s69 a0).1).drop g.1 = g.2.1 ∧ s108_l2 a1 g.2.1 g.1 g.2.2 = some R) (fun g => List.length g.2.1) ⟨rfl, (0, ((s69 a0).1), []), ⟨rfl, rfl, rfl, rfl, rfl, trivial⟩, ⟨rfl, trivial⟩, rfl, ⟨(by first | (simp; done) | (simp; omega)), (by first | (simp; done) | (simp; omega)), (by first | (simp; done) | (simp; omega)), rfl, hR⟩, trivial⟩ ?_
        · rintro ⟨k9, t11, x7⟩ ⟨iv2_0, iv2_1, iv2_2, hd, hR⟩
          replace hd : ((s69 a0).1).drop k9 = t11 := hd
          replace hR : s108_l2 a1 t11 k9 x7 = some R := hR
          replace iv2_0 : x7.length ≤ k9 := iv2_0
          replace iv2_1 : k9 ≤ ((s69 a0).1).length := iv2_1
          replace iv2_2 : x7.length ≤ k9 := iv2_2
          refine aw_seq ?_
          refine aw_region [.p] ?_
          refine st rfl rfl (eff_lss rfl rfl rfl) rfl ?_
          refine st_nil ?_
          refine len_sl (f := cInt) (l := (s69 a0).1) 58 rfl fun hlz2 => ?_
          refine aw_seq ?_
          refine aw_cond _ rfl (fun h4 => ?_) (fun h4 => ?_)
          · replace h4 : (decide (((k9 : Nat) : Int) < (List.length ((s69 a0).1) : Int))) = true := h4
            obtain ⟨y10, t11, rfl, hx2, hd⟩ := drop_cons hd (decT h4)
            replace h4 := decT h4
            rw [s108_l2] at hR
            try dsimp only at hR
            refine aw_skip ?_
            refine aw_cut_g (γ := (List Int)) (fun g => ([(3, .g (G.ref [G.int a1.Year, G.str a1.Kind])), (13, .osl 13 1 0 (List.length g)), (58, .g (G.sl 1 (List.map cInt ((s69 a0).1)))), (59, .g (G.int (List.length ((s69 a0).1) : Int))), (60, .g (G.int ((k9 : Nat) : Int)))], [(13, .arr 3 1 (List.map cInt g))])) (fun g => g.length ≤ k9 + 1 ∧ s108_j1 (fun k_ z0_ => s108_l2 a1 t11 k_ z0_) k9 g = some R) ?_ ?_
            · refine aw_block ?_
              refine aw_seq ?_
              refine aw_region [.p, .p, .p] ?_
              refine st rfl rfl (eff_ix (f := cInt) (l := (s69 a0).1) (a := y10) rfl Tryz.underlying82 ty3 rfl rfl (Int.natCast_nonneg _) hx2) rfl ?_
              refine st rfl rfl (eff_load rfl ty3 rfl) rfl ?_
              refine st rfl rfl (eff_assigng rfl rfl) rfl ?_
              refine st_nil ?_
              refine aw_seq ?_
              obtain ⟨r14, br14, hR⟩ := bindO_inv hR
              refine aw_region [.p, .p, .p, .p, .p, .p, .p, .p] ?_
              refine st rfl rfl (eff_moveg rfl rfl) rfl ?_
              refine st rfl rfl (eff_loadA rfl ty68 rfl rfl rfl) rfl ?_
              refine st rfl rfl (eff_call rfl K159 rfl (c159 y10 a1 br14) (ag_cons rfl (ag_cons rfl ag_nil))) rfl ?_
              refine st rfl rfl (eff_moveg rfl rfl) rfl ?_
              refine st rfl rfl (eff_extract rfl rfl rfl) rfl ?_
              refine st rfl rfl (eff_extract rfl rfl rfl) rfl ?_
              refine st rfl rfl (eff_assigng rfl rfl) rfl ?_
              refine st rfl rfl (eff_assigng rfl rfl) rfl ?_
              refine st_nil ?_
              refine aw_seq ?_
              refine aw_region [.p, .p] ?_
              refine st rfl rfl (eff_moveg rfl rfl) rfl ?_
              refine st rfl rfl (eff_eql rfl rfl rfl) rfl ?_
              refine st_nil ?_
              refine aw_cond _ rfl (fun h6 => ?_) (fun h6 => ?_)
              · replace h6 : (decide (r14.2 = 0)) = true := h6
                replace hR := condT hR h6
                try simp only [Bool.or_eq_true, Bool.and_eq_true, Bool.or_eq_false_iff, Bool.and_eq_false_iff, Bool.not_eq_true', Bool.not_eq_false', decide_eq_true_eq, decide_eq_false_iff_not] at h6
                refine aw_region [.p, .p, .p, .k, .p] ?_
                refine st rfl rfl (eff_moveO rfl rfl) rfl ?_
                refine st rfl rfl (eff_moveg rfl rfl) rfl ?_
                refine st rfl rfl (eff_buildSlice rfl Tryz.underlying82 ty3 z3 rfl (ps_cons rfl ps_nil) rfl (by simp []) (by decide)) rfl ?_
                refine st_k rfl rfl (eff_appL (f := cInt) (out := x7) (new := [r14.1]) rfl app82 rfl rfl (src_eq rfl (src_sl (by decide) (by simp []))) (refsN rfl) (by simp; omega)) rfl ?_
                refine st rfl rfl (eff_assignO rfl rfl) rfl ?_
                refine st_nil ?_
                exact ⟨rfl, x7 ++ [r14.1], ⟨rfl, rfl, rfl, rfl, rfl, trivial⟩, ⟨rfl, trivial⟩, rfl, ⟨(by first | omega | (dsimp only; omega) | (simp at *; done) | (simp at *; omega)), hR⟩, trivial⟩
              · replace h6 : (decide (r14.2 = 0)) = false := h6
                replace hR := condF hR h6
                try simp only [Bool.or_eq_true, Bool.and_eq_true, Bool.or_eq_false_iff, Bool.and_eq_false_iff, Bool.not_eq_true', Bool.not_eq_false', decide_eq_true_eq, decide_eq_false_iff_not] at h6
                refine aw_skip ?_
                exact ⟨rfl, x7, ⟨rfl, rfl, rfl, rfl, rfl, trivial⟩, ⟨rfl, trivial⟩, rfl, ⟨(by first | omega | (dsimp only; omega) | (simp at *; done) | (simp at *; omega)), hR⟩, trivial⟩
            · rintro x13 ⟨jv1_0, hR⟩
              replace jv1_0 : x13.length ≤ k9 + 1 := jv1_0
              replace hR : s108_j1 (fun k_ z0_ => s108_l2 a1 t11 k_ z0_) k9 x13 = some R := hR
              unfold s108_j1 at hR
              refine aw_region [.p, .p] ?_
              refine st rfl rfl (eff_add rfl rfl rfl (by unfold I64; omega)) rfl ?_
              refine st rfl rfl (eff_moveg rfl rfl) rfl ?_
              refine st_nil ?_
              exact ⟨rfl, (k9 + 1, t11, x13), ⟨rfl, rfl, rfl, rfl, rfl, trivial⟩, ⟨rfl, trivial⟩, rfl, ⟨(by first | omega | (dsimp only; omega) | (simp at *; omega)), (by first | omega | (dsimp only; omega) | (simp at *; omega)), (by first | omega | (dsimp only; omega) | (simp at *; omega)), hd, hR⟩, by simp⟩
          · replace h4 : (decide (((k9 : Nat) : Int) < (List.length ((s69 a0).1) : Int))) = false := h4
            obtain rfl := drop_nil hd (decF h4)
            rw [s108_l2] at hR
            refine aw_exit ?_
            refine aw_seq ?_
            refine aw_freeze (l := [(13, .g (G.sl 1 (List.map cInt x7)))]) (m := []) 13 rfl ⟨.inr (frz_arr rfl), trivial⟩ trivial rfl rfl ?_
            obtain ⟨r12, br12, hR⟩ := bindO_inv hR
            refine aw_region [.p, .p, .p, .p, .p, .p] ?_
            refine st rfl rfl (eff_moveg rfl rfl) rfl ?_
            refine st rfl rfl (eff_call rfl K160 rfl (c160 x7 (by first | assumption | omega | (simp [copyL_len]; omega)) br12) (ag_cons rfl ag_nil)) rfl ?_
            refine st rfl rfl (eff_extract rfl rfl rfl) rfl ?_
            refine st rfl rfl (eff_extract rfl rfl rfl) rfl ?_
            refine st rfl rfl (eff_assigng rfl rfl) rfl ?_
            refine st rfl rfl (eff_assigng rfl rfl) rfl ?_
            refine st_nil ?_
            refine aw_ret ?_
            obtain rfl := Option.some.inj hR
            exact resN rfl ⟨rv_g rfl, rv_g rfl, trivial⟩ (by simp)

/-- turnroundref09.Historic -/
def s42_j1 (rec2 : Nat → (List Int) → Option ((List S45) × Int)) (k9 : Nat) (x13 : List Int) : Option ((List S45) × Int) :=
  rec2 (k9 + 1) x13
def s42_l2 (a1 : S67) (x2 : Int) (x3 : ByteArray) : List Int → Nat → (List Int) → Option ((List S45) × Int)
  | [], k9, x7 => bindO (s112 x7) fun r12 => some (r12, 0)
  | y10 :: t11, k9, x7 => bindO (s111 (S67.mk x2 x3)) fun r14 => bindO (s111 a1) fun r15 => bindO (s111 a1) fun r16 => (bif decide (IntKind.i64.wrap ((IntKind.i64.wrap (y10 - r14.fFrom)) + r15.fFrom) ≤ r16.fTo) then s42_j1 (fun k_ z0_ => s42_l2 a1 x2 x3 t11 k_ z0_) k9 (x7 ++ [IntKind.i64.wrap ((IntKind.i64.wrap (y10 - r14.fFrom)) + r15.fFrom)]) else s42_j1 (fun k_ z0_ => s42_l2 a1 x2 x3 t11 k_ z0_) k9 x7)
def s42_l1 (a0 : S45) (a1 : S67) : List Int → Nat → Int → ByteArray → Option ((List S45) × Int)
  | [], k4, x2, x3 => (bif (decide (0 < (List.length (s104 a0) : Int))) && (!decide (x3 = a1.Kind)) then some ([], 13) else s42_l2 a1 x2 x3 (s104 a0) 0 [])
  | y5 :: t6, k4, x2, x3 => bindO (s110 y5) fun r17 => (bif (!r17.2) || ((decide (0 < ((k4 : Nat) : Int))) && (!(eqAnd [decide (r17.1.Year = x2), decide (r17.1.Kind = x3)]))) then some ([], 30) else s42_l1 a0 a1 t6 (k4 + 1) r17.1.Year r17.1.Kind)
def s42 (a0 : S45) (a1 : S67) : Option ((List S45) × Int) :=
  s42_l1 a0 a1 (s104 a0) 0 0 ByteArray.empty
theorem c42 {g : List (Nat × List Value)} (a0 : S45) (a1 : S67) {R : (List S45) × Int}  (hp : s102 a0 = 0) (hy1 : 2000 ≤ a1.Year) (hy2 : a1.Year ≤ 2272) (hR : s42 a0 a1 = some R) : Con (EG g) 42 [G.agg [G.int a0.fFrom, G.int a0.fTo, G.int a0.Days], G.agg [G.int a1.Year, G.str a1.Kind]] (G.tup [G.sl 3 (List.map S45.c R.1), G.int R.2]) := by
  unfold s42 at hR
  refine con_of_aw Tryz.func42 rfl rfl fun w0 M0 => ?_
  obtain ⟨hp0, hp1⟩ : 0 ≤ a0.fFrom ∧ a0.fTo ≤ 1000000 := by have := period_ok a0 hp; omega
  have hl := (days_s104 hp).1
  refine aw_seq ?_
  refine aw_region [.p, .p, .p, .p] ?_
  refine st rfl rfl (eff_box rfl rfl) rfl ?_
  refine st rfl rfl (eff_box rfl rfl) rfl ?_
  refine st rfl rfl (eff_assigng rfl rfl) rfl ?_
  refine st rfl rfl (eff_assigng rfl rfl) rfl ?_
  refine st_nil ?_
  refine aw_seq ?_
  refine aw_region [.p, .p, .p] ?_
  refine st rfl rfl (eff_loadA rfl ty46 rfl rfl rfl) rfl ?_
  refine st rfl rfl (eff_call rfl K104 rfl (c104 a0 (by first | assumption | omega | (simp [copyL_len]; omega)) (by first | assumption | omega | (simp [copyL_len]; omega))) (ag_cons rfl ag_nil)) rfl ?_
  refine st rfl rfl (eff_assigng rfl rfl) rfl ?_
  refine st_nil ?_
  refine aw_seq ?_
  refine aw_region [.w] ?_
  refine st_w rfl rfl (eff_alloc 7 rfl z74 rfl rfl) rfl ?_
  refine st_nil ?_
  refine aw_seq ?_
  refine aw_seq ?_
  refine aw_region [.p] ?_
  refine st rfl rfl (eff_assigng rfl rfl) rfl ?_
  refine st_nil ?_
  refine aw_block ?_
  refine aw_loop_g (γ := Nat × (List Int) × Int × ByteArray) (fun g => ([(3, .g (G.ref [G.int a1.Year, G.str a1.Kind])), (6, .g (G.sl 1 (List.map cInt (s104 a0)))), (7, .ptr 7 0), (8, .g (G.int ((g.1 : Nat) : Int)))], [(7, .box [.g (G.int g.2.2.1), .g (G.str g.2.2.2)])])) (fun g => (0 < g.1 → 2000 ≤ g.2.2.1 ∧ g.2.2.1 ≤ 2272) ∧ (s104 a0).drop g.1 = g.2.1 ∧ s42_l1 a0 a1 g.2.1 g.1 g.2.2.1 g.2.2.2 = some R) (fun g => List.length g.2.1) ⟨rfl, (0, (s104 a0), 0, ByteArray.empty), ⟨rfl, rfl, rfl, rfl, trivial⟩, ⟨rfl, trivial⟩, rfl, ⟨(by first | (simp; done) | (simp; omega)), rfl, hR⟩, trivial⟩ ?_
  · rintro ⟨k4, t6, x2, x3⟩ ⟨iv1_0, hd, hR⟩
    replace hd : (s104 a0).drop k4 = t6 := hd
    replace hR : s42_l1 a0 a1 t6 k4 x2 x3 = some R := hR
    replace iv1_0 : (0 < k4 → 2000 ≤ x2 ∧ x2 ≤ 2272) := iv1_0
    refine aw_seq ?_
    refine aw_seq ?_
    refine aw_region [.p, .p, .p, .p] ?_
    refine st rfl rfl (eff_moveg rfl rfl) rfl ?_
    refine st rfl rfl (eff_moveg rfl rfl) rfl ?_
    refine st rfl rfl (eff_lenM (f := cInt) (l := (s104 a0)) rfl Tryz.underlying82 rfl) rfl ?_
    refine st rfl rfl (eff_lss rfl rfl rfl) rfl ?_
    refine st_nil ?_
    refine len_sl (f := cInt) (l := (s104 a0)) 6 rfl fun hlz1 => ?_
    refine aw_cond _ rfl (fun h1 => ?_) (fun h1 => ?_)
    · replace h1 : (decide (((k4 : Nat) : Int) < (List.length (s104 a0) : Int))) = true := h1
      obtain ⟨y5, t6, rfl, hx1, hd⟩ := drop_cons hd (decT h1)
      replace h1 := decT h1
      rw [s42_l1] at hR
      try dsimp only at hR
      refine aw_skip ?_
      refine aw_seq ?_
      refine aw_block ?_
      refine aw_seq ?_
      obtain ⟨r17, br17, hR⟩ := bindO_inv hR
      have hy5 := day_at hp hx1
      refine aw_region [.p, .p, .p, .p, .p, .p, .p, .p, .w, .w, .p] ?_
      refine st rfl rfl (eff_moveg rfl rfl) rfl ?_
      refine st rfl rfl (eff_moveg rfl rfl) rfl ?_
      refine st rfl rfl (eff_ix (f := cInt) (l := (s104 a0)) (a := y5) rfl Tryz.underlying82 ty3 rfl rfl (Int.natCast_nonneg _) hx1) rfl ?_
      refine st rfl rfl (eff_load rfl ty3 rfl) rfl ?_
      refine st rfl rfl (eff_call rfl K110 rfl (c110 y5 (by first | assumption | omega | (simp [copyL_len]; omega)) (by first | assumption | omega | (simp [copyL_len]; omega)) br17) (ag_cons rfl ag_nil)) rfl ?_
      refine st rfl rfl (eff_moveg rfl rfl) rfl ?_
      refine st rfl rfl (eff_extract rfl rfl rfl) rfl ?_
      refine st rfl rfl (eff_extract rfl rfl rfl) rfl ?_
      refine st_w rfl rfl (eff_alloc 9 rfl z74 rfl rfl) rfl ?_
      refine st_wn rfl rfl (eff_store (tv := .g (G.agg [G.int r17.1.Year, G.str r17.1.Kind])) rfl ty74 rfl rfl rfl rfl rfl) ?_
      refine st rfl rfl (eff_assigng rfl rfl) rfl ?_
      refine st_nil ?_
      refine aw_seq ?_
      refine aw_seq ?_
      refine aw_region [.p, .p, .p, .p, .p, .p, .r, .r, .p, .p, .p] ?_
      refine st rfl rfl (eff_moveg rfl rfl) rfl ?_
      refine st rfl rfl (eff_not rfl rfl) rfl ?_
      refine st rfl rfl (eff_moveg rfl rfl) rfl ?_
      refine st_g rfl rfl rfl (gb_bool _ _) (fun h => eff_moveg rfl rfl) rfl ?_
      refine st_g rfl rfl rfl (gb_bool _ _) (fun h => eff_gtr rfl (gd h rfl) rfl) rfl ?_
      refine st_g rfl rfl rfl (gb_bool _ _) (fun h => eff_moveg rfl (gd h rfl)) rfl ?_
      refine st_gr rfl rfl rfl (gb_if _ _ _) (fun h => eff_loadOA rfl ty74 rfl rfl rfl rfl) rfl ?_
      refine st_gr rfl rfl rfl (gb_if _ _ _) (fun h => eff_loadOA rfl ty74 rfl rfl rfl rfl) rfl ?_
      refine st_g rfl rfl rfl (gb_if _ _ _) (fun h => eff_aneq [.int .i64 r17.1.Year, .string r17.1.Kind] [.int .i64 x2, .string x3] rfl flat74 (gd h rfl) (gd h rfl) rfl rfl rfl) rfl ?_
      refine st_g rfl rfl rfl (gb_bool _ _) (fun h => eff_and rfl (gd h rfl) rfl (gd2 h rfl)) rfl ?_
      refine st rfl rfl (eff_or rfl rfl rfl rfl) rfl ?_
      refine st_nil ?_
      refine aw_cond _ rfl (fun h7 => ?_) (fun h7 => ?_)
      · replace h7 : ((!r17.2) || ((decide (0 < ((k4 : Nat) : Int))) && (!(eqAnd [decide (r17.1.Year = x2), decide (r17.1.Kind = x3)])))) = true := h7
        replace hR := condT hR h7
        try simp only [Bool.or_eq_true, Bool.and_eq_true, Bool.or_eq_false_iff, Bool.and_eq_false_iff, Bool.not_eq_true', Bool.not_eq_false', decide_eq_true_eq, decide_eq_false_iff_not] at h7
        refine aw_seq ?_
        refine aw_region [.p, .p] ?_
        refine st rfl rfl (eff_assigng rfl rfl) rfl ?_
        refine st rfl rfl (eff_assigng rfl rfl) rfl ?_
        refine st_nil ?_
        refine aw_ret ?_
        obtain rfl := Option.some.inj hR
        exact resN rfl ⟨rv_nilG rfl (nil_sl _), rv_g rfl, trivial⟩ (by simp)
      · replace h7 : ((!r17.2) || ((decide (0 < ((k4 : Nat) : Int))) && (!(eqAnd [decide (r17.1.Year = x2), decide (r17.1.Kind = x3)])))) = false := h7
        replace hR := condF hR h7
        try simp only [Bool.or_eq_true, Bool.and_eq_true, Bool.or_eq_false_iff, Bool.and_eq_false_iff, Bool.not_eq_true', Bool.not_eq_false', decide_eq_true_eq, decide_eq_false_iff_not] at h7
        refine aw_skip ?_
        refine aw_region [.r, .w] ?_
        refine st_r rfl rfl (eff_loadOA rfl ty74 rfl rfl rfl rfl) rfl ?_
        refine st_wn rfl rfl (eff_store (tv := .g (G.agg [G.int r17.1.Year, G.str r17.1.Kind])) rfl ty74 rfl rfl rfl rfl rfl) ?_
        refine st_nil ?_
        refine aw_region [.p, .p, .p] ?_
        refine st rfl rfl (eff_moveg rfl rfl) rfl ?_
        refine st rfl rfl (eff_add rfl rfl rfl (by unfold I64; omega)) rfl ?_
        refine st rfl rfl (eff_assigng rfl rfl) rfl ?_
        refine st_nil ?_
        exact ⟨rfl, (k4 + 1, t6, r17.1.Year, r17.1.Kind), ⟨rfl, rfl, rfl, rfl, trivial⟩, ⟨rfl, trivial⟩, rfl, ⟨(fun _ => s110_yr br17 (by revert h7; cases r17.2 <;> simp)), hd, hR⟩, by simp⟩
    · replace h1 : (decide (((k4 : Nat) : Int) < (List.length (s104 a0) : Int))) = false := h1
      obtain rfl := drop_nil hd (decF h1)
      rw [s42_l1] at hR
      refine aw_exit ?_
      refine aw_seq ?_
      refine aw_seq ?_
      refine aw_region [.p, .p, .p, .p, .p, .r, .p, .p, .p, .p] ?_
      refine st rfl rfl (eff_moveg rfl rfl) rfl ?_
      refine st rfl rfl (eff_lenM (f := cInt) (l := (s104 a0)) rfl Tryz.underlying82 rfl) rfl ?_
      refine st rfl rfl (eff_gtr rfl rfl rfl) rfl ?_
      refine st rfl rfl (eff_moveg rfl rfl) rfl ?_
      refine st_g rfl rfl rfl (gb_bool _ _) (fun h => eff_fieldO rfl fl74_1 rfl) rfl ?_
      refine st_gr rfl rfl rfl (gb_bool _ _) (fun h => eff_loadO rfl ty9 (gd h rfl) rfl rfl) rfl ?_
      refine st_g rfl rfl rfl (gb_bool _ _) (fun h => eff_fieldAddr rfl fl74_1 rfl) rfl ?_
      refine st_g rfl rfl rfl (gb_bool _ _) (fun h => eff_load rfl ty9 (gd h rfl)) rfl ?_
      refine st_g rfl rfl rfl (gb_bool _ _) (fun h => eff_sne rfl (gd h rfl) (gd h rfl)) rfl ?_
      refine st rfl rfl (eff_and rfl rfl rfl rfl) rfl ?_
      refine st_nil ?_
      refine aw_cond _ rfl (fun h3 => ?_) (fun h3 => ?_)
      · replace h3 : ((decide (0 < (List.length (s104 a0) : Int))) && (!decide (x3 = a1.Kind))) = true := h3
        replace hR := condT hR h3
        try simp only [Bool.or_eq_true, Bool.and_eq_true, Bool.or_eq_false_iff, Bool.and_eq_false_iff, Bool.not_eq_true', Bool.not_eq_false', decide_eq_true_eq, decide_eq_false_iff_not] at h3
        refine aw_seq ?_
        refine aw_region [.p, .p] ?_
        refine st rfl rfl (eff_assigng rfl rfl) rfl ?_
        refine st rfl rfl (eff_assigng rfl rfl) rfl ?_
        refine st_nil ?_
        refine aw_ret ?_
        obtain rfl := Option.some.inj hR
        exact resN rfl ⟨rv_nilG rfl (nil_sl _), rv_g rfl, trivial⟩ (by simp)
      · replace h3 : ((decide (0 < (List.length (s104 a0) : Int))) && (!decide (x3 = a1.Kind))) = false := h3
        replace hR := condF hR h3
        try simp only [Bool.or_eq_true, Bool.and_eq_true, Bool.or_eq_false_iff, Bool.and_eq_false_iff, Bool.not_eq_true', Bool.not_eq_false', decide_eq_true_eq, decide_eq_false_iff_not] at h3
        refine aw_skip ?_
        refine aw_seq ?_
        refine aw_region [.w] ?_
        refine st_w rfl rfl (eff_nilL 11 3 1 rfl rfl rfl) rfl ?_
        refine st_nil ?_
        refine aw_seq ?_
        refine aw_seq ?_
        refine aw_region [.p] ?_
        refine st rfl rfl (eff_assigng rfl rfl) rfl ?_
        refine st_nil ?_
        refine aw_block ?_
        refine aw_loop_g (γ := Nat × (List Int) × (List Int)) (fun g => ([(3, .g (G.ref [G.int a1.Year, G.str a1.Kind])), (6, .g (G.sl 1 (List.map cInt (s104 a0)))), (7, .ptr 7 0), (11, .osl 11 1 0 (List.length g.2.2)), (12, .g (G.int ((g.1 : Nat) : Int)))], [(7, .box [.g (G.int x2), .g (G.str x3)]), (11, .arr 3 1 (List.map cInt g.2.2))])) (fun g => g.2.2.length ≤ g.1 ∧ g.1 ≤ (s104 a0).length ∧ g.2.2.length ≤ g.1 ∧ (s104 a0).drop g.1 = g.2.1 ∧ s42_l2 a1 x2 x3 g.2.1 g.1 g.2.2 = some R) (fun g => List.length g.2.1) ⟨rfl, (0, (s104 a0), []), ⟨rfl, rfl, rfl, rfl, rfl, trivial⟩, ⟨rfl, rfl, trivial⟩, rfl, ⟨(by first | (simp; done) | (simp; omega)), (by first | (simp; done) | (simp; omega)), (by first | (simp; done) | (simp; omega)), rfl, hR⟩, trivial⟩ ?_
        · rintro ⟨k9, t11, x7⟩ ⟨iv2_0, iv2_1, iv2_2, hd, hR⟩
          replace hd : (s104 a0).drop k9 = t11 := hd
          replace hR : s42_l2 a1 x2 x3 t11 k9 x7 = some R := hR
          replace iv2_0 : x7.length ≤ k9 := iv2_0
          replace iv2_1 : k9 ≤ (s104 a0).length := iv2_1
          replace iv2_2 : x7.length ≤ k9 := iv2_2
          refine aw_seq ?_
          refine aw_seq ?_
          refine aw_region [.p, .p, .p, .p] ?_
          refine st rfl rfl (eff_moveg rfl rfl) rfl ?_
          refine st rfl rfl (eff_moveg rfl rfl) rfl ?_
          refine st rfl rfl (eff_lenM (f := cInt) (l := (s104 a0)) rfl Tryz.underlying82 rfl) rfl ?_
          refine st rfl rfl (eff_lss rfl rfl rfl) rfl ?_
          refine st_nil ?_
          refine len_sl (f := cInt) (l := (s104 a0)) 6 rfl fun hlz2 => ?_
          refine aw_cond _ rfl (fun h4 => ?_) (fun h4 => ?_)
          · replace h4 : (decide (((k9 : Nat) : Int) < (List.length (s104 a0) : Int))) = true := h4
            obtain ⟨y10, t11, rfl, hx2, hd⟩ := drop_cons hd (decT h4)
            replace h4 := decT h4
            rw [s42_l2] at hR
            try dsimp only at hR
            refine aw_skip ?_
            refine aw_cut_g (γ := (List Int)) (fun g => ([(3, .g (G.ref [G.int a1.Year, G.str a1.Kind])), (6, .g (G.sl 1 (List.map cInt (s104 a0)))), (7, .ptr 7 0), (11, .osl 11 1 0 (List.length g)), (12, .g (G.int ((k9 : Nat) : Int)))], [(7, .box [.g (G.int x2), .g (G.str x3)]), (11, .arr 3 1 (List.map cInt g))])) (fun g => g.length ≤ k9 + 1 ∧ s42_j1 (fun k_ z0_ => s42_l2 a1 x2 x3 t11 k_ z0_) k9 g = some R) ?_ ?_
            · refine aw_block ?_
              refine aw_seq ?_
              obtain ⟨r14, br14, hR⟩ := bindO_inv hR
              obtain ⟨r15, br15, hR⟩ := bindO_inv hR
              have hyr := iv1_0 (by have := decF h1; omega)
              refine aw_draw [.p, .p, .p, .p, .r, .p, .p, .p, .p, .p, .p, .p, .p] (by kernel_rfl) ?_
              refine st rfl rfl (eff_moveg rfl rfl) rfl ?_
              refine st rfl rfl (eff_moveg rfl rfl) rfl ?_
              refine st rfl rfl (eff_ix (f := cInt) (l := (s104 a0)) (a := y10) rfl Tryz.underlying82 ty3 rfl rfl (Int.natCast_nonneg _) hx2) rfl ?_
              refine st rfl rfl (eff_load rfl ty3 rfl) rfl ?_
              refine st_r rfl rfl (eff_loadOA rfl ty74 rfl rfl rfl rfl) rfl ?_
              refine st rfl rfl (eff_call rfl K111 rfl (c111 (S67.mk x2 x3) (by first | assumption | omega | (simp [copyL_len]; omega)) (by first | assumption | omega | (simp [copyL_len]; omega)) br14) (ag_cons rfl ag_nil)) rfl ?_
              refine st rfl rfl (eff_field rfl fl46_0 rfl rfl) rfl ?_
              refine st rfl rfl (eff_subw rfl rfl rfl) rfl ?_
              refine st rfl rfl (eff_loadA rfl ty74 rfl rfl rfl) rfl ?_
              refine st rfl rfl (eff_call rfl K111 rfl (c111 a1 (by first | assumption | omega | (simp [copyL_len]; omega)) (by first | assumption | omega | (simp [copyL_len]; omega)) br15) (ag_cons rfl ag_nil)) rfl ?_
              refine st rfl rfl (eff_field rfl fl46_0 rfl rfl) rfl ?_
              refine st rfl rfl (eff_addw rfl rfl rfl) rfl ?_
              refine st rfl rfl (eff_assigng rfl rfl) rfl ?_
              refine st_nil ?_
              refine aw_seq ?_
              obtain ⟨r16, br16, hR⟩ := bindO_inv hR
              refine aw_region [.p, .p, .p, .p, .p] ?_
              refine st rfl rfl (eff_moveg rfl rfl) rfl ?_
              refine st rfl rfl (eff_loadA rfl ty74 rfl rfl rfl) rfl ?_
              refine st rfl rfl (eff_call rfl K111 rfl (c111 a1 (by first | assumption | omega | (simp [copyL_len]; omega)) (by first | assumption | omega | (simp [copyL_len]; omega)) br16) (ag_cons rfl ag_nil)) rfl ?_
              refine st rfl rfl (eff_field rfl fl46_1 rfl rfl) rfl ?_
              refine st rfl rfl (eff_leq rfl rfl rfl) rfl ?_
              refine st_nil ?_
              refine aw_cond _ rfl (fun h6 => ?_) (fun h6 => ?_)
              · replace h6 : (decide (IntKind.i64.wrap ((IntKind.i64.wrap (y10 - r14.fFrom)) + r15.fFrom) ≤ r16.fTo)) = true := h6
                replace hR := condT hR h6
                try simp only [Bool.or_eq_true, Bool.and_eq_true, Bool.or_eq_false_iff, Bool.and_eq_false_iff, Bool.not_eq_true', Bool.not_eq_false', decide_eq_true_eq, decide_eq_false_iff_not] at h6
                refine aw_region [.p, .p, .p, .k, .p] ?_
                refine st rfl rfl (eff_moveO rfl rfl) rfl ?_
                refine st rfl rfl (eff_moveg rfl rfl) rfl ?_
                refine st rfl rfl (eff_buildSlice rfl Tryz.underlying82 ty3 z3 rfl (ps_cons rfl ps_nil) rfl (by simp []) (by decide)) rfl ?_
                refine st_k rfl rfl (eff_appL (f := cInt) (out := x7) (new := [IntKind.i64.wrap ((IntKind.i64.wrap (y10 - r14.fFrom)) + r15.fFrom)]) rfl app82 rfl rfl (src_eq rfl (src_sl (by decide) (by simp []))) (refsN rfl) (by simp; omega)) rfl ?_
                refine st rfl rfl (eff_assignO rfl rfl) rfl ?_
                refine st_nil ?_
                exact ⟨rfl, x7 ++ [IntKind.i64.wrap ((IntKind.i64.wrap (y10 - r14.fFrom)) + r15.fFrom)], ⟨rfl, rfl, rfl, rfl, rfl, trivial⟩, ⟨rfl, rfl, trivial⟩, rfl, ⟨(by first | omega | (dsimp only; omega) | (simp at *; done) | (simp at *; omega)), hR⟩, trivial⟩
              · replace h6 : (decide (IntKind.i64.wrap ((IntKind.i64.wrap (y10 - r14.fFrom)) + r15.fFrom) ≤ r16.fTo)) = false := h6
                replace hR := condF hR h6
                try simp only [Bool.or_eq_true, Bool.and_eq_true, Bool.or_eq_false_iff, Bool.and_eq_false_iff, Bool.not_eq_true', Bool.not_eq_false', decide_eq_true_eq, decide_eq_false_iff_not] at h6
                refine aw_skip ?_
                exact ⟨rfl, x7, ⟨rfl, rfl, rfl, rfl, rfl, trivial⟩, ⟨rfl, rfl, trivial⟩, rfl, ⟨(by first | omega | (dsimp only; omega) | (simp at *; done) | (simp at *; omega)), hR⟩, trivial⟩
            · rintro x13 ⟨jv1_0, hR⟩
              replace jv1_0 : x13.length ≤ k9 + 1 := jv1_0
              replace hR : s42_j1 (fun k_ z0_ => s42_l2 a1 x2 x3 t11 k_ z0_) k9 x13 = some R := hR
              unfold s42_j1 at hR
              refine aw_region [.p, .p, .p] ?_
              refine st rfl rfl (eff_moveg rfl rfl) rfl ?_
              refine st rfl rfl (eff_add rfl rfl rfl (by unfold I64; omega)) rfl ?_
              refine st rfl rfl (eff_assigng rfl rfl) rfl ?_
              refine st_nil ?_
              exact ⟨rfl, (k9 + 1, t11, x13), ⟨rfl, rfl, rfl, rfl, rfl, trivial⟩, ⟨rfl, rfl, trivial⟩, rfl, ⟨(by first | omega | (dsimp only; omega) | (simp at *; omega)), (by first | omega | (dsimp only; omega) | (simp at *; omega)), (by first | omega | (dsimp only; omega) | (simp at *; omega)), hd, hR⟩, by simp⟩
          · replace h4 : (decide (((k9 : Nat) : Int) < (List.length (s104 a0) : Int))) = false := h4
            obtain rfl := drop_nil hd (decF h4)
            rw [s42_l2] at hR
            refine aw_exit ?_
            refine aw_seq ?_
            obtain ⟨r12, br12, hR⟩ := bindO_inv hR
            refine aw_region [.p, .r, .p, .p] ?_
            refine st rfl rfl (eff_moveO rfl rfl) rfl ?_
            refine st_r rfl rfl (eff_callNO rfl K112 rfl (n112 x7 (by first | assumption | omega | (simp [copyL_len]; omega)) br12) (by decide) (pureL_flat fun _ => pureL_cons (pureL_cons (pureL_cons (pureL_nil)))) (agv_osl rfl rfl agv_nil)) rfl ?_
            refine st rfl rfl (eff_assigng rfl rfl) rfl ?_
            refine st rfl rfl (eff_assigng rfl rfl) rfl ?_
            refine st_nil ?_
            refine aw_ret ?_
            obtain rfl := Option.some.inj hR
            exact resN rfl ⟨rv_g rfl, rv_g rfl, trivial⟩ (by simp)
end Go.Sim

namespace Go.Sim
end Go.Sim

set_option linter.unusedSimpArgs false
set_option linter.unusedVariables false
set_option maxRecDepth 10000
namespace Go.Sim
open Go.Proofs


/-- turnroundlaw09.first -/
def s35 (a0 : List Int) : Int :=
  (s89 a0)
theorem c35 {g : List (Nat × List Value)} (a0 : List Int)    : Con (EG g) 35 [G.sl 1 (List.map cInt a0)] (G.int (s35 a0)) := by
  generalize hR : s35 a0 = R
  unfold s35 at hR
  refine con_of_aw Tryz.func35 rfl rfl fun w0 M0 => ?_
  refine len_sl (f := cInt) (l := a0) 0 rfl fun hla0 => ?_
  refine aw_seq ?_
  refine aw_region [.p] ?_
  refine st rfl rfl (eff_assigng rfl rfl) rfl ?_
  refine st_nil ?_
  refine aw_seq ?_
  refine aw_region [.p, .p, .p] ?_
  refine st rfl rfl (eff_moveg rfl rfl) rfl ?_
  refine st rfl rfl (eff_call rfl K89 rfl (c89 a0) (ag_cons rfl ag_nil)) rfl ?_
  refine st rfl rfl (eff_assigng rfl rfl) rfl ?_
  refine st_nil ?_
  refine aw_ret ?_
  subst hR
  exact res_c rfl (rv_g rfl)

end Go.Sim

namespace Go.Sim
theorem s89_zero {l : List Int} (h : s89 l = 0) : ∀ x ∈ l, x = 0 := s84_zero (by rw [s84_s89]; exact h)
theorem s90_zero {a b c : Int} (h : s90 a b c = 0) : b ≤ a ∧ a ≤ c := s85_zero h
end Go.Sim

namespace Go.Sim
/-! ## UseHistoric: what the walk asks of the checks -/
theorem per39 {a0 : S45} {a1 : S67} (h : s84 [s102 a0, s107 a1] = 0) : s102 a0 = 0 := s84_zero h _ (by simp)
theorem per6 {a0 : S45} {a1 : S67} (h : s35 [s40 a0, s41 a1] = 0) : s102 a0 = 0 ∧ 2000 ≤ a1.Year ∧ a1.Year ≤ 2272 := by
  unfold s35 at h
  have h1 := s89_zero h (s40 a0) (by simp)
  have h2 := s89_zero h (s41 a1) (by simp)
  refine ⟨by rw [period_eq]; exact h1, ?_⟩
  unfold s41 s41_j1 at h2
  cases hc : ((decide ((s90 a1.Year 2000 2272) = 0)) && (!decide (a1.Kind = (⟨#[83]⟩)))) && (!decide (a1.Kind = (⟨#[87]⟩)))
  · rw [hc, cond_false] at h2
    exact s90_zero h2
  · rw [hc, cond_true] at h2
    cases h2
end Go.Sim

set_option linter.unusedSimpArgs false
set_option linter.unusedVariables false
set_option maxRecDepth 10000
namespace Go.Sim
open Go.Proofs


/-- use.Historic -/
def s39 (a0 : S45) (a1 : S67) : Option ((List S45) × Int) :=
  (bif decide ((s84 [(s102 a0), (s107 a1)]) ≠ 0) then some ([], (s84 [(s102 a0), (s107 a1)])) else bindO (s108 a0 a1) fun r1 => some (r1.1, r1.2))
theorem c39 (a0 : S45) (a1 : S67) {R : (List S45) × Int}   (hR : s39 a0 a1 = some R) : Con (EG glT) 39 [G.agg [G.int a0.fFrom, G.int a0.fTo, G.int a0.Days], G.agg [G.int a1.Year, G.str a1.Kind]] (G.tup [G.sl 3 (List.map S45.c R.1), G.int R.2]) := by
  unfold s39 at hR
  refine con_of_aw Tryz.func39 rfl rfl fun w0 M0 => ?_
  refine aw_seq ?_
  refine aw_region [.p, .p, .p, .p] ?_
  refine st rfl rfl (eff_box rfl rfl) rfl ?_
  refine st rfl rfl (eff_box rfl rfl) rfl ?_
  refine st rfl rfl (eff_assigng rfl rfl) rfl ?_
  refine st rfl rfl (eff_assigng rfl rfl) rfl ?_
  refine st_nil ?_
  refine aw_seq ?_
  refine aw_seq ?_
  refine aw_draw [.p, .p, .p, .p, .p, .p, .p] (by kernel_rfl) ?_
  refine st rfl rfl (eff_loadA rfl ty46 rfl rfl rfl) rfl ?_
  refine st rfl rfl (eff_call rfl K102 rfl (c102 a0) (ag_cons rfl ag_nil)) rfl ?_
  refine st rfl rfl (eff_loadA rfl ty68 rfl rfl rfl) rfl ?_
  refine st rfl rfl (eff_call rfl K107 rfl (c107 a1) (ag_cons rfl ag_nil)) rfl ?_
  refine st rfl rfl (eff_buildSlice rfl Tryz.underlying170 ty37 z37 rfl (ps_cons rfl (ps_cons rfl ps_nil)) rfl (by simp []) (by decide)) rfl ?_
  refine st rfl rfl (eff_call rfl K84 rfl (c84 [(s102 a0), (s107 a1)]) (ag_cons rfl ag_nil)) rfl ?_
  refine st rfl rfl (eff_assigng rfl rfl) rfl ?_
  refine st_nil ?_
  refine aw_seq ?_
  refine aw_region [.p, .p] ?_
  refine st rfl rfl (eff_moveg rfl rfl) rfl ?_
  refine st rfl rfl (eff_neq rfl rfl rfl) rfl ?_
  refine st_nil ?_
  refine aw_cond _ rfl (fun h1 => ?_) (fun h1 => ?_)
  · replace h1 : (decide ((s84 [(s102 a0), (s107 a1)]) ≠ 0)) = true := h1
    replace hR := condT hR h1
    try simp only [Bool.or_eq_true, Bool.and_eq_true, Bool.or_eq_false_iff, Bool.and_eq_false_iff, Bool.not_eq_true', Bool.not_eq_false', decide_eq_true_eq, decide_eq_false_iff_not] at h1
    refine aw_seq ?_
    refine aw_region [.p, .p, .p] ?_
    refine st rfl rfl (eff_moveg rfl rfl) rfl ?_
    refine st rfl rfl (eff_assigng rfl rfl) rfl ?_
    refine st rfl rfl (eff_assigng rfl rfl) rfl ?_
    refine st_nil ?_
    refine aw_ret ?_
    obtain rfl := Option.some.inj hR
    exact resN rfl ⟨rv_nilG rfl (nil_sl _), rv_g rfl, trivial⟩ (by simp)
  · replace h1 : (decide ((s84 [(s102 a0), (s107 a1)]) ≠ 0)) = false := h1
    replace hR := condF hR h1
    try simp only [Bool.or_eq_true, Bool.and_eq_true, Bool.or_eq_false_iff, Bool.and_eq_false_iff, Bool.not_eq_true', Bool.not_eq_false', decide_eq_true_eq, decide_eq_false_iff_not] at h1
    have hp := per39 (Decidable.not_not.1 h1)
    refine aw_skip ?_
    refine aw_seq ?_
    obtain ⟨r1, br1, hR⟩ := bindO_inv hR
    refine aw_region [.p, .p, .p, .p, .p, .p, .p] ?_
    refine st rfl rfl (eff_loadA rfl ty46 rfl rfl rfl) rfl ?_
    refine st rfl rfl (eff_loadA rfl ty68 rfl rfl rfl) rfl ?_
    refine st rfl rfl (eff_call rfl K108 rfl (c108 a0 a1 (by first | assumption | omega | (simp [copyL_len]; omega)) br1) (ag_cons rfl (ag_cons rfl ag_nil))) rfl ?_
    refine st rfl rfl (eff_extract rfl rfl rfl) rfl ?_
    refine st rfl rfl (eff_extract rfl rfl rfl) rfl ?_
    refine st rfl rfl (eff_assigng rfl rfl) rfl ?_
    refine st rfl rfl (eff_assigng rfl rfl) rfl ?_
    refine st_nil ?_
    refine aw_ret ?_
    obtain rfl := Option.some.inj hR
    exact resN rfl ⟨rv_g rfl, rv_g rfl, trivial⟩ (by simp)

/-- turnroundlaw09.UseHistoric -/
def s6_j1 (r1 : (List S45) × Int) (x2 : Int) (x3 : List S45) : Option Bool :=
  bindO (s43 r1.1 x3) fun r4 => some (r4 && (decide (r1.2 = x2)))
noncomputable def s6 (a0 : S45) (a1 : S67) : Option Bool :=
  (bif (!s16) || (decide (60 < (ByteArray.size a1.Kind : Int))) then some s16 else bindO (s39 a0 a1) fun r1 => (bif decide ((s35 [(s40 a0), (s41 a1)]) = 0) then bindO (s42 a0 a1) fun r5 => s6_j1 r1 r5.2 r5.1 else s6_j1 r1 (s35 [(s40 a0), (s41 a1)]) []))
theorem c6 (a0 : S45) (a1 : S67) {R : Bool}   (hR : s6 a0 a1 = some R) : Con (EG glT) 6 [G.agg [G.int a0.fFrom, G.int a0.fTo, G.int a0.Days], G.agg [G.int a1.Year, G.str a1.Kind]] (G.bool R) := by
  unfold s6 at hR
  refine con_of_aw Tryz.func6 rfl rfl fun w0 M0 => ?_
  refine aw_seq ?_
  refine aw_region [.p, .p, .p] ?_
  refine st rfl rfl (eff_box rfl rfl) rfl ?_
  refine st rfl rfl (eff_box rfl rfl) rfl ?_
  refine st rfl rfl (eff_assigng rfl rfl) rfl ?_
  refine st_nil ?_
  refine aw_seq ?_
  refine aw_seq ?_
  refine aw_region [.p, .p, .p, .p, .p, .p, .p, .p] ?_
  refine st rfl rfl (eff_call rfl K16 rfl (c16) ag_nil) rfl ?_
  refine st rfl rfl (eff_not rfl rfl) rfl ?_
  refine st rfl rfl (eff_moveg rfl rfl) rfl ?_
  refine st_g rfl rfl rfl (gb_bool _ _) (fun h => eff_fieldAddr rfl fl68_1 rfl) rfl ?_
  refine st_g rfl rfl rfl (gb_bool _ _) (fun h => eff_load rfl ty9 (gd h rfl)) rfl ?_
  refine st_g rfl rfl rfl (gb_bool _ _) (fun h => eff_lenS rfl Tryz.underlying9 (gd h rfl)) rfl ?_
  refine st_g rfl rfl rfl (gb_bool _ _) (fun h => eff_gtr rfl (gd h rfl) rfl) rfl ?_
  refine st rfl rfl (eff_or rfl rfl rfl rfl) rfl ?_
  refine st_nil ?_
  refine aw_cond _ rfl (fun h1 => ?_) (fun h1 => ?_)
  · replace h1 : ((!s16) || (decide (60 < (ByteArray.size a1.Kind : Int)))) = true := h1
    replace hR := condT hR h1
    try simp only [Bool.or_eq_true, Bool.and_eq_true, Bool.or_eq_false_iff, Bool.and_eq_false_iff, Bool.not_eq_true', Bool.not_eq_false', decide_eq_true_eq, decide_eq_false_iff_not] at h1
    refine aw_seq ?_
    refine aw_region [.p, .p] ?_
    refine st rfl rfl (eff_call rfl K16 rfl (c16) ag_nil) rfl ?_
    refine st rfl rfl (eff_assigng rfl rfl) rfl ?_
    refine st_nil ?_
    refine aw_ret ?_
    obtain rfl := Option.some.inj hR
    exact res_c rfl (rv_g rfl)
  · replace h1 : ((!s16) || (decide (60 < (ByteArray.size a1.Kind : Int)))) = false := h1
    replace hR := condF hR h1
    try simp only [Bool.or_eq_true, Bool.and_eq_true, Bool.or_eq_false_iff, Bool.and_eq_false_iff, Bool.not_eq_true', Bool.not_eq_false', decide_eq_true_eq, decide_eq_false_iff_not] at h1
    refine aw_skip ?_
    refine aw_seq ?_
    obtain ⟨r1, br1, hR⟩ := bindO_inv hR
    refine aw_region [.p, .p, .p, .p, .p, .p, .p, .p] ?_
    refine st rfl rfl (eff_loadA rfl ty46 rfl rfl rfl) rfl ?_
    refine st rfl rfl (eff_loadA rfl ty68 rfl rfl rfl) rfl ?_
    refine st rfl rfl (eff_call rfl K39 rfl (c39 a0 a1 br1) (ag_cons rfl (ag_cons rfl ag_nil))) rfl ?_
    refine st rfl rfl (eff_moveg rfl rfl) rfl ?_
    refine st rfl rfl (eff_extract rfl rfl rfl) rfl ?_
    refine st rfl rfl (eff_extract rfl rfl rfl) rfl ?_
    refine st rfl rfl (eff_assigng rfl rfl) rfl ?_
    refine st rfl rfl (eff_assigng rfl rfl) rfl ?_
    refine st_nil ?_
    refine aw_seq ?_
    refine aw_draw [.p, .p, .p, .p, .p, .p, .p] (by kernel_rfl) ?_
    refine st rfl rfl (eff_loadA rfl ty46 rfl rfl rfl) rfl ?_
    refine st rfl rfl (eff_call rfl K40 rfl (c40 a0) (ag_cons rfl ag_nil)) rfl ?_
    refine st rfl rfl (eff_loadA rfl ty68 rfl rfl rfl) rfl ?_
    refine st rfl rfl (eff_call rfl K41 rfl (c41 a1) (ag_cons rfl ag_nil)) rfl ?_
    refine st rfl rfl (eff_buildSlice rfl Tryz.underlying82 ty3 z3 rfl (ps_cons rfl (ps_cons rfl ps_nil)) rfl (by simp []) (by decide)) rfl ?_
    refine st rfl rfl (eff_call rfl K35 rfl (c35 [(s40 a0), (s41 a1)]) (ag_cons rfl ag_nil)) rfl ?_
    refine st rfl rfl (eff_assigng rfl rfl) rfl ?_
    refine st_nil ?_
    refine aw_seq ?_
    refine aw_region [.p] ?_
    refine st rfl rfl (eff_nilS 3 rfl rfl) rfl ?_
    refine st_nil ?_
    refine aw_cut_g (γ := Int × (List S45)) (fun g => ([(5, .g (G.sl 3 (List.map S45.c r1.1))), (6, .g (G.int r1.2)), (7, .g (G.int g.1)), (8, .g (G.sl 3 (List.map S45.c g.2)))], [])) (fun g => s6_j1 r1 g.1 g.2 = some R) ?_ ?_
    · refine aw_seq ?_
      refine aw_region [.p, .p] ?_
      refine st rfl rfl (eff_moveg rfl rfl) rfl ?_
      refine st rfl rfl (eff_eql rfl rfl rfl) rfl ?_
      refine st_nil ?_
      refine aw_cond _ rfl (fun h2 => ?_) (fun h2 => ?_)
      · replace h2 : (decide ((s35 [(s40 a0), (s41 a1)]) = 0)) = true := h2
        replace hR := condT hR h2
        try simp only [Bool.or_eq_true, Bool.and_eq_true, Bool.or_eq_false_iff, Bool.and_eq_false_iff, Bool.not_eq_true', Bool.not_eq_false', decide_eq_true_eq, decide_eq_false_iff_not] at h2
        obtain ⟨hp, hy1, hy2⟩ := per6 h2
        obtain ⟨r5, br5, hR⟩ := bindO_inv hR
        refine aw_region [.p, .p, .p, .p, .p, .p, .p, .p] ?_
        refine st rfl rfl (eff_loadA rfl ty46 rfl rfl rfl) rfl ?_
        refine st rfl rfl (eff_loadA rfl ty68 rfl rfl rfl) rfl ?_
        refine st rfl rfl (eff_call rfl K42 rfl (c42 a0 a1 (by first | assumption | omega | (simp [copyL_len]; omega)) (by first | assumption | omega | (simp [copyL_len]; omega)) (by first | assumption | omega | (simp [copyL_len]; omega)) br5) (ag_cons rfl (ag_cons rfl ag_nil))) rfl ?_
        refine st rfl rfl (eff_moveg rfl rfl) rfl ?_
        refine st rfl rfl (eff_extract rfl rfl rfl) rfl ?_
        refine st rfl rfl (eff_extract rfl rfl rfl) rfl ?_
        refine st rfl rfl (eff_assigng rfl rfl) rfl ?_
        refine st rfl rfl (eff_assigng rfl rfl) rfl ?_
        refine st_nil ?_
        exact ⟨rfl, (r5.2, r5.1), ⟨rfl, rfl, rfl, rfl, trivial⟩, trivial, rfl, hR, trivial⟩
      · replace h2 : (decide ((s35 [(s40 a0), (s41 a1)]) = 0)) = false := h2
        replace hR := condF hR h2
        try simp only [Bool.or_eq_true, Bool.and_eq_true, Bool.or_eq_false_iff, Bool.and_eq_false_iff, Bool.not_eq_true', Bool.not_eq_false', decide_eq_true_eq, decide_eq_false_iff_not] at h2
        refine aw_skip ?_
        exact ⟨rfl, ((s35 [(s40 a0), (s41 a1)]), []), ⟨rfl, rfl, rfl, rfl, trivial⟩, trivial, rfl, hR, trivial⟩
    · rintro ⟨x2, x3⟩ hR
      replace hR : s6_j1 r1 x2 x3 = some R := hR
      unfold s6_j1 at hR
      refine aw_seq ?_
      obtain ⟨r4, br4, hR⟩ := bindO_inv hR
      refine aw_region [.p, .p, .p, .p, .p, .p, .p, .p, .p] ?_
      refine st rfl rfl (eff_moveg rfl rfl) rfl ?_
      refine st rfl rfl (eff_moveg rfl rfl) rfl ?_
      refine st rfl rfl (eff_call rfl K43 rfl (c43 r1.1 x3 br4) (ag_cons rfl (ag_cons rfl ag_nil))) rfl ?_
      refine st rfl rfl (eff_moveg rfl rfl) rfl ?_
      refine st_g rfl rfl rfl (gb_bool _ _) (fun h => eff_moveg rfl rfl) rfl ?_
      refine st_g rfl rfl rfl (gb_bool _ _) (fun h => eff_moveg rfl rfl) rfl ?_
      refine st_g rfl rfl rfl (gb_bool _ _) (fun h => eff_eql rfl (gd h rfl) (gd h rfl)) rfl ?_
      refine st rfl rfl (eff_and rfl rfl rfl rfl) rfl ?_
      refine st rfl rfl (eff_assigng rfl rfl) rfl ?_
      refine st_nil ?_
      refine aw_ret ?_
      obtain rfl := Option.some.inj hR
      exact res_c rfl (rv_g rfl)
end Go.Sim

