/-
  What is proved: the walk of the states: the reference, and UseStatus.
-/
import Derived.Test.YtdfgeoefbbkcnaaGreatDoorVaA6
import Derived.Test.YtdfgeoefbbkcnaaGreatDoorVaA9
import Derived.Test.YtdfgeoefbbkcnaaGreatDoorVsF6
set_option linter.unusedSectionVars false
set_option linter.unusedSimpArgs false
set_option linter.unusedVariables false
set_option linter.unnecessarySimpa false
set_option linter.deprecated false
set_option linter.unusedSimpArgs false
set_option linter.unusedVariables false
set_option maxRecDepth 10000
namespace Go.Sim
open Go.Proofs


/-- turnroundref01.CheckPeriod -/
def s40 (a0 : S45) : Int :=
  (bif (decide ((s109 a0.fFrom) ≠ 0)) || (decide ((s109 a0.fTo) ≠ 0)) then 3 else (bif decide (a0.fTo < a0.fFrom) then 11 else (bif decide (400 < IntKind.i64.wrap (a0.fTo - a0.fFrom)) then 4 else (s90 a0.Days 1 127))))
theorem c40 {g : List (Nat × List Value)} (a0 : S45)    : Con (EG g) 40 [G.agg [G.int a0.fFrom, G.int a0.fTo, G.int a0.Days]] (G.int (s40 a0)) := by
  generalize hR : s40 a0 = R
  unfold s40 at hR
  refine con_of_aw Tryz.func40 rfl rfl fun w0 M0 => ?_
  refine aw_seq ?_
  refine aw_region [.p, .p] ?_
  refine st rfl rfl (eff_box rfl rfl) rfl ?_
  refine st rfl rfl (eff_assigng rfl rfl) rfl ?_
  refine st_nil ?_
  refine aw_seq ?_
  refine aw_seq ?_
  refine aw_region [.p, .p, .p, .p, .p, .p, .p, .p, .p, .p] ?_
  refine st rfl rfl (eff_fieldAddr rfl fl46_0 rfl) rfl ?_
  refine st rfl rfl (eff_load rfl ty3 rfl) rfl ?_
  refine st rfl rfl (eff_call rfl K109 rfl (c109 a0.fFrom) (ag_cons rfl ag_nil)) rfl ?_
  refine st rfl rfl (eff_neq rfl rfl rfl) rfl ?_
  refine st rfl rfl (eff_moveg rfl rfl) rfl ?_
  refine st_g rfl rfl rfl (gb_bool _ _) (fun h => eff_fieldAddr rfl fl46_1 rfl) rfl ?_
  refine st_g rfl rfl rfl (gb_bool _ _) (fun h => eff_load rfl ty3 (gd h rfl)) rfl ?_
  refine st_g rfl rfl rfl (gb_bool _ _) (fun h => eff_call rfl K109 rfl (c109 a0.fTo) (ag_cons (gd h rfl) ag_nil)) rfl ?_
  refine st_g rfl rfl rfl (gb_bool _ _) (fun h => eff_neq rfl (gd h rfl) rfl) rfl ?_
  refine st rfl rfl (eff_or rfl rfl rfl rfl) rfl ?_
  refine st_nil ?_
  refine aw_cond _ rfl (fun h1 => ?_) (fun h1 => ?_)
  · replace h1 : ((decide ((s109 a0.fFrom) ≠ 0)) || (decide ((s109 a0.fTo) ≠ 0))) = true := h1
    replace hR := condT hR h1
    try simp only [Bool.or_eq_true, Bool.and_eq_true, Bool.or_eq_false_iff, Bool.and_eq_false_iff, Bool.not_eq_true', Bool.not_eq_false', decide_eq_true_eq, decide_eq_false_iff_not] at h1
    refine aw_seq ?_
    refine aw_region [.p] ?_
    refine st rfl rfl (eff_assigng rfl rfl) rfl ?_
    refine st_nil ?_
    refine aw_ret ?_
    subst hR
    exact res_c rfl (rv_g rfl)
  · replace h1 : ((decide ((s109 a0.fFrom) ≠ 0)) || (decide ((s109 a0.fTo) ≠ 0))) = false := h1
    replace hR := condF hR h1
    try simp only [Bool.or_eq_true, Bool.and_eq_true, Bool.or_eq_false_iff, Bool.and_eq_false_iff, Bool.not_eq_true', Bool.not_eq_false', decide_eq_true_eq, decide_eq_false_iff_not] at h1
    refine aw_skip ?_
    refine aw_seq ?_
    refine aw_seq ?_
    refine aw_region [.p, .p, .p, .p, .p] ?_
    refine st rfl rfl (eff_fieldAddr rfl fl46_1 rfl) rfl ?_
    refine st rfl rfl (eff_load rfl ty3 rfl) rfl ?_
    refine st rfl rfl (eff_fieldAddr rfl fl46_0 rfl) rfl ?_
    refine st rfl rfl (eff_load rfl ty3 rfl) rfl ?_
    refine st rfl rfl (eff_lss rfl rfl rfl) rfl ?_
    refine st_nil ?_
    refine aw_cond _ rfl (fun h2 => ?_) (fun h2 => ?_)
    · replace h2 : (decide (a0.fTo < a0.fFrom)) = true := h2
      replace hR := condT hR h2
      try simp only [Bool.or_eq_true, Bool.and_eq_true, Bool.or_eq_false_iff, Bool.and_eq_false_iff, Bool.not_eq_true', Bool.not_eq_false', decide_eq_true_eq, decide_eq_false_iff_not] at h2
      refine aw_seq ?_
      refine aw_region [.p] ?_
      refine st rfl rfl (eff_assigng rfl rfl) rfl ?_
      refine st_nil ?_
      refine aw_ret ?_
      subst hR
      exact res_c rfl (rv_g rfl)
    · replace h2 : (decide (a0.fTo < a0.fFrom)) = false := h2
      replace hR := condF hR h2
      try simp only [Bool.or_eq_true, Bool.and_eq_true, Bool.or_eq_false_iff, Bool.and_eq_false_iff, Bool.not_eq_true', Bool.not_eq_false', decide_eq_true_eq, decide_eq_false_iff_not] at h2
      refine aw_skip ?_
      refine aw_seq ?_
      refine aw_seq ?_
      refine aw_region [.p, .p, .p, .p, .p, .p] ?_
      refine st rfl rfl (eff_fieldAddr rfl fl46_1 rfl) rfl ?_
      refine st rfl rfl (eff_load rfl ty3 rfl) rfl ?_
      refine st rfl rfl (eff_fieldAddr rfl fl46_0 rfl) rfl ?_
      refine st rfl rfl (eff_load rfl ty3 rfl) rfl ?_
      refine st rfl rfl (eff_subw rfl rfl rfl) rfl ?_
      refine st rfl rfl (eff_gtr rfl rfl rfl) rfl ?_
      refine st_nil ?_
      refine aw_cond _ rfl (fun h3 => ?_) (fun h3 => ?_)
      · replace h3 : (decide (400 < IntKind.i64.wrap (a0.fTo - a0.fFrom))) = true := h3
        replace hR := condT hR h3
        try simp only [Bool.or_eq_true, Bool.and_eq_true, Bool.or_eq_false_iff, Bool.and_eq_false_iff, Bool.not_eq_true', Bool.not_eq_false', decide_eq_true_eq, decide_eq_false_iff_not] at h3
        refine aw_seq ?_
        refine aw_region [.p] ?_
        refine st rfl rfl (eff_assigng rfl rfl) rfl ?_
        refine st_nil ?_
        refine aw_ret ?_
        subst hR
        exact res_c rfl (rv_g rfl)
      · replace h3 : (decide (400 < IntKind.i64.wrap (a0.fTo - a0.fFrom))) = false := h3
        replace hR := condF hR h3
        try simp only [Bool.or_eq_true, Bool.and_eq_true, Bool.or_eq_false_iff, Bool.and_eq_false_iff, Bool.not_eq_true', Bool.not_eq_false', decide_eq_true_eq, decide_eq_false_iff_not] at h3
        refine aw_skip ?_
        refine aw_seq ?_
        refine aw_region [.p, .p, .p, .p] ?_
        refine st rfl rfl (eff_fieldAddr rfl fl46_2 rfl) rfl ?_
        refine st rfl rfl (eff_load rfl ty3 rfl) rfl ?_
        refine st rfl rfl (eff_call rfl K90 rfl (c90 a0.Days 1 127) (ag_cons rfl (ag_cons rfl (ag_cons rfl ag_nil)))) rfl ?_
        refine st rfl rfl (eff_assigng rfl rfl) rfl ?_
        refine st_nil ?_
        refine aw_ret ?_
        subst hR
        exact res_c rfl (rv_g rfl)

/-- turnroundref01.Weekday -/
def s180 (a0 : Int) : Int :=
  Int.tmod (IntKind.i64.wrap (a0 + 5)) 7
theorem c180 {g : List (Nat × List Value)} (a0 : Int)    : Con (EG g) 180 [G.int a0] (G.int (s180 a0)) := by
  generalize hR : s180 a0 = R
  unfold s180 at hR
  refine con_of_aw Tryz.func180 rfl rfl fun w0 M0 => ?_
  refine aw_seq ?_
  refine aw_region [.p] ?_
  refine st rfl rfl (eff_assigng rfl rfl) rfl ?_
  refine st_nil ?_
  refine aw_seq ?_
  refine aw_region [.p, .p, .p, .p] ?_
  refine st rfl rfl (eff_moveg rfl rfl) rfl ?_
  refine st rfl rfl (eff_addw rfl rfl rfl) rfl ?_
  refine st rfl rfl (eff_remt rfl rfl rfl (by decide)) rfl ?_
  refine st rfl rfl (eff_assigng rfl rfl) rfl ?_
  refine st_nil ?_
  refine aw_ret ?_
  subst hR
  exact res_c rfl (rv_g rfl)
end Go.Sim

namespace Go.Sim
theorem s180_le (x : Int) : s180 x ≤ 7 := by
  unfold s180
  generalize IntKind.i64.wrap (x + 5) = y
  have := Int.tmod_lt_of_pos y (show (0 : Int) < 7 by decide)
  omega
end Go.Sim

set_option linter.unusedSimpArgs false
set_option linter.unusedVariables false
set_option maxRecDepth 10000
namespace Go.Sim
open Go.Proofs


/-- turnroundref01.InMask -/
def s192_l1  : Nat → Int → Int → Bool
  | 0, x1, x2 => decide (Int.tmod x1 2 = 1)
  | k4 + 1, x1, x2 => s192_l1 k4 (IntKind.i64.wrap (Int.tdiv x1 2)) (x2 + 1)
def s192 (a0 : Int) (a1 : Int) : Bool :=
  s192_l1 ((a1 - 0).toNat) a0 0
theorem c192 {g : List (Nat × List Value)} (a0 : Int) (a1 : Int)  (hw : a1 ≤ 7)  : Con (EG g) 192 [G.int a0, G.int a1] (G.bool (s192 a0 a1)) := by
  generalize hR : s192 a0 a1 = R
  unfold s192 at hR
  refine con_of_aw Tryz.func192 rfl rfl fun w0 M0 => ?_
  refine aw_seq ?_
  refine aw_region [.p] ?_
  refine st rfl rfl (eff_assigng rfl rfl) rfl ?_
  refine st_nil ?_
  refine aw_seq ?_
  refine aw_seq ?_
  refine aw_region [.p] ?_
  refine st rfl rfl (eff_assigng rfl rfl) rfl ?_
  refine st_nil ?_
  refine aw_block ?_
  refine aw_loop_g (γ := Nat × Int × Int) (fun g => ([(0, .g (G.int g.2.1)), (1, .g (G.int a1)), (5, .g (G.int g.2.2))], [])) (fun g => g.1 = (a1 - g.2.2).toNat ∧ 0 ≤ g.2.2 ∧ s192_l1 g.1 g.2.1 g.2.2 = R) (fun g => g.1) ⟨rfl, ((a1 - 0).toNat, a0, 0), ⟨rfl, rfl, rfl, trivial⟩, trivial, rfl, ⟨rfl, (by first | omega | (dsimp only; omega) | simp), hR⟩, trivial⟩ ?_
  · rintro ⟨k4, x1, x2⟩ ⟨hk1, iv1_0, hR⟩
    replace hk1 : k4 = (a1 - x2).toNat := hk1
    replace hR : s192_l1 k4 x1 x2 = R := hR
    replace iv1_0 : 0 ≤ x2 := iv1_0
    refine aw_seq ?_
    refine aw_seq ?_
    refine aw_region [.p, .p, .p] ?_
    refine st rfl rfl (eff_moveg rfl rfl) rfl ?_
    refine st rfl rfl (eff_moveg rfl rfl) rfl ?_
    refine st rfl rfl (eff_lss rfl rfl rfl) rfl ?_
    refine st_nil ?_
    refine aw_cond _ rfl (fun h1 => ?_) (fun h1 => ?_)
    · replace h1 : (decide (x2 < a1)) = true := h1
      replace h1 := decT h1
      obtain ⟨k4, rfl⟩ : ∃ m, k4 = m + 1 := ⟨k4 - 1, by omega⟩
      rw [s192_l1] at hR
      try dsimp only at hR
      refine aw_skip ?_
      refine aw_seq ?_
      refine aw_block ?_
      refine aw_region [.p, .p, .p] ?_
      refine st rfl rfl (eff_moveg rfl rfl) rfl ?_
      refine st rfl rfl (eff_quow rfl rfl rfl (by decide)) rfl ?_
      refine st rfl rfl (eff_assigng rfl rfl) rfl ?_
      refine st_nil ?_
      refine aw_region [.p, .p, .p] ?_
      refine st rfl rfl (eff_moveg rfl rfl) rfl ?_
      refine st rfl rfl (eff_add rfl rfl rfl (by (try dsimp only); unfold I64; omega)) rfl ?_
      refine st rfl rfl (eff_assigng rfl rfl) rfl ?_
      refine st_nil ?_
      exact ⟨rfl, (k4, IntKind.i64.wrap (Int.tdiv x1 2), x2 + 1), ⟨rfl, rfl, rfl, trivial⟩, trivial, rfl, ⟨(by first | omega | (dsimp only; omega) | (simp at *; omega)), (by first | omega | (dsimp only; omega) | (simp at *; omega)), hR⟩, by simp⟩
    · replace h1 : (decide (x2 < a1)) = false := h1
      replace h1 := decF h1
      obtain rfl : k4 = 0 := by omega
      rw [s192_l1] at hR
      refine aw_exit ?_
      refine aw_seq ?_
      refine aw_region [.p, .p, .p, .p] ?_
      refine st rfl rfl (eff_moveg rfl rfl) rfl ?_
      refine st rfl rfl (eff_remt rfl rfl rfl (by decide)) rfl ?_
      refine st rfl rfl (eff_eql rfl rfl rfl) rfl ?_
      refine st rfl rfl (eff_assigng rfl rfl) rfl ?_
      refine st_nil ?_
      refine aw_ret ?_
      subst hR
      exact res_c rfl (rv_g rfl)

/-- turnroundref01.Has -/
def s157 (a0 : S45) (a1 : Int) : Bool :=
  ((decide (a0.fFrom ≤ a1)) && (decide (a1 ≤ a0.fTo))) && (s192 a0.Days (s180 a1))
theorem c157 {g : List (Nat × List Value)} (a0 : S45) (a1 : Int)    : Con (EG g) 157 [G.agg [G.int a0.fFrom, G.int a0.fTo, G.int a0.Days], G.int a1] (G.bool (s157 a0 a1)) := by
  generalize hR : s157 a0 a1 = R
  unfold s157 at hR
  refine con_of_aw Tryz.func157 rfl rfl fun w0 M0 => ?_
  refine aw_seq ?_
  refine aw_region [.p, .p] ?_
  refine st rfl rfl (eff_box rfl rfl) rfl ?_
  refine st rfl rfl (eff_assigng rfl rfl) rfl ?_
  refine st_nil ?_
  refine aw_seq ?_
  refine aw_draw [.p, .p, .p, .p, .p, .p, .p, .p, .p, .p, .p, .p, .p, .p, .p, .p, .p, .p] (by kernel_rfl) ?_
  refine st rfl rfl (eff_moveg rfl rfl) rfl ?_
  refine st rfl rfl (eff_fieldAddr rfl fl46_0 rfl) rfl ?_
  refine st rfl rfl (eff_load rfl ty3 rfl) rfl ?_
  refine st rfl rfl (eff_geq rfl rfl rfl) rfl ?_
  refine st rfl rfl (eff_moveg rfl rfl) rfl ?_
  refine st_g rfl rfl rfl (gb_bool _ _) (fun h => eff_moveg rfl rfl) rfl ?_
  refine st_g rfl rfl rfl (gb_bool _ _) (fun h => eff_fieldAddr rfl fl46_1 rfl) rfl ?_
  refine st_g rfl rfl rfl (gb_bool _ _) (fun h => eff_load rfl ty3 (gd h rfl)) rfl ?_
  refine st_g rfl rfl rfl (gb_bool _ _) (fun h => eff_leq rfl (gd h rfl) (gd h rfl)) rfl ?_
  refine st rfl rfl (eff_and rfl rfl rfl rfl) rfl ?_
  refine st rfl rfl (eff_moveg rfl rfl) rfl ?_
  refine st_g rfl rfl rfl (gb_bool _ _) (fun h => eff_fieldAddr rfl fl46_2 rfl) rfl ?_
  refine st_g rfl rfl rfl (gb_bool _ _) (fun h => eff_load rfl ty3 (gd h rfl)) rfl ?_
  refine st_g rfl rfl rfl (gb_bool _ _) (fun h => eff_moveg rfl rfl) rfl ?_
  refine st_g rfl rfl rfl (gb_bool _ _) (fun h => eff_call rfl K180 rfl (c180 a1) (ag_cons (gd h rfl) ag_nil)) rfl ?_
  refine st_g rfl rfl rfl (gb_bool _ _) (fun h => eff_call rfl K192 rfl (c192 a0.Days (s180 a1) (s180_le _)) (ag_cons (gd h rfl) (ag_cons (gd h rfl) ag_nil))) rfl ?_
  refine st rfl rfl (eff_and rfl rfl rfl rfl) rfl ?_
  refine st rfl rfl (eff_assigng rfl rfl) rfl ?_
  refine st_nil ?_
  refine aw_ret ?_
  subst hR
  exact res_c rfl (rv_g rfl)

/-- turnroundref01.DaysOf -/
def s104_j1 (rec1 : (List Int) → Int → List Int) (x2 : Int) (x4 : List Int) : List Int :=
  rec1 x4 (x2 + 1)
def s104_l1 (a0 : S45) : Nat → (List Int) → Int → List Int
  | 0, x1, x2 => x1
  | k3 + 1, x1, x2 => (bif (s157 a0 x2) then s104_j1 (fun z0_ z1_ => s104_l1 a0 k3 z0_ z1_) x2 (x1 ++ [x2]) else s104_j1 (fun z0_ z1_ => s104_l1 a0 k3 z0_ z1_) x2 x1)
def s104 (a0 : S45) : List Int :=
  s104_l1 a0 (((a0.fTo + 1) - a0.fFrom).toNat) [] a0.fFrom
theorem c104 {g : List (Nat × List Value)} (a0 : S45)  (hp0 : 0 ≤ a0.fFrom) (hp1 : a0.fTo ≤ 1000000)  : Con (EG g) 104 [G.agg [G.int a0.fFrom, G.int a0.fTo, G.int a0.Days]] (G.sl 1 (List.map cInt (s104 a0))) := by
  generalize hR : s104 a0 = R
  unfold s104 at hR
  refine con_of_aw Tryz.func104 rfl rfl fun w0 M0 => ?_
  refine aw_seq ?_
  refine aw_region [.p, .w] ?_
  refine st rfl rfl (eff_box rfl rfl) rfl ?_
  refine st_w rfl rfl (eff_nilL 2 3 1 rfl rfl rfl) rfl ?_
  refine st_nil ?_
  refine aw_seq ?_
  refine aw_region [.w] ?_
  refine st_w rfl rfl (eff_nilL 3 3 1 rfl rfl rfl) rfl ?_
  refine st_nil ?_
  refine aw_seq ?_
  refine aw_seq ?_
  refine aw_region [.p, .p, .p] ?_
  refine st rfl rfl (eff_fieldAddr rfl fl46_0 rfl) rfl ?_
  refine st rfl rfl (eff_load rfl ty3 rfl) rfl ?_
  refine st rfl rfl (eff_assigng rfl rfl) rfl ?_
  refine st_nil ?_
  refine aw_block ?_
  refine aw_loop_g (γ := Nat × (List Int) × Int) (fun g => ([(1, .g (G.ref [G.int a0.fFrom, G.int a0.fTo, G.int a0.Days])), (3, .osl 3 1 0 (List.length g.2.1)), (4, .g (G.int g.2.2))], [(3, .arr 3 1 (List.map cInt g.2.1))])) (fun g => g.1 = ((a0.fTo + 1) - g.2.2).toNat ∧ a0.fFrom ≤ g.2.2 ∧ g.2.1.length ≤ (g.2.2 - a0.fFrom).toNat ∧ s104_l1 a0 g.1 g.2.1 g.2.2 = R) (fun g => g.1) ⟨rfl, (((a0.fTo + 1) - a0.fFrom).toNat, [], a0.fFrom), ⟨rfl, rfl, rfl, trivial⟩, ⟨rfl, trivial⟩, rfl, ⟨rfl, (by first | omega | (dsimp only; omega) | simp), (by first | omega | (dsimp only; omega) | simp), hR⟩, trivial⟩ ?_
  · rintro ⟨k3, x1, x2⟩ ⟨hk1, iv1_0, iv1_1, hR⟩
    replace hk1 : k3 = ((a0.fTo + 1) - x2).toNat := hk1
    replace hR : s104_l1 a0 k3 x1 x2 = R := hR
    replace iv1_0 : a0.fFrom ≤ x2 := iv1_0
    replace iv1_1 : x1.length ≤ (x2 - a0.fFrom).toNat := iv1_1
    refine aw_seq ?_
    refine aw_seq ?_
    refine aw_region [.p, .p, .p, .p] ?_
    refine st rfl rfl (eff_moveg rfl rfl) rfl ?_
    refine st rfl rfl (eff_fieldAddr rfl fl46_1 rfl) rfl ?_
    refine st rfl rfl (eff_load rfl ty3 rfl) rfl ?_
    refine st rfl rfl (eff_leq rfl rfl rfl) rfl ?_
    refine st_nil ?_
    refine aw_cond _ rfl (fun h1 => ?_) (fun h1 => ?_)
    · replace h1 : (decide (x2 ≤ a0.fTo)) = true := h1
      replace h1 := decT h1
      obtain ⟨k3, rfl⟩ : ∃ m, k3 = m + 1 := ⟨k3 - 1, by omega⟩
      rw [s104_l1] at hR
      try dsimp only at hR
      refine aw_skip ?_
      refine aw_cut_g (γ := (List Int)) (fun g => ([(1, .g (G.ref [G.int a0.fFrom, G.int a0.fTo, G.int a0.Days])), (3, .osl 3 1 0 (List.length g)), (4, .g (G.int x2))], [(3, .arr 3 1 (List.map cInt g))])) (fun g => g.length ≤ (x2 + 1 - a0.fFrom).toNat ∧ s104_j1 (fun z0_ z1_ => s104_l1 a0 k3 z0_ z1_) x2 g = R) ?_ ?_
      · refine aw_block ?_
        refine aw_seq ?_
        refine aw_region [.p, .p, .p] ?_
        refine st rfl rfl (eff_loadA rfl ty46 rfl rfl rfl) rfl ?_
        refine st rfl rfl (eff_moveg rfl rfl) rfl ?_
        refine st rfl rfl (eff_call rfl K157 rfl (c157 a0 x2) (ag_cons rfl (ag_cons rfl ag_nil))) rfl ?_
        refine st_nil ?_
        refine aw_cond _ rfl (fun h3 => ?_) (fun h3 => ?_)
        · replace h3 : ((s157 a0 x2)) = true := h3
          replace hR := condT hR h3
          try simp only [Bool.or_eq_true, Bool.and_eq_true, Bool.or_eq_false_iff, Bool.and_eq_false_iff, Bool.not_eq_true', Bool.not_eq_false', decide_eq_true_eq, decide_eq_false_iff_not] at h3
          refine aw_region [.p, .p, .p, .k, .p] ?_
          refine st rfl rfl (eff_moveO rfl rfl) rfl ?_
          refine st rfl rfl (eff_moveg rfl rfl) rfl ?_
          refine st rfl rfl (eff_buildSlice rfl Tryz.underlying82 ty3 z3 rfl (ps_cons rfl ps_nil) rfl (by simp []) (by decide)) rfl ?_
          refine st_k rfl rfl (eff_appL (f := cInt) (out := x1) (new := [x2]) rfl app82 rfl rfl (src_eq rfl (src_sl (by decide) (by simp []))) (refsN rfl) (by simp; omega)) rfl ?_
          refine st rfl rfl (eff_assignO rfl rfl) rfl ?_
          refine st_nil ?_
          exact ⟨rfl, x1 ++ [x2], ⟨rfl, rfl, rfl, trivial⟩, ⟨rfl, trivial⟩, rfl, ⟨(by first | omega | (dsimp only; omega) | (simp at *; omega)), hR⟩, trivial⟩
        · replace h3 : ((s157 a0 x2)) = false := h3
          replace hR := condF hR h3
          try simp only [Bool.or_eq_true, Bool.and_eq_true, Bool.or_eq_false_iff, Bool.and_eq_false_iff, Bool.not_eq_true', Bool.not_eq_false', decide_eq_true_eq, decide_eq_false_iff_not] at h3
          refine aw_skip ?_
          exact ⟨rfl, x1, ⟨rfl, rfl, rfl, trivial⟩, ⟨rfl, trivial⟩, rfl, ⟨(by first | omega | (dsimp only; omega) | (simp at *; omega)), hR⟩, trivial⟩
      · rintro x4 ⟨jv1_0, hR⟩
        replace jv1_0 : x4.length ≤ (x2 + 1 - a0.fFrom).toNat := jv1_0
        replace hR : s104_j1 (fun z0_ z1_ => s104_l1 a0 k3 z0_ z1_) x2 x4 = R := hR
        unfold s104_j1 at hR
        refine aw_region [.p, .p, .p] ?_
        refine st rfl rfl (eff_moveg rfl rfl) rfl ?_
        refine st rfl rfl (eff_add rfl rfl rfl (by (try dsimp only); unfold I64; omega)) rfl ?_
        refine st rfl rfl (eff_assigng rfl rfl) rfl ?_
        refine st_nil ?_
        exact ⟨rfl, (k3, x4, x2 + 1), ⟨rfl, rfl, rfl, trivial⟩, ⟨rfl, trivial⟩, rfl, ⟨(by first | omega | (dsimp only; omega) | (simp at *; omega)), (by first | omega | (dsimp only; omega) | (simp at *; omega)), (by first | omega | (dsimp only; omega) | (simp at *; omega)), hR⟩, by simp⟩
    · replace h1 : (decide (x2 ≤ a0.fTo)) = false := h1
      replace h1 := decF h1
      obtain rfl : k3 = 0 := by omega
      rw [s104_l1] at hR
      refine aw_exit ?_
      refine aw_seq ?_
      refine aw_region [.p, .p] ?_
      refine st rfl rfl (eff_moveO rfl rfl) rfl ?_
      refine st rfl rfl (eff_assignO rfl rfl) rfl ?_
      refine st_nil ?_
      refine aw_ret ?_
      subst hR
      exact res_c rfl (rv_viewL rfl rfl)

/-- turnroundref09.SameSlots -/
def s32_l1 (a1 : List S151) : List S151 → Nat → Option Bool
  | [], k2 => some true
  | y3 :: t4, k2 => bindO (ixO a1 ((k2 : Nat) : Int)) fun y5 => (bif !(eqAnd [decide (y3.Name = y5.Name), decide (y3.Moment = y5.Moment), decide (y3.Kind = y5.Kind)]) then some false else s32_l1 a1 t4 (k2 + 1))
def s32 (a0 : List S151) (a1 : List S151) : Option Bool :=
  (bif decide ((List.length a0 : Int) ≠ (List.length a1 : Int)) then some false else s32_l1 a1 a0 0)
theorem c32 {g : List (Nat × List Value)} (a0 : List S151) (a1 : List S151) {R : Bool}   (hR : s32 a0 a1 = some R) : Con (EG g) 32 [G.sl 3 (List.map S151.c a0), G.sl 3 (List.map S151.c a1)] (G.bool R) := by
  unfold s32 at hR
  refine con_of_aw Tryz.func32 rfl rfl fun w0 M0 => ?_
  refine len_sl (f := S151.c) (l := a0) 0 rfl fun hla0 => ?_
  refine len_sl (f := S151.c) (l := a1) 1 rfl fun hla1 => ?_
  refine aw_seq ?_
  refine aw_region [.p] ?_
  refine st rfl rfl (eff_assigng rfl rfl) rfl ?_
  refine st_nil ?_
  refine aw_seq ?_
  refine aw_seq ?_
  refine aw_region [.p, .p, .p, .p, .p] ?_
  refine st rfl rfl (eff_moveg rfl rfl) rfl ?_
  refine st rfl rfl (eff_lenM (f := S151.c) (l := a0) rfl Tryz.underlying32 rfl) rfl ?_
  refine st rfl rfl (eff_moveg rfl rfl) rfl ?_
  refine st rfl rfl (eff_lenM (f := S151.c) (l := a1) rfl Tryz.underlying32 rfl) rfl ?_
  refine st rfl rfl (eff_neq rfl rfl rfl) rfl ?_
  refine st_nil ?_
  refine aw_cond _ rfl (fun h1 => ?_) (fun h1 => ?_)
  · replace h1 : (decide ((List.length a0 : Int) ≠ (List.length a1 : Int))) = true := h1
    replace hR := condT hR h1
    try simp only [Bool.or_eq_true, Bool.and_eq_true, Bool.or_eq_false_iff, Bool.and_eq_false_iff, Bool.not_eq_true', Bool.not_eq_false', decide_eq_true_eq, decide_eq_false_iff_not] at h1
    refine aw_seq ?_
    refine aw_region [.p] ?_
    refine st rfl rfl (eff_assigng rfl rfl) rfl ?_
    refine st_nil ?_
    refine aw_ret ?_
    obtain rfl := Option.some.inj hR
    exact res_c rfl (rv_g rfl)
  · replace h1 : (decide ((List.length a0 : Int) ≠ (List.length a1 : Int))) = false := h1
    replace hR := condF hR h1
    try simp only [Bool.or_eq_true, Bool.and_eq_true, Bool.or_eq_false_iff, Bool.and_eq_false_iff, Bool.not_eq_true', Bool.not_eq_false', decide_eq_true_eq, decide_eq_false_iff_not] at h1
    refine aw_skip ?_
    refine aw_seq ?_
    refine aw_seq ?_
    refine aw_region [.p] ?_
    refine st rfl rfl (eff_assigng rfl rfl) rfl ?_
    refine st_nil ?_
    refine aw_block ?_
    refine aw_loop_g (γ := Nat × (List S151)) (fun g => ([(0, .g (G.sl 3 (List.map S151.c a0))), (1, .g (G.sl 3 (List.map S151.c a1))), (5, .g (G.int ((g.1 : Nat) : Int)))], [])) (fun g => a0.drop g.1 = g.2 ∧ s32_l1 a1 g.2 g.1 = some R) (fun g => List.length g.2) ⟨rfl, (0, a0), ⟨rfl, rfl, rfl, trivial⟩, trivial, rfl, ⟨rfl, hR⟩, trivial⟩ ?_
    · rintro ⟨k2, t4⟩ ⟨hd, hR⟩
      replace hd : a0.drop k2 = t4 := hd
      replace hR : s32_l1 a1 t4 k2 = some R := hR
      refine aw_seq ?_
      refine aw_seq ?_
      refine aw_region [.p, .p, .p, .p] ?_
      refine st rfl rfl (eff_moveg rfl rfl) rfl ?_
      refine st rfl rfl (eff_moveg rfl rfl) rfl ?_
      refine st rfl rfl (eff_lenM (f := S151.c) (l := a0) rfl Tryz.underlying32 rfl) rfl ?_
      refine st rfl rfl (eff_lss rfl rfl rfl) rfl ?_
      refine st_nil ?_
      refine len_sl (f := S151.c) (l := a0) 0 rfl fun hlz1 => ?_
      refine aw_cond _ rfl (fun h2 => ?_) (fun h2 => ?_)
      · replace h2 : (decide (((k2 : Nat) : Int) < (List.length a0 : Int))) = true := h2
        obtain ⟨y3, t4, rfl, hx1, hd⟩ := drop_cons hd (decT h2)
        replace h2 := decT h2
        rw [s32_l1] at hR
        try dsimp only at hR
        refine aw_skip ?_
        refine aw_seq ?_
        refine aw_block ?_
        refine aw_seq ?_
        obtain ⟨y5, by5, hR⟩ := bindO_inv hR
        refine aw_draw [.p, .p, .p, .p, .p, .p, .p, .p, .p] (by kernel_rfl) ?_
        refine st rfl rfl (eff_moveg rfl rfl) rfl ?_
        refine st rfl rfl (eff_moveg rfl rfl) rfl ?_
        refine st rfl rfl (eff_ix (f := S151.c) (l := a0) (a := y3) rfl Tryz.underlying32 ty160 rfl rfl (Int.natCast_nonneg _) hx1) rfl ?_
        refine st rfl rfl (eff_loadA rfl ty160 rfl rfl rfl) rfl ?_
        refine st rfl rfl (eff_moveg rfl rfl) rfl ?_
        refine st rfl rfl (eff_moveg rfl rfl) rfl ?_
        refine st rfl rfl (eff_ix (f := S151.c) (l := a1) (a := y5) rfl Tryz.underlying32 ty160 rfl rfl (ixO_nn by5) (ixO_get by5)) rfl ?_
        refine st rfl rfl (eff_loadA rfl ty160 rfl rfl rfl) rfl ?_
        refine st rfl rfl (eff_aneq [.string y3.Name, .int .i64 y3.Moment, .string y3.Kind] [.string y5.Name, .int .i64 y5.Moment, .string y5.Kind] rfl flat160 rfl rfl rfl rfl rfl) rfl ?_
        refine st_nil ?_
        refine aw_cond _ rfl (fun h4 => ?_) (fun h4 => ?_)
        · replace h4 : (!(eqAnd [decide (y3.Name = y5.Name), decide (y3.Moment = y5.Moment), decide (y3.Kind = y5.Kind)])) = true := h4
          replace hR := condT hR h4
          try simp only [Bool.or_eq_true, Bool.and_eq_true, Bool.or_eq_false_iff, Bool.and_eq_false_iff, Bool.not_eq_true', Bool.not_eq_false', decide_eq_true_eq, decide_eq_false_iff_not] at h4
          refine aw_seq ?_
          refine aw_region [.p] ?_
          refine st rfl rfl (eff_assigng rfl rfl) rfl ?_
          refine st_nil ?_
          refine aw_ret ?_
          obtain rfl := Option.some.inj hR
          exact res_c rfl (rv_g rfl)
        · replace h4 : (!(eqAnd [decide (y3.Name = y5.Name), decide (y3.Moment = y5.Moment), decide (y3.Kind = y5.Kind)])) = false := h4
          replace hR := condF hR h4
          try simp only [Bool.or_eq_true, Bool.and_eq_true, Bool.or_eq_false_iff, Bool.and_eq_false_iff, Bool.not_eq_true', Bool.not_eq_false', decide_eq_true_eq, decide_eq_false_iff_not] at h4
          refine aw_skip ?_
          refine aw_region [.p, .p, .p] ?_
          refine st rfl rfl (eff_moveg rfl rfl) rfl ?_
          refine st rfl rfl (eff_add rfl rfl rfl (by unfold I64; omega)) rfl ?_
          refine st rfl rfl (eff_assigng rfl rfl) rfl ?_
          refine st_nil ?_
          exact ⟨rfl, (k2 + 1, t4), ⟨rfl, rfl, rfl, trivial⟩, trivial, rfl, ⟨hd, hR⟩, by simp⟩
      · replace h2 : (decide (((k2 : Nat) : Int) < (List.length a0 : Int))) = false := h2
        obtain rfl := drop_nil hd (decF h2)
        rw [s32_l1] at hR
        refine aw_exit ?_
        refine aw_seq ?_
        refine aw_region [.p] ?_
        refine st rfl rfl (eff_assigng rfl rfl) rfl ?_
        refine st_nil ?_
        refine aw_ret ?_
        obtain rfl := Option.some.inj hR
        exact res_c rfl (rv_g rfl)

/-- turnroundref09.CheckSeries -/
def s30 (a0 : ByteArray) (a1 : ByteArray) (a2 : S45) (a3 : Int) : Int :=
  (s89 [(s95 a0), (s97 a1), (s40 a2), (s90 a3 0 1439)])
theorem c30 {g : List (Nat × List Value)} (a0 : ByteArray) (a1 : ByteArray) (a2 : S45) (a3 : Int)    : Con (EG g) 30 [G.str a0, G.str a1, G.agg [G.int a2.fFrom, G.int a2.fTo, G.int a2.Days], G.int a3] (G.int (s30 a0 a1 a2 a3)) := by
  generalize hR : s30 a0 a1 a2 a3 = R
  unfold s30 at hR
  refine con_of_aw Tryz.func30 rfl rfl fun w0 M0 => ?_
  refine aw_seq ?_
  refine aw_region [.p, .p] ?_
  refine st rfl rfl (eff_box rfl rfl) rfl ?_
  refine st rfl rfl (eff_assigng rfl rfl) rfl ?_
  refine st_nil ?_
  refine aw_seq ?_
  refine aw_draw [.p, .p, .p, .p, .p, .p, .p, .p, .p, .p, .p] (by kernel_rfl) ?_
  refine st rfl rfl (eff_moveg rfl rfl) rfl ?_
  refine st rfl rfl (eff_call rfl K95 rfl (c95 a0) (ag_cons rfl ag_nil)) rfl ?_
  refine st rfl rfl (eff_moveg rfl rfl) rfl ?_
  refine st rfl rfl (eff_call rfl K97 rfl (c97 a1) (ag_cons rfl ag_nil)) rfl ?_
  refine st rfl rfl (eff_loadA rfl ty46 rfl rfl rfl) rfl ?_
  refine st rfl rfl (eff_call rfl K40 rfl (c40 a2) (ag_cons rfl ag_nil)) rfl ?_
  refine st rfl rfl (eff_moveg rfl rfl) rfl ?_
  refine st rfl rfl (eff_call rfl K90 rfl (c90 a3 0 1439) (ag_cons rfl (ag_cons rfl (ag_cons rfl ag_nil)))) rfl ?_
  refine st rfl rfl (eff_buildSlice rfl Tryz.underlying82 ty3 z3 rfl (ps_cons rfl (ps_cons rfl (ps_cons rfl (ps_cons rfl ps_nil)))) rfl (by simp []) (by decide)) rfl ?_
  refine st rfl rfl (eff_call rfl K89 rfl (c89 [(s95 a0), (s97 a1), (s40 a2), (s90 a3 0 1439)]) (ag_cons rfl ag_nil)) rfl ?_
  refine st rfl rfl (eff_assigng rfl rfl) rfl ?_
  refine st_nil ?_
  refine aw_ret ?_
  subst hR
  exact res_c rfl (rv_g rfl)

/-- turnroundref09.SlotsOf -/
def s31_l1 (a0 : ByteArray) (a1 : ByteArray) (a3 : Int) : List Int → Nat → (List S151) → List S151
  | [], k3, x1 => x1
  | y4 :: t5, k3, x1 => s31_l1 a0 a1 a3 t5 (k3 + 1) (x1 ++ [(S151.mk a0 (IntKind.i64.wrap ((IntKind.i64.wrap (1440 * y4)) + a3)) a1)])
def s31 (a0 : ByteArray) (a1 : ByteArray) (a2 : S45) (a3 : Int) : List S151 :=
  s31_l1 a0 a1 a3 (s104 a2) 0 []
theorem c31 {g : List (Nat × List Value)} (a0 : ByteArray) (a1 : ByteArray) (a2 : S45) (a3 : Int)  (hp0 : 0 ≤ a2.fFrom) (hp1 : a2.fTo ≤ 1000000) (hm0 : (s104 a2).length ≤ 1000001)  : Con (EG g) 31 [G.str a0, G.str a1, G.agg [G.int a2.fFrom, G.int a2.fTo, G.int a2.Days], G.int a3] (G.sl 3 (List.map S151.c (s31 a0 a1 a2 a3))) := by
  generalize hR : s31 a0 a1 a2 a3 = R
  unfold s31 at hR
  refine con_of_aw Tryz.func31 rfl rfl fun w0 M0 => ?_
  refine aw_seq ?_
  refine aw_region [.p, .w] ?_
  refine st rfl rfl (eff_box rfl rfl) rfl ?_
  refine st_w rfl rfl (eff_nilL 8 160 3 rfl rfl rfl) rfl ?_
  refine st_nil ?_
  refine aw_seq ?_
  refine aw_region [.w] ?_
  refine st_w rfl rfl (eff_nilL 9 160 3 rfl rfl rfl) rfl ?_
  refine st_nil ?_
  refine aw_seq ?_
  refine aw_region [.p, .p, .p] ?_
  refine st rfl rfl (eff_loadA rfl ty46 rfl rfl rfl) rfl ?_
  refine st rfl rfl (eff_call rfl K104 rfl (c104 a2 (by first | assumption | omega | (simp [copyL_len]; omega)) (by first | assumption | omega | (simp [copyL_len]; omega))) (ag_cons rfl ag_nil)) rfl ?_
  refine st rfl rfl (eff_assigng rfl rfl) rfl ?_
  refine st_nil ?_
  refine aw_seq ?_
  refine aw_seq ?_
  refine aw_region [.p] ?_
  refine st rfl rfl (eff_assigng rfl rfl) rfl ?_
  refine st_nil ?_
  refine aw_block ?_
  refine aw_loop_g (γ := Nat × (List Int) × (List S151)) (fun g => ([(0, .g (G.str a0)), (1, .g (G.str a1)), (3, .g (G.int a3)), (9, .osl 9 3 0 (List.length g.2.2)), (10, .g (G.sl 1 (List.map cInt (s104 a2)))), (11, .g (G.int ((g.1 : Nat) : Int)))], [(9, .arr 160 3 (List.map S151.c g.2.2))])) (fun g => g.2.2.length ≤ g.1 ∧ (s104 a2).drop g.1 = g.2.1 ∧ s31_l1 a0 a1 a3 g.2.1 g.1 g.2.2 = R) (fun g => List.length g.2.1) ⟨rfl, (0, (s104 a2), []), ⟨rfl, rfl, rfl, rfl, rfl, rfl, trivial⟩, ⟨rfl, trivial⟩, rfl, ⟨(by first | (simp; done) | (simp; omega)), rfl, hR⟩, trivial⟩ ?_
  · rintro ⟨k3, t5, x1⟩ ⟨iv1_0, hd, hR⟩
    replace hd : (s104 a2).drop k3 = t5 := hd
    replace hR : s31_l1 a0 a1 a3 t5 k3 x1 = R := hR
    replace iv1_0 : x1.length ≤ k3 := iv1_0
    refine aw_seq ?_
    refine aw_seq ?_
    refine aw_region [.p, .p, .p, .p] ?_
    refine st rfl rfl (eff_moveg rfl rfl) rfl ?_
    refine st rfl rfl (eff_moveg rfl rfl) rfl ?_
    refine st rfl rfl (eff_lenM (f := cInt) (l := (s104 a2)) rfl Tryz.underlying82 rfl) rfl ?_
    refine st rfl rfl (eff_lss rfl rfl rfl) rfl ?_
    refine st_nil ?_
    refine len_sl (f := cInt) (l := (s104 a2)) 10 rfl fun hlz1 => ?_
    refine aw_cond _ rfl (fun h1 => ?_) (fun h1 => ?_)
    · replace h1 : (decide (((k3 : Nat) : Int) < (List.length (s104 a2) : Int))) = true := h1
      obtain ⟨y4, t5, rfl, hx1, hd⟩ := drop_cons hd (decT h1)
      replace h1 := decT h1
      rw [s31_l1] at hR
      try dsimp only at hR
      refine aw_skip ?_
      refine aw_seq ?_
      refine aw_block ?_
      refine aw_region [.p, .p, .p, .p, .p, .p, .p, .p, .p, .p, .p, .p, .k, .p] ?_
      refine st rfl rfl (eff_moveO rfl rfl) rfl ?_
      refine st rfl rfl (eff_moveg rfl rfl) rfl ?_
      refine st rfl rfl (eff_moveg rfl rfl) rfl ?_
      refine st rfl rfl (eff_moveg rfl rfl) rfl ?_
      refine st rfl rfl (eff_ix (f := cInt) (l := (s104 a2)) (a := y4) rfl Tryz.underlying82 ty3 rfl rfl (Int.natCast_nonneg _) hx1) rfl ?_
      refine st rfl rfl (eff_load rfl ty3 rfl) rfl ?_
      refine st rfl rfl (eff_mulw rfl rfl rfl) rfl ?_
      refine st rfl rfl (eff_moveg rfl rfl) rfl ?_
      refine st rfl rfl (eff_addw rfl rfl rfl) rfl ?_
      refine st rfl rfl (eff_moveg rfl rfl) rfl ?_
      refine st rfl rfl (eff_build rfl z160 rfl pl160 (pb_cons rfl (pb_cons rfl (pb_cons rfl pb_nil))) rfl) rfl ?_
      refine st rfl rfl (eff_buildSlice rfl Tryz.underlying32 ty160 z160 rfl (ps_cons rfl ps_nil) rfl (by simp only [List.mem_singleton, forall_eq]; rfl) (by decide)) rfl ?_
      refine st_k rfl rfl (eff_appL (f := S151.c) (out := x1) (new := [(S151.mk a0 (IntKind.i64.wrap ((IntKind.i64.wrap (1440 * y4)) + a3)) a1)]) rfl app32 rfl rfl (src_eq rfl (src_sl (by decide) (by simp [S151.c]))) (refsN rfl) (by simp; omega)) rfl ?_
      refine st rfl rfl (eff_assignO rfl rfl) rfl ?_
      refine st_nil ?_
      refine aw_region [.p, .p, .p] ?_
      refine st rfl rfl (eff_moveg rfl rfl) rfl ?_
      refine st rfl rfl (eff_add rfl rfl rfl (by unfold I64; omega)) rfl ?_
      refine st rfl rfl (eff_assigng rfl rfl) rfl ?_
      refine st_nil ?_
      exact ⟨rfl, (k3 + 1, t5, x1 ++ [(S151.mk a0 (IntKind.i64.wrap ((IntKind.i64.wrap (1440 * y4)) + a3)) a1)]), ⟨rfl, rfl, rfl, rfl, rfl, rfl, trivial⟩, ⟨rfl, trivial⟩, rfl, ⟨(by first | omega | (dsimp only; omega) | (simp at *; omega)), hd, hR⟩, by simp⟩
    · replace h1 : (decide (((k3 : Nat) : Int) < (List.length (s104 a2) : Int))) = false := h1
      obtain rfl := drop_nil hd (decF h1)
      rw [s31_l1] at hR
      refine aw_exit ?_
      refine aw_seq ?_
      refine aw_region [.p, .p] ?_
      refine st rfl rfl (eff_moveO rfl rfl) rfl ?_
      refine st rfl rfl (eff_assignO rfl rfl) rfl ?_
      refine st_nil ?_
      refine aw_ret ?_
      subst hR
      exact res_c rfl (rv_viewL rfl rfl)
end Go.Sim

namespace Go.Sim
theorem s84_zero {l : List Int} (h : s84 l = 0) : ∀ x ∈ l, x = 0 := by
  have key : ∀ (l : List Int) (k : Nat), s84_l1 l k = 0 → ∀ x ∈ l, x = 0 := by
    intro l
    induction l with
    | nil => intro k _ x hx; cases hx
    | cons y l ih =>
      intro k h x hx
      rw [s84_l1] at h
      by_cases hy : y = 0
      · subst hy
        simp at h
        rcases List.mem_cons.1 hx with rfl | hx
        · rfl
        · exact ih _ h x hx
      · simp [hy] at h
  exact key l 0 h
theorem s85_zero {a b c : Int} (h : s85 a b c = 0) : b ≤ a ∧ a ≤ c := by
  unfold s85 s86 at h
  by_cases h1 : a < b
  · simp [h1] at h
  · by_cases h2 : c < a
    · simp [h2] at h
    · omega
theorem series_ok (a0 a1 : ByteArray) (a2 : S45) (a3 : Int) (h : s84 [s87 a0, s101 a1, s102 a2, s85 a3 0 1439] = 0) : s102 a2 = 0 ∧ 0 ≤ a3 ∧ a3 ≤ 1439 := by
  have h1 := s84_zero h (s102 a2) (by simp)
  have h2 := s85_zero (s84_zero h (s85 a3 0 1439) (by simp))
  exact ⟨h1, h2⟩
end Go.Sim

set_option linter.unusedSimpArgs false
set_option linter.unusedVariables false
set_option maxRecDepth 10000
namespace Go.Sim
open Go.Proofs


/-- use.SlotsOf -/
def s29 (a0 : ByteArray) (a1 : ByteArray) (a2 : S45) (a3 : Int) : (List S151) × Int :=
  (bif decide ((s84 [(s87 a0), (s101 a1), (s102 a2), (s85 a3 0 1439)]) ≠ 0) then ([], (s84 [(s87 a0), (s101 a1), (s102 a2), (s85 a3 0 1439)])) else (slotsL a0 a1 (momL a3 (dayL a2.Days (a2.fTo + 1 - a2.fFrom).toNat a2.fFrom)), 0))
theorem c29 {g : List (Nat × List Value)} (a0 : ByteArray) (a1 : ByteArray) (a2 : S45) (a3 : Int)    : Con (EG g) 29 [G.str a0, G.str a1, G.agg [G.int a2.fFrom, G.int a2.fTo, G.int a2.Days], G.int a3] (G.tup [G.slX 3 (List.map S151.c ((s29 a0 a1 a2 a3)).1), G.int ((s29 a0 a1 a2 a3)).2]) := by
  generalize hR : s29 a0 a1 a2 a3 = R
  unfold s29 at hR
  refine con_of_aw Tryz.func29 rfl rfl fun w0 M0 => ?_
  refine aw_seq ?_
  refine aw_region [.p, .p, .p] ?_
  refine st rfl rfl (eff_box rfl rfl) rfl ?_
  refine st rfl rfl (eff_assigng rfl rfl) rfl ?_
  refine st rfl rfl (eff_assigng rfl rfl) rfl ?_
  refine st_nil ?_
  refine aw_seq ?_
  refine aw_seq ?_
  refine aw_draw [.p, .p, .p, .p, .p, .p, .p, .p, .p, .p, .p] (by kernel_rfl) ?_
  refine st rfl rfl (eff_moveg rfl rfl) rfl ?_
  refine st rfl rfl (eff_call rfl K87 rfl (c87 a0) (ag_cons rfl ag_nil)) rfl ?_
  refine st rfl rfl (eff_moveg rfl rfl) rfl ?_
  refine st rfl rfl (eff_call rfl K101 rfl (c101 a1) (ag_cons rfl ag_nil)) rfl ?_
  refine st rfl rfl (eff_loadA rfl ty46 rfl rfl rfl) rfl ?_
  refine st rfl rfl (eff_call rfl K102 rfl (c102 a2) (ag_cons rfl ag_nil)) rfl ?_
  refine st rfl rfl (eff_moveg rfl rfl) rfl ?_
  refine st rfl rfl (eff_call rfl K85 rfl (c85 a3 0 1439) (ag_cons rfl (ag_cons rfl (ag_cons rfl ag_nil)))) rfl ?_
  refine st rfl rfl (eff_buildSlice rfl Tryz.underlying170 ty37 z37 rfl (ps_cons rfl (ps_cons rfl (ps_cons rfl (ps_cons rfl ps_nil)))) rfl (by simp []) (by decide)) rfl ?_
  refine st rfl rfl (eff_call rfl K84 rfl (c84 [(s87 a0), (s101 a1), (s102 a2), (s85 a3 0 1439)]) (ag_cons rfl ag_nil)) rfl ?_
  refine st rfl rfl (eff_assigng rfl rfl) rfl ?_
  refine st_nil ?_
  refine aw_seq ?_
  refine aw_region [.p, .p] ?_
  refine st rfl rfl (eff_moveg rfl rfl) rfl ?_
  refine st rfl rfl (eff_neq rfl rfl rfl) rfl ?_
  refine st_nil ?_
  refine aw_cond _ rfl (fun h1 => ?_) (fun h1 => ?_)
  · replace h1 : (decide ((s84 [(s87 a0), (s101 a1), (s102 a2), (s85 a3 0 1439)]) ≠ 0)) = true := h1
    replace hR := condT hR h1
    try simp only [Bool.or_eq_true, Bool.and_eq_true, Bool.or_eq_false_iff, Bool.and_eq_false_iff, Bool.not_eq_true', Bool.not_eq_false', decide_eq_true_eq, decide_eq_false_iff_not] at h1
    refine aw_seq ?_
    refine aw_region [.p, .p, .p] ?_
    refine st rfl rfl (eff_moveg rfl rfl) rfl ?_
    refine st rfl rfl (eff_assigng rfl rfl) rfl ?_
    refine st rfl rfl (eff_assigng rfl rfl) rfl ?_
    refine st_nil ?_
    refine aw_ret ?_
    subst hR
    exact resN rfl ⟨rv_nilG rfl (nil_slX _), rv_g rfl, trivial⟩ (by simp)
  · replace h1 : (decide ((s84 [(s87 a0), (s101 a1), (s102 a2), (s85 a3 0 1439)]) ≠ 0)) = false := h1
    replace hR := condF hR h1
    try simp only [Bool.or_eq_true, Bool.and_eq_true, Bool.or_eq_false_iff, Bool.and_eq_false_iff, Bool.not_eq_true', Bool.not_eq_false', decide_eq_true_eq, decide_eq_false_iff_not] at h1
    have hp := series_ok a0 a1 a2 a3 (by simpa using h1)
    refine aw_skip ?_
    refine aw_seq ?_
    refine aw_region [.p, .p, .p, .p, .p, .p, .p] ?_
    refine st rfl rfl (eff_moveg rfl rfl) rfl ?_
    refine st rfl rfl (eff_moveg rfl rfl) rfl ?_
    refine st rfl rfl (eff_loadA rfl ty46 rfl rfl rfl) rfl ?_
    refine st rfl rfl (eff_moveg rfl rfl) rfl ?_
    refine st rfl rfl (eff_call rfl K103 rfl (c103X a0 a1 a2 a3 hp.1 hp.2.1 (by omega)) (ag_cons rfl (ag_cons rfl (ag_cons rfl (ag_cons rfl ag_nil))))) rfl ?_
    refine st rfl rfl (eff_assigng rfl rfl) rfl ?_
    refine st rfl rfl (eff_assigng rfl rfl) rfl ?_
    refine st_nil ?_
    refine aw_ret ?_
    subst hR
    exact resN rfl ⟨rv_g rfl, rv_g rfl, trivial⟩ (by simp)
end Go.Sim

namespace Go.Sim
open Go.Proofs
theorem c29' {g : List (Nat × List Value)} (a0 a1 : ByteArray) (a2 : S45) (a3 : Int) : Con (EG g) 29 [G.str a0, G.str a1, G.agg [G.int a2.fFrom, G.int a2.fTo, G.int a2.Days], G.int a3] (G.tup [G.sl 3 (List.map S151.c ((s29 a0 a1 a2 a3)).1), G.int ((s29 a0 a1 a2 a3)).2]) := by
  intro w M vs hM hgl hv
  refine (c29 a0 a1 a2 a3 w M vs hM hgl hv).mono ?_
  rintro e w' ⟨v, h1, h2, us, h3, h4⟩
  refine ⟨v, h1, h2, us, h3, ?_⟩
  match us, h4 with
  | [u1, u2], ⟨k1, k2, k3⟩ => exact ⟨slX_sl k1, k2, k3⟩
theorem c32n {g : List (Nat × List Value)} (a0 : List S151) {R : Bool} (hR : s32 a0 [] = some R) : Con (EG g) 32 [G.sl 3 (List.map S151.c a0), G.lit (.slice none 0 0)] (G.bool R) := by
  intro w M vs hM hgl hv
  match vs, hv with
  | [v1, v2], ⟨h1, h2, _⟩ =>
    have h2 : v2 = .slice none 0 0 := h2
    subst h2
    exact c32 a0 [] hR w M _ hM hgl ⟨h1, nil_sl 3 w M, trivial⟩
theorem s29_len (a0 a1 : ByteArray) (a2 : S45) (a3 : Int) : (s29 a0 a1 a2 a3).1.length * 40 ≤ 140737488351232 := by
  unfold s29
  by_cases h : s84 [(s87 a0), (s101 a1), (s102 a2), (s85 a3 0 1439)] = 0
  · rw [decide_eq_false (by simpa using h), cond_false]
    obtain ⟨h1, _, _⟩ := series_ok a0 a1 a2 a3 h
    obtain ⟨q1, q2, q3, q4, _, _⟩ := period_ok a2 h1
    have := dayL_len a2.Days (a2.fTo + 1 - a2.fFrom).toNat a2.fFrom
    simp only [slotsL, momL, List.length_map]
    omega
  · rw [decide_eq_true (by simpa using h), cond_true]
    show (0 : Nat) * 40 ≤ 140737488351232
    decide
theorem period_eq (p : S45) : s102 p = s40 p := by
  unfold s102 s40
  have e : ∀ l, s152 l = s89 l := fun l => by
    unfold s152 s89
    generalize 0 = k
    induction l generalizing k with
    | nil => rfl
    | cons x l ih => rw [s152_l1, s89_l1, ih]
  simp only [e, s89_cons, s89_nil, s153, s155, s109, s90, s154]
  by_cases h1 : p.fFrom < 0 <;> by_cases h1' : 99999 < p.fFrom <;> by_cases h2 : p.fTo < 0 <;> by_cases h2' : 99999 < p.fTo <;> simp only [h1, h1', h2, h2', decide_true, decide_false, Bool.or_true, Bool.true_or, Bool.or_false, cond_true, cond_false] <;> try rfl
  by_cases h3 : p.fTo < p.fFrom <;> by_cases h4 : 400 < IntKind.i64.wrap (p.fTo - p.fFrom) <;> by_cases h5 : p.Days < 1 <;> by_cases h6 : 127 < p.Days <;> simp [h3, h4, h5, h6]
theorem codes_eq (a0 a1 : ByteArray) (a2 : S45) (a3 : Int) : s84 [s87 a0, s101 a1, s102 a2, s85 a3 0 1439] = s30 a0 a1 a2 a3 := by
  unfold s30
  rw [s84_s89, s87_s95, s101_s97, period_eq]; rfl
set_option maxRecDepth 100000 in
theorem mask_all : ∀ m : Fin 128, ∀ w : Fin 7, s192 (m.1 : Int) (w.1 : Int) = decide (andI (shrI (m.1 : Int) (w.1 : Int)) 1 = 1) := by decide +kernel
theorem mask_eq {m d : Int} (h1 : 1 ≤ m) (h2 : m ≤ 127) (h3 : 0 ≤ d) (h4 : d ≤ 1000000) : s192 m (s180 d) = inM m d := by
  have hw : s180 d = (d + 5) % 7 := by
    unfold s180
    rw [wrap_i64 (by unfold I64; omega), Int.tmod_eq_emod_of_nonneg (by omega)]
  rw [hw]
  have := mask_all ⟨m.toNat, by omega⟩ ⟨((d + 5) % 7).toNat, by omega⟩
  simp only at this
  rw [Int.toNat_of_nonneg (by omega), Int.toNat_of_nonneg (by omega)] at this
  exact this
theorem s104_loop (p : S45) (h1 : 1 ≤ p.Days) (h2 : p.Days ≤ 127) (h3 : 0 ≤ p.fFrom) (h4 : p.fTo ≤ 99999) : ∀ (n : Nat) (x : List Int) (d : Int), p.fFrom ≤ d → n = (p.fTo + 1 - d).toNat → s104_l1 p n x d = x ++ dayL p.Days n d
  | 0, x, d, _, _ => by simp [s104_l1, dayL]
  | n + 1, x, d, hd, hn => by
    rw [s104_l1, dayL]
    have hs : s157 p d = inM p.Days d := by
      unfold s157
      rw [mask_eq h1 h2 (by omega) (by omega), decide_eq_true (by omega), decide_eq_true (by omega)]
      simp
    rw [hs]
    unfold s104_j1
    have ih := fun x => s104_loop p h1 h2 h3 h4 n x (d + 1) (by omega) (by omega)
    show (bif inM p.Days d then s104_l1 p n (x ++ [d]) (d + 1) else s104_l1 p n x (d + 1)) = _
    rw [ih, ih]
    cases inM p.Days d <;> simp
theorem days_eq (p : S45) (h : s102 p = 0) : s104 p = dayL p.Days (p.fTo + 1 - p.fFrom).toNat p.fFrom := by
  obtain ⟨q1, q2, q3, q4, q5, q6⟩ := period_ok p h
  unfold s104
  rw [s104_loop p q5 q6 q1 q3 _ _ _ (Int.le_refl _) rfl]; rfl
theorem ref_ok (a0 a1 : ByteArray) (a2 : S45) (a3 : Int) (h : s30 a0 a1 a2 a3 = 0) : 0 ≤ a2.fFrom ∧ a2.fTo ≤ 1000000 ∧ (s104 a2).length ≤ 1000001 := by
  rw [← codes_eq] at h
  obtain ⟨h1, _, _⟩ := series_ok a0 a1 a2 a3 h
  obtain ⟨q1, q2, q3, q4, _, _⟩ := period_ok a2 h1
  have := dayL_len a2.Days (a2.fTo + 1 - a2.fFrom).toNat a2.fFrom
  rw [days_eq a2 h1]
  omega
theorem s32_same (l : List S151) : s32 l l = some true := by
  have key : ∀ (t : List S151) (k : Nat), l.drop k = t → s32_l1 l t k = some true := by
    intro t
    induction t with
    | nil => intro k _; rfl
    | cons y t ih =>
      intro k hk
      have hy : ixO l ((k : Nat) : Int) = some y := by
        unfold ixO
        have : l[k]? = some y := by rw [← List.head?_drop, hk]; rfl
        simp [this]
      rw [s32_l1, hy]
      show (bif _ then _ else _) = _
      simp only [eqAnd, decide_true, Bool.and_self, Bool.not_true, cond_false]
      refine ih (k + 1) ?_
      rw [← List.tail_drop, hk]; rfl
  unfold s32
  rw [decide_eq_false (by simp), cond_false]
  exact key l 0 (by simp)
end Go.Sim

set_option linter.unusedSimpArgs false
set_option linter.unusedVariables false
set_option maxRecDepth 10000
namespace Go.Sim
open Go.Proofs


/-- turnroundlaw09.UseSeries -/
noncomputable def s4 (a0 : S47) : Option Bool :=
  (bif ((!s16) || (decide (60 < (ByteArray.size a0.Name : Int)))) || (decide (60 < (ByteArray.size a0.Kind : Int))) then some s16 else (bif decide ((s30 a0.Name a0.Kind (S45.mk a0.Period.fFrom a0.Period.fTo a0.Period.Days) a0.Minute) = 0) then bindO (s32 (s20 ((s29 a0.Name a0.Kind (S45.mk a0.Period.fFrom a0.Period.fTo a0.Period.Days) a0.Minute).1)) (s31 a0.Name a0.Kind (S45.mk a0.Period.fFrom a0.Period.fTo a0.Period.Days) a0.Minute)) fun r1 => some (r1 && (decide ((s29 a0.Name a0.Kind (S45.mk a0.Period.fFrom a0.Period.fTo a0.Period.Days) a0.Minute).2 = (s30 a0.Name a0.Kind (S45.mk a0.Period.fFrom a0.Period.fTo a0.Period.Days) a0.Minute)))) else bindO (s32 (s20 ((s29 a0.Name a0.Kind (S45.mk a0.Period.fFrom a0.Period.fTo a0.Period.Days) a0.Minute).1)) []) fun r2 => some (r2 && (decide ((s29 a0.Name a0.Kind (S45.mk a0.Period.fFrom a0.Period.fTo a0.Period.Days) a0.Minute).2 = (s30 a0.Name a0.Kind (S45.mk a0.Period.fFrom a0.Period.fTo a0.Period.Days) a0.Minute))))))
theorem c4 (a0 : S47) {R : Bool}   (hR : s4 a0 = some R) : Con (EG glT) 4 [G.agg [G.str a0.Name, G.str a0.Kind, G.int a0.Period.fFrom, G.int a0.Period.fTo, G.int a0.Period.Days, G.int a0.Minute]] (G.bool R) := by
  unfold s4 at hR
  refine con_of_aw Tryz.func4 rfl rfl fun w0 M0 => ?_
  refine aw_seq ?_
  refine aw_region [.p, .p] ?_
  refine st rfl rfl (eff_box rfl rfl) rfl ?_
  refine st rfl rfl (eff_assigng rfl rfl) rfl ?_
  refine st_nil ?_
  refine aw_seq ?_
  refine aw_seq ?_
  refine aw_region [.p, .p, .p, .p, .p, .p, .p, .p, .p, .p, .p, .p, .p, .p] ?_
  refine st rfl rfl (eff_call rfl K16 rfl (c16) ag_nil) rfl ?_
  refine st rfl rfl (eff_not rfl rfl) rfl ?_
  refine st rfl rfl (eff_moveg rfl rfl) rfl ?_
  refine st_g rfl rfl rfl (gb_bool _ _) (fun h => eff_fieldAddr rfl fl48_0 rfl) rfl ?_
  refine st_g rfl rfl rfl (gb_bool _ _) (fun h => eff_load rfl ty9 (gd h rfl)) rfl ?_
  refine st_g rfl rfl rfl (gb_bool _ _) (fun h => eff_lenS rfl Tryz.underlying9 (gd h rfl)) rfl ?_
  refine st_g rfl rfl rfl (gb_bool _ _) (fun h => eff_gtr rfl (gd h rfl) rfl) rfl ?_
  refine st rfl rfl (eff_or rfl rfl rfl rfl) rfl ?_
  refine st rfl rfl (eff_moveg rfl rfl) rfl ?_
  refine st_g rfl rfl rfl (gb_bool _ _) (fun h => eff_fieldAddr rfl fl48_1 rfl) rfl ?_
  refine st_g rfl rfl rfl (gb_bool _ _) (fun h => eff_load rfl ty9 (gd h rfl)) rfl ?_
  refine st_g rfl rfl rfl (gb_bool _ _) (fun h => eff_lenS rfl Tryz.underlying9 (gd h rfl)) rfl ?_
  refine st_g rfl rfl rfl (gb_bool _ _) (fun h => eff_gtr rfl (gd h rfl) rfl) rfl ?_
  refine st rfl rfl (eff_or rfl rfl rfl rfl) rfl ?_
  refine st_nil ?_
  refine aw_cond _ rfl (fun h1 => ?_) (fun h1 => ?_)
  · replace h1 : (((!s16) || (decide (60 < (ByteArray.size a0.Name : Int)))) || (decide (60 < (ByteArray.size a0.Kind : Int)))) = true := h1
    replace hR := condT hR h1
    try simp only [Bool.or_eq_true, Bool.and_eq_true, Bool.or_eq_false_iff, Bool.and_eq_false_iff, Bool.not_eq_true', Bool.not_eq_false', decide_eq_true_eq, decide_eq_false_iff_not] at h1
    refine aw_seq ?_
    refine aw_region [.p, .p] ?_
    refine st rfl rfl (eff_call rfl K16 rfl (c16) ag_nil) rfl ?_
    refine st rfl rfl (eff_assigng rfl rfl) rfl ?_
    refine st_nil ?_
    refine aw_ret ?_
    obtain rfl := Option.some.inj hR
    exact res_c rfl (rv_g rfl)
  · replace h1 : (((!s16) || (decide (60 < (ByteArray.size a0.Name : Int)))) || (decide (60 < (ByteArray.size a0.Kind : Int)))) = false := h1
    replace hR := condF hR h1
    try simp only [Bool.or_eq_true, Bool.and_eq_true, Bool.or_eq_false_iff, Bool.and_eq_false_iff, Bool.not_eq_true', Bool.not_eq_false', decide_eq_true_eq, decide_eq_false_iff_not] at h1
    refine aw_skip ?_
    refine aw_seq ?_
    refine aw_region [.p, .p, .p, .p, .p, .p, .p, .p, .p, .p, .p, .p, .p, .p] ?_
    refine st rfl rfl (eff_fieldAddr rfl fl48_0 rfl) rfl ?_
    refine st rfl rfl (eff_load rfl ty9 rfl) rfl ?_
    refine st rfl rfl (eff_fieldAddr rfl fl48_1 rfl) rfl ?_
    refine st rfl rfl (eff_load rfl ty9 rfl) rfl ?_
    refine st rfl rfl (eff_fieldAddr rfl fl48_2 rfl) rfl ?_
    refine st rfl rfl (eff_loadA rfl ty46 rfl rfl rfl) rfl ?_
    refine st rfl rfl (eff_fieldAddr rfl fl48_3 rfl) rfl ?_
    refine st rfl rfl (eff_load rfl ty3 rfl) rfl ?_
    refine st rfl rfl (eff_call rfl K29 rfl (c29' a0.Name a0.Kind (S45.mk a0.Period.fFrom a0.Period.fTo a0.Period.Days) a0.Minute) (ag_cons rfl (ag_cons rfl (ag_cons rfl (ag_cons rfl ag_nil))))) rfl ?_
    refine st rfl rfl (eff_moveg rfl rfl) rfl ?_
    refine st rfl rfl (eff_extract rfl rfl rfl) rfl ?_
    refine st rfl rfl (eff_extract rfl rfl rfl) rfl ?_
    refine st rfl rfl (eff_assigng rfl rfl) rfl ?_
    refine st rfl rfl (eff_assigng rfl rfl) rfl ?_
    refine st_nil ?_
    refine aw_seq ?_
    refine aw_region [.p, .p, .p, .p, .p, .p, .p, .p, .p, .p] ?_
    refine st rfl rfl (eff_fieldAddr rfl fl48_0 rfl) rfl ?_
    refine st rfl rfl (eff_load rfl ty9 rfl) rfl ?_
    refine st rfl rfl (eff_fieldAddr rfl fl48_1 rfl) rfl ?_
    refine st rfl rfl (eff_load rfl ty9 rfl) rfl ?_
    refine st rfl rfl (eff_fieldAddr rfl fl48_2 rfl) rfl ?_
    refine st rfl rfl (eff_loadA rfl ty46 rfl rfl rfl) rfl ?_
    refine st rfl rfl (eff_fieldAddr rfl fl48_3 rfl) rfl ?_
    refine st rfl rfl (eff_load rfl ty3 rfl) rfl ?_
    refine st rfl rfl (eff_call rfl K30 rfl (c30 a0.Name a0.Kind (S45.mk a0.Period.fFrom a0.Period.fTo a0.Period.Days) a0.Minute) (ag_cons rfl (ag_cons rfl (ag_cons rfl (ag_cons rfl ag_nil))))) rfl ?_
    refine st rfl rfl (eff_assigng rfl rfl) rfl ?_
    refine st_nil ?_
    refine aw_seq ?_
    refine aw_region [.p] ?_
    refine st rfl rfl (eff_assigng rfl rfl) rfl ?_
    refine st_nil ?_
    refine aw_seq ?_
    refine aw_seq ?_
    refine aw_region [.p, .p] ?_
    refine st rfl rfl (eff_moveg rfl rfl) rfl ?_
    refine st rfl rfl (eff_eql rfl rfl rfl) rfl ?_
    refine st_nil ?_
    refine aw_cond _ rfl (fun h2 => ?_) (fun h2 => ?_)
    · replace h2 : (decide ((s30 a0.Name a0.Kind (S45.mk a0.Period.fFrom a0.Period.fTo a0.Period.Days) a0.Minute) = 0)) = true := h2
      replace hR := condT hR h2
      try simp only [Bool.or_eq_true, Bool.and_eq_true, Bool.or_eq_false_iff, Bool.and_eq_false_iff, Bool.not_eq_true', Bool.not_eq_false', decide_eq_true_eq, decide_eq_false_iff_not] at h2
      obtain ⟨hq0, hq1, hq2⟩ := ref_ok _ _ _ _ h2
      refine aw_region [.p, .p, .p, .p, .p, .p, .p, .p, .p, .p] ?_
      refine st rfl rfl (eff_fieldAddr rfl fl48_0 rfl) rfl ?_
      refine st rfl rfl (eff_load rfl ty9 rfl) rfl ?_
      refine st rfl rfl (eff_fieldAddr rfl fl48_1 rfl) rfl ?_
      refine st rfl rfl (eff_load rfl ty9 rfl) rfl ?_
      refine st rfl rfl (eff_fieldAddr rfl fl48_2 rfl) rfl ?_
      refine st rfl rfl (eff_loadA rfl ty46 rfl rfl rfl) rfl ?_
      refine st rfl rfl (eff_fieldAddr rfl fl48_3 rfl) rfl ?_
      refine st rfl rfl (eff_load rfl ty3 rfl) rfl ?_
      refine st rfl rfl (eff_call rfl K31 rfl (c31 a0.Name a0.Kind (S45.mk a0.Period.fFrom a0.Period.fTo a0.Period.Days) a0.Minute (by first | assumption | omega | (simp [copyL_len]; omega)) (by first | assumption | omega | (simp [copyL_len]; omega)) (by first | assumption | omega | (simp [copyL_len]; omega))) (ag_cons rfl (ag_cons rfl (ag_cons rfl (ag_cons rfl ag_nil))))) rfl ?_
      refine st rfl rfl (eff_assigng rfl rfl) rfl ?_
      refine st_nil ?_
      refine aw_seq ?_
      obtain ⟨r1, br1, hR⟩ := bindO_inv hR
      refine aw_region [.p, .p, .p, .p, .p, .p, .p, .p, .p, .p] ?_
      refine st rfl rfl (eff_moveg rfl rfl) rfl ?_
      refine st rfl rfl (eff_call rfl K20 rfl (c20 ((s29 a0.Name a0.Kind (S45.mk a0.Period.fFrom a0.Period.fTo a0.Period.Days) a0.Minute).1) (s29_len _ _ _ _)) (ag_cons rfl ag_nil)) rfl ?_
      refine st rfl rfl (eff_moveg rfl rfl) rfl ?_
      refine st rfl rfl (eff_call rfl K32 rfl (c32 (s20 ((s29 a0.Name a0.Kind (S45.mk a0.Period.fFrom a0.Period.fTo a0.Period.Days) a0.Minute).1)) (s31 a0.Name a0.Kind (S45.mk a0.Period.fFrom a0.Period.fTo a0.Period.Days) a0.Minute) br1) (ag_cons rfl (ag_cons rfl ag_nil))) rfl ?_
      refine st rfl rfl (eff_moveg rfl rfl) rfl ?_
      refine st_g rfl rfl rfl (gb_bool _ _) (fun h => eff_moveg rfl rfl) rfl ?_
      refine st_g rfl rfl rfl (gb_bool _ _) (fun h => eff_moveg rfl rfl) rfl ?_
      refine st_g rfl rfl rfl (gb_bool _ _) (fun h => eff_eql rfl (gd h rfl) (gd h rfl)) rfl ?_
      refine st rfl rfl (eff_and rfl rfl rfl rfl) rfl ?_
      refine st rfl rfl (eff_assigng rfl rfl) rfl ?_
      refine st_nil ?_
      refine aw_ret ?_
      obtain rfl := Option.some.inj hR
      exact res_c rfl (rv_g rfl)
    · replace h2 : (decide ((s30 a0.Name a0.Kind (S45.mk a0.Period.fFrom a0.Period.fTo a0.Period.Days) a0.Minute) = 0)) = false := h2
      replace hR := condF hR h2
      try simp only [Bool.or_eq_true, Bool.and_eq_true, Bool.or_eq_false_iff, Bool.and_eq_false_iff, Bool.not_eq_true', Bool.not_eq_false', decide_eq_true_eq, decide_eq_false_iff_not] at h2
      refine aw_skip ?_
      refine aw_seq ?_
      obtain ⟨r2, br2, hR⟩ := bindO_inv hR
      refine aw_region [.p, .p, .p, .p, .p, .p, .p, .p, .p, .p] ?_
      refine st rfl rfl (eff_moveg rfl rfl) rfl ?_
      refine st rfl rfl (eff_call rfl K20 rfl (c20 ((s29 a0.Name a0.Kind (S45.mk a0.Period.fFrom a0.Period.fTo a0.Period.Days) a0.Minute).1) (s29_len _ _ _ _)) (ag_cons rfl ag_nil)) rfl ?_
      refine st rfl rfl (eff_moveg rfl rfl) rfl ?_
      refine st rfl rfl (eff_call rfl K32 rfl (c32n (s20 ((s29 a0.Name a0.Kind (S45.mk a0.Period.fFrom a0.Period.fTo a0.Period.Days) a0.Minute).1)) br2) (ag_cons rfl (ag_cons rfl ag_nil))) rfl ?_
      refine st rfl rfl (eff_moveg rfl rfl) rfl ?_
      refine st_g rfl rfl rfl (gb_bool _ _) (fun h => eff_moveg rfl rfl) rfl ?_
      refine st_g rfl rfl rfl (gb_bool _ _) (fun h => eff_moveg rfl rfl) rfl ?_
      refine st_g rfl rfl rfl (gb_bool _ _) (fun h => eff_eql rfl (gd h rfl) (gd h rfl)) rfl ?_
      refine st rfl rfl (eff_and rfl rfl rfl rfl) rfl ?_
      refine st rfl rfl (eff_assigng rfl rfl) rfl ?_
      refine st_nil ?_
      refine aw_ret ?_
      obtain rfl := Option.some.inj hR
      exact res_c rfl (rv_g rfl)
end Go.Sim

namespace Go.Sim
end Go.Sim

set_option linter.unusedSimpArgs false
set_option linter.unusedVariables false
set_option maxRecDepth 10000
namespace Go.Sim
open Go.Proofs


/-- turnroundref09.before -/
def s127 (a0 : S151) (a1 : S151) : Bool :=
  (bif decide (a0.Moment ≠ a1.Moment) then decide (a0.Moment < a1.Moment) else (bif !decide (a0.Name = a1.Name) then strLt a0.Name a1.Name else strLt a0.Kind a1.Kind || decide (a0.Kind = a1.Kind)))
theorem c127 {g : List (Nat × List Value)} (a0 : S151) (a1 : S151)    : Con (EG g) 127 [G.agg [G.str a0.Name, G.int a0.Moment, G.str a0.Kind], G.agg [G.str a1.Name, G.int a1.Moment, G.str a1.Kind]] (G.bool (s127 a0 a1)) := by
  generalize hR : s127 a0 a1 = R
  unfold s127 at hR
  refine con_of_aw Tryz.func127 rfl rfl fun w0 M0 => ?_
  refine aw_seq ?_
  refine aw_region [.p, .p, .p] ?_
  refine st rfl rfl (eff_box rfl rfl) rfl ?_
  refine st rfl rfl (eff_box rfl rfl) rfl ?_
  refine st rfl rfl (eff_assigng rfl rfl) rfl ?_
  refine st_nil ?_
  refine aw_seq ?_
  refine aw_seq ?_
  refine aw_region [.p, .p, .p, .p, .p] ?_
  refine st rfl rfl (eff_fieldAddr rfl fl160_1 rfl) rfl ?_
  refine st rfl rfl (eff_load rfl ty3 rfl) rfl ?_
  refine st rfl rfl (eff_fieldAddr rfl fl160_1 rfl) rfl ?_
  refine st rfl rfl (eff_load rfl ty3 rfl) rfl ?_
  refine st rfl rfl (eff_neq rfl rfl rfl) rfl ?_
  refine st_nil ?_
  refine aw_cond _ rfl (fun h1 => ?_) (fun h1 => ?_)
  · replace h1 : (decide (a0.Moment ≠ a1.Moment)) = true := h1
    replace hR := condT hR h1
    try simp only [Bool.or_eq_true, Bool.and_eq_true, Bool.or_eq_false_iff, Bool.and_eq_false_iff, Bool.not_eq_true', Bool.not_eq_false', decide_eq_true_eq, decide_eq_false_iff_not] at h1
    refine aw_seq ?_
    refine aw_region [.p, .p, .p, .p, .p, .p] ?_
    refine st rfl rfl (eff_fieldAddr rfl fl160_1 rfl) rfl ?_
    refine st rfl rfl (eff_load rfl ty3 rfl) rfl ?_
    refine st rfl rfl (eff_fieldAddr rfl fl160_1 rfl) rfl ?_
    refine st rfl rfl (eff_load rfl ty3 rfl) rfl ?_
    refine st rfl rfl (eff_lss rfl rfl rfl) rfl ?_
    refine st rfl rfl (eff_assigng rfl rfl) rfl ?_
    refine st_nil ?_
    refine aw_ret ?_
    subst hR
    exact res_c rfl (rv_g rfl)
  · replace h1 : (decide (a0.Moment ≠ a1.Moment)) = false := h1
    replace hR := condF hR h1
    try simp only [Bool.or_eq_true, Bool.and_eq_true, Bool.or_eq_false_iff, Bool.and_eq_false_iff, Bool.not_eq_true', Bool.not_eq_false', decide_eq_true_eq, decide_eq_false_iff_not] at h1
    refine aw_skip ?_
    refine aw_seq ?_
    refine aw_seq ?_
    refine aw_region [.p, .p, .p, .p, .p] ?_
    refine st rfl rfl (eff_fieldAddr rfl fl160_0 rfl) rfl ?_
    refine st rfl rfl (eff_load rfl ty9 rfl) rfl ?_
    refine st rfl rfl (eff_fieldAddr rfl fl160_0 rfl) rfl ?_
    refine st rfl rfl (eff_load rfl ty9 rfl) rfl ?_
    refine st rfl rfl (eff_sne rfl rfl rfl) rfl ?_
    refine st_nil ?_
    refine aw_cond _ rfl (fun h2 => ?_) (fun h2 => ?_)
    · replace h2 : (!decide (a0.Name = a1.Name)) = true := h2
      replace hR := condT hR h2
      try simp only [Bool.or_eq_true, Bool.and_eq_true, Bool.or_eq_false_iff, Bool.and_eq_false_iff, Bool.not_eq_true', Bool.not_eq_false', decide_eq_true_eq, decide_eq_false_iff_not] at h2
      refine aw_seq ?_
      refine aw_region [.p, .p, .p, .p, .p, .p] ?_
      refine st rfl rfl (eff_fieldAddr rfl fl160_0 rfl) rfl ?_
      refine st rfl rfl (eff_load rfl ty9 rfl) rfl ?_
      refine st rfl rfl (eff_fieldAddr rfl fl160_0 rfl) rfl ?_
      refine st rfl rfl (eff_load rfl ty9 rfl) rfl ?_
      refine st rfl rfl (eff_slt rfl rfl rfl) rfl ?_
      refine st rfl rfl (eff_assigng rfl rfl) rfl ?_
      refine st_nil ?_
      refine aw_ret ?_
      subst hR
      exact res_c rfl (rv_g rfl)
    · replace h2 : (!decide (a0.Name = a1.Name)) = false := h2
      replace hR := condF hR h2
      try simp only [Bool.or_eq_true, Bool.and_eq_true, Bool.or_eq_false_iff, Bool.and_eq_false_iff, Bool.not_eq_true', Bool.not_eq_false', decide_eq_true_eq, decide_eq_false_iff_not] at h2
      refine aw_skip ?_
      refine aw_seq ?_
      refine aw_region [.p, .p, .p, .p, .p, .p] ?_
      refine st rfl rfl (eff_fieldAddr rfl fl160_2 rfl) rfl ?_
      refine st rfl rfl (eff_load rfl ty9 rfl) rfl ?_
      refine st rfl rfl (eff_fieldAddr rfl fl160_2 rfl) rfl ?_
      refine st rfl rfl (eff_load rfl ty9 rfl) rfl ?_
      refine st rfl rfl (eff_sle rfl rfl rfl) rfl ?_
      refine st rfl rfl (eff_assigng rfl rfl) rfl ?_
      refine st_nil ?_
      refine aw_ret ?_
      subst hR
      exact res_c rfl (rv_g rfl)

/-- turnroundref09.covers -/
def s179 (a0 : S104) (a1 : S151) : Bool :=
  (((decide (a0.Kind = (⟨#[119, 101, 97, 116, 104, 101, 114]⟩))) || (decide (a0.Name = a1.Name))) && (decide (a0.fFrom ≤ IntKind.i64.wrap (Int.tdiv a1.Moment 1440)))) && (decide (IntKind.i64.wrap (Int.tdiv a1.Moment 1440) ≤ a0.fTo))
theorem c179 {g : List (Nat × List Value)} (a0 : S104) (a1 : S151)    : Con (EG g) 179 [G.agg [G.str a0.Kind, G.str a0.Name, G.int a0.Moment, G.str a0.Move, G.int a0.fFrom, G.int a0.fTo, G.str a0.Cause, G.int a0.Told], G.agg [G.str a1.Name, G.int a1.Moment, G.str a1.Kind]] (G.bool (s179 a0 a1)) := by
  generalize hR : s179 a0 a1 = R
  unfold s179 at hR
  refine con_of_aw Tryz.func179 rfl rfl fun w0 M0 => ?_
  refine aw_seq ?_
  refine aw_region [.p, .p, .p] ?_
  refine st rfl rfl (eff_box rfl rfl) rfl ?_
  refine st rfl rfl (eff_box rfl rfl) rfl ?_
  refine st rfl rfl (eff_assigng rfl rfl) rfl ?_
  refine st_nil ?_
  refine aw_seq ?_
  refine aw_region [.p, .p, .p, .p] ?_
  refine st rfl rfl (eff_fieldAddr rfl fl160_1 rfl) rfl ?_
  refine st rfl rfl (eff_load rfl ty3 rfl) rfl ?_
  refine st rfl rfl (eff_quow rfl rfl rfl (by decide)) rfl ?_
  refine st rfl rfl (eff_assigng rfl rfl) rfl ?_
  refine st_nil ?_
  refine aw_seq ?_
  refine aw_region [.p, .p, .p, .p, .p, .p, .p, .p, .p, .p, .p, .p, .p, .p, .p, .p, .p, .p, .p, .p, .p, .p, .p] ?_
  refine st rfl rfl (eff_fieldAddr rfl fl161_0 rfl) rfl ?_
  refine st rfl rfl (eff_load rfl ty9 rfl) rfl ?_
  refine st rfl rfl (eff_seq rfl rfl rfl) rfl ?_
  refine st rfl rfl (eff_moveg rfl rfl) rfl ?_
  refine st_g rfl rfl rfl (gb_bool _ _) (fun h => eff_fieldAddr rfl fl161_1 rfl) rfl ?_
  refine st_g rfl rfl rfl (gb_bool _ _) (fun h => eff_load rfl ty9 (gd h rfl)) rfl ?_
  refine st_g rfl rfl rfl (gb_bool _ _) (fun h => eff_fieldAddr rfl fl160_0 rfl) rfl ?_
  refine st_g rfl rfl rfl (gb_bool _ _) (fun h => eff_load rfl ty9 (gd h rfl)) rfl ?_
  refine st_g rfl rfl rfl (gb_bool _ _) (fun h => eff_seq rfl (gd h rfl) (gd h rfl)) rfl ?_
  refine st rfl rfl (eff_or rfl rfl rfl rfl) rfl ?_
  refine st rfl rfl (eff_moveg rfl rfl) rfl ?_
  refine st_g rfl rfl rfl (gb_bool _ _) (fun h => eff_moveg rfl rfl) rfl ?_
  refine st_g rfl rfl rfl (gb_bool _ _) (fun h => eff_fieldAddr rfl fl161_4 rfl) rfl ?_
  refine st_g rfl rfl rfl (gb_bool _ _) (fun h => eff_load rfl ty3 (gd h rfl)) rfl ?_
  refine st_g rfl rfl rfl (gb_bool _ _) (fun h => eff_geq rfl (gd h rfl) (gd h rfl)) rfl ?_
  refine st rfl rfl (eff_and rfl rfl rfl rfl) rfl ?_
  refine st rfl rfl (eff_moveg rfl rfl) rfl ?_
  refine st_g rfl rfl rfl (gb_bool _ _) (fun h => eff_moveg rfl rfl) rfl ?_
  refine st_g rfl rfl rfl (gb_bool _ _) (fun h => eff_fieldAddr rfl fl161_5 rfl) rfl ?_
  refine st_g rfl rfl rfl (gb_bool _ _) (fun h => eff_load rfl ty3 (gd h rfl)) rfl ?_
  refine st_g rfl rfl rfl (gb_bool _ _) (fun h => eff_leq rfl (gd h rfl) (gd h rfl)) rfl ?_
  refine st rfl rfl (eff_and rfl rfl rfl rfl) rfl ?_
  refine st rfl rfl (eff_assigng rfl rfl) rfl ?_
  refine st_nil ?_
  refine aw_ret ?_
  subst hR
  exact res_c rfl (rv_g rfl)

/-- turnroundref09.returned -/
def s128_l1 (a0 : S23) (a1 : S151) : List S104 → Nat → Bool
  | [], k2 => false
  | y3 :: t4, k2 => (bif ((decide (y3.Kind = (⟨#[98, 97, 99, 107]⟩))) && (s179 y3 a1)) && (decide (IntKind.i64.wrap (y3.Told + a0.Notice) ≤ IntKind.i64.wrap (Int.tdiv a1.Moment 1440))) then true else s128_l1 a0 a1 t4 (k2 + 1))
def s128 (a0 : S23) (a1 : S151) (a2 : List S104) : Bool :=
  s128_l1 a0 a1 a2 0
theorem c128 {g : List (Nat × List Value)} (a0 : S23) (a1 : S151) (a2 : List S104)    : Con (EG g) 128 [G.agg [G.int a0.Before, G.int a0.After, G.int a0.Notice, G.int a0.Share, G.sl 1 (List.map cStr a0.Causes), G.int a0.Off, G.int a0.Run], G.agg [G.str a1.Name, G.int a1.Moment, G.str a1.Kind], G.sl 8 (List.map S104.c a2)] (G.bool (s128 a0 a1 a2)) := by
  generalize hR : s128 a0 a1 a2 = R
  unfold s128 at hR
  refine con_of_aw Tryz.func128 rfl rfl fun w0 M0 => ?_
  refine len_sl (f := S104.c) (l := a2) 2 rfl fun hla2 => ?_
  refine aw_seq ?_
  refine aw_region [.p, .p, .p] ?_
  refine st rfl rfl (eff_box rfl rfl) rfl ?_
  refine st rfl rfl (eff_box rfl rfl) rfl ?_
  refine st rfl rfl (eff_assigng rfl rfl) rfl ?_
  refine st_nil ?_
  refine aw_seq ?_
  refine aw_seq ?_
  refine aw_region [.p] ?_
  refine st rfl rfl (eff_assigng rfl rfl) rfl ?_
  refine st_nil ?_
  refine aw_block ?_
  refine aw_loop_g (γ := Nat × (List S104)) (fun g => ([(2, .g (G.sl 8 (List.map S104.c a2))), (3, .g (G.ref [G.int a0.Before, G.int a0.After, G.int a0.Notice, G.int a0.Share, G.sl 1 (List.map cStr a0.Causes), G.int a0.Off, G.int a0.Run])), (4, .g (G.ref [G.str a1.Name, G.int a1.Moment, G.str a1.Kind])), (7, .g (G.int ((g.1 : Nat) : Int)))], [])) (fun g => a2.drop g.1 = g.2 ∧ s128_l1 a0 a1 g.2 g.1 = R) (fun g => List.length g.2) ⟨rfl, (0, a2), ⟨rfl, rfl, rfl, rfl, trivial⟩, trivial, rfl, ⟨rfl, hR⟩, trivial⟩ ?_
  · rintro ⟨k2, t4⟩ ⟨hd, hR⟩
    replace hd : a2.drop k2 = t4 := hd
    replace hR : s128_l1 a0 a1 t4 k2 = R := hR
    refine aw_seq ?_
    refine aw_seq ?_
    refine aw_region [.p, .p, .p, .p] ?_
    refine st rfl rfl (eff_moveg rfl rfl) rfl ?_
    refine st rfl rfl (eff_moveg rfl rfl) rfl ?_
    refine st rfl rfl (eff_lenM (f := S104.c) (l := a2) rfl Tryz.underlying35 rfl) rfl ?_
    refine st rfl rfl (eff_lss rfl rfl rfl) rfl ?_
    refine st_nil ?_
    refine len_sl (f := S104.c) (l := a2) 2 rfl fun hlz1 => ?_
    refine aw_cond _ rfl (fun h1 => ?_) (fun h1 => ?_)
    · replace h1 : (decide (((k2 : Nat) : Int) < (List.length a2 : Int))) = true := h1
      obtain ⟨y3, t4, rfl, hx1, hd⟩ := drop_cons hd (decT h1)
      replace h1 := decT h1
      rw [s128_l1] at hR
      try dsimp only at hR
      refine aw_skip ?_
      refine aw_seq ?_
      refine aw_block ?_
      refine aw_seq ?_
      refine aw_draw [.p, .p, .p, .p, .p, .p, .p, .p, .p, .p, .p, .p, .p, .p, .p, .p, .p, .p, .p, .p, .p, .p, .p, .p, .p, .p, .p, .p] (by kernel_rfl) ?_
      refine st rfl rfl (eff_moveg rfl rfl) rfl ?_
      refine st rfl rfl (eff_moveg rfl rfl) rfl ?_
      refine st rfl rfl (eff_ix (f := S104.c) (l := a2) (a := y3) rfl Tryz.underlying35 ty161 rfl rfl (Int.natCast_nonneg _) hx1) rfl ?_
      refine st rfl rfl (eff_fieldAddr rfl fl161_0 rfl) rfl ?_
      refine st rfl rfl (eff_load rfl ty9 rfl) rfl ?_
      refine st rfl rfl (eff_seq rfl rfl rfl) rfl ?_
      refine st rfl rfl (eff_moveg rfl rfl) rfl ?_
      refine st_g rfl rfl rfl (gb_bool _ _) (fun h => eff_moveg rfl rfl) rfl ?_
      refine st_g rfl rfl rfl (gb_bool _ _) (fun h => eff_moveg rfl rfl) rfl ?_
      refine st_g rfl rfl rfl (gb_bool _ _) (fun h => eff_ix (f := S104.c) (l := a2) (a := y3) rfl Tryz.underlying35 ty161 (gd h rfl) (gd h rfl) (Int.natCast_nonneg _) hx1) rfl ?_
      refine st_g rfl rfl rfl (gb_bool _ _) (fun h => eff_loadA rfl ty161 (gd h rfl) rfl rfl) rfl ?_
      refine st_g rfl rfl rfl (gb_bool _ _) (fun h => eff_loadA rfl ty160 rfl rfl rfl) rfl ?_
      refine st_g rfl rfl rfl (gb_bool _ _) (fun h => eff_call rfl K179 rfl (c179 y3 a1) (ag_cons (gd h rfl) (ag_cons (gd h rfl) ag_nil))) rfl ?_
      refine st rfl rfl (eff_and rfl rfl rfl rfl) rfl ?_
      refine st rfl rfl (eff_moveg rfl rfl) rfl ?_
      refine st_g rfl rfl rfl (gb_bool _ _) (fun h => eff_moveg rfl rfl) rfl ?_
      refine st_g rfl rfl rfl (gb_bool _ _) (fun h => eff_moveg rfl rfl) rfl ?_
      refine st_g rfl rfl rfl (gb_bool _ _) (fun h => eff_ix (f := S104.c) (l := a2) (a := y3) rfl Tryz.underlying35 ty161 (gd h rfl) (gd h rfl) (Int.natCast_nonneg _) hx1) rfl ?_
      refine st_g rfl rfl rfl (gb_bool _ _) (fun h => eff_fieldAddr rfl fl161_7 (gd h rfl)) rfl ?_
      refine st_g rfl rfl rfl (gb_bool _ _) (fun h => eff_load rfl ty3 (gd h rfl)) rfl ?_
      refine st_g rfl rfl rfl (gb_bool _ _) (fun h => eff_fieldAddr rfl fl29_2 rfl) rfl ?_
      refine st_g rfl rfl rfl (gb_bool _ _) (fun h => eff_load rfl ty3 (gd h rfl)) rfl ?_
      refine st_g rfl rfl rfl (gb_bool _ _) (fun h => eff_addw rfl (gd h rfl) (gd h rfl)) rfl ?_
      refine st_g rfl rfl rfl (gb_bool _ _) (fun h => eff_fieldAddr rfl fl160_1 rfl) rfl ?_
      refine st_g rfl rfl rfl (gb_bool _ _) (fun h => eff_load rfl ty3 (gd h rfl)) rfl ?_
      refine st_g rfl rfl rfl (gb_bool _ _) (fun h => eff_quow rfl (gd h rfl) rfl (by decide)) rfl ?_
      refine st_g rfl rfl rfl (gb_bool _ _) (fun h => eff_leq rfl (gd h rfl) (gd h rfl)) rfl ?_
      refine st rfl rfl (eff_and rfl rfl rfl rfl) rfl ?_
      refine st_nil ?_
      refine aw_cond _ rfl (fun h3 => ?_) (fun h3 => ?_)
      · replace h3 : (((decide (y3.Kind = (⟨#[98, 97, 99, 107]⟩))) && (s179 y3 a1)) && (decide (IntKind.i64.wrap (y3.Told + a0.Notice) ≤ IntKind.i64.wrap (Int.tdiv a1.Moment 1440)))) = true := h3
        replace hR := condT hR h3
        try simp only [Bool.or_eq_true, Bool.and_eq_true, Bool.or_eq_false_iff, Bool.and_eq_false_iff, Bool.not_eq_true', Bool.not_eq_false', decide_eq_true_eq, decide_eq_false_iff_not] at h3
        refine aw_seq ?_
        refine aw_region [.p] ?_
        refine st rfl rfl (eff_assigng rfl rfl) rfl ?_
        refine st_nil ?_
        refine aw_ret ?_
        subst hR
        exact res_c rfl (rv_g rfl)
      · replace h3 : (((decide (y3.Kind = (⟨#[98, 97, 99, 107]⟩))) && (s179 y3 a1)) && (decide (IntKind.i64.wrap (y3.Told + a0.Notice) ≤ IntKind.i64.wrap (Int.tdiv a1.Moment 1440)))) = false := h3
        replace hR := condF hR h3
        try simp only [Bool.or_eq_true, Bool.and_eq_true, Bool.or_eq_false_iff, Bool.and_eq_false_iff, Bool.not_eq_true', Bool.not_eq_false', decide_eq_true_eq, decide_eq_false_iff_not] at h3
        refine aw_skip ?_
        refine aw_region [.p, .p, .p] ?_
        refine st rfl rfl (eff_moveg rfl rfl) rfl ?_
        refine st rfl rfl (eff_add rfl rfl rfl (by unfold I64; omega)) rfl ?_
        refine st rfl rfl (eff_assigng rfl rfl) rfl ?_
        refine st_nil ?_
        exact ⟨rfl, (k2 + 1, t4), ⟨rfl, rfl, rfl, rfl, trivial⟩, trivial, rfl, ⟨hd, hR⟩, by simp⟩
    · replace h1 : (decide (((k2 : Nat) : Int) < (List.length a2 : Int))) = false := h1
      obtain rfl := drop_nil hd (decF h1)
      rw [s128_l1] at hR
      refine aw_exit ?_
      refine aw_seq ?_
      refine aw_region [.p] ?_
      refine st rfl rfl (eff_assigng rfl rfl) rfl ?_
      refine st_nil ?_
      refine aw_ret ?_
      subst hR
      exact res_c rfl (rv_g rfl)

/-- turnroundref09.excused -/
def s129_l1 (a0 : S23) (a1 : S151) : List S104 → Nat → Bool
  | [], k2 => false
  | y3 :: t4, k2 => (bif (s179 y3 a1) && ((decide (y3.Kind = (⟨#[119, 101, 97, 116, 104, 101, 114]⟩))) || ((decide (y3.Kind = (⟨#[99, 97, 110, 99, 101, 108]⟩))) && (s92 a0.Causes y3.Cause))) then true else s129_l1 a0 a1 t4 (k2 + 1))
def s129 (a0 : S23) (a1 : S151) (a2 : List S104) : Bool :=
  s129_l1 a0 a1 a2 0
theorem c129 {g : List (Nat × List Value)} (a0 : S23) (a1 : S151) (a2 : List S104)    : Con (EG g) 129 [G.agg [G.int a0.Before, G.int a0.After, G.int a0.Notice, G.int a0.Share, G.sl 1 (List.map cStr a0.Causes), G.int a0.Off, G.int a0.Run], G.agg [G.str a1.Name, G.int a1.Moment, G.str a1.Kind], G.sl 8 (List.map S104.c a2)] (G.bool (s129 a0 a1 a2)) := by
  generalize hR : s129 a0 a1 a2 = R
  unfold s129 at hR
  refine con_of_aw Tryz.func129 rfl rfl fun w0 M0 => ?_
  refine len_sl (f := S104.c) (l := a2) 2 rfl fun hla2 => ?_
  refine aw_seq ?_
  refine aw_region [.p, .p, .p] ?_
  refine st rfl rfl (eff_box rfl rfl) rfl ?_
  refine st rfl rfl (eff_box rfl rfl) rfl ?_
  refine st rfl rfl (eff_assigng rfl rfl) rfl ?_
  refine st_nil ?_
  refine aw_seq ?_
  refine aw_seq ?_
  refine aw_region [.p] ?_
  refine st rfl rfl (eff_assigng rfl rfl) rfl ?_
  refine st_nil ?_
  refine aw_block ?_
  refine aw_loop_g (γ := Nat × (List S104)) (fun g => ([(2, .g (G.sl 8 (List.map S104.c a2))), (3, .g (G.ref [G.int a0.Before, G.int a0.After, G.int a0.Notice, G.int a0.Share, G.sl 1 (List.map cStr a0.Causes), G.int a0.Off, G.int a0.Run])), (4, .g (G.ref [G.str a1.Name, G.int a1.Moment, G.str a1.Kind])), (7, .g (G.int ((g.1 : Nat) : Int)))], [])) (fun g => a2.drop g.1 = g.2 ∧ s129_l1 a0 a1 g.2 g.1 = R) (fun g => List.length g.2) ⟨rfl, (0, a2), ⟨rfl, rfl, rfl, rfl, trivial⟩, trivial, rfl, ⟨rfl, hR⟩, trivial⟩ ?_
  · rintro ⟨k2, t4⟩ ⟨hd, hR⟩
    replace hd : a2.drop k2 = t4 := hd
    replace hR : s129_l1 a0 a1 t4 k2 = R := hR
    refine aw_seq ?_
    refine aw_seq ?_
    refine aw_region [.p, .p, .p, .p] ?_
    refine st rfl rfl (eff_moveg rfl rfl) rfl ?_
    refine st rfl rfl (eff_moveg rfl rfl) rfl ?_
    refine st rfl rfl (eff_lenM (f := S104.c) (l := a2) rfl Tryz.underlying35 rfl) rfl ?_
    refine st rfl rfl (eff_lss rfl rfl rfl) rfl ?_
    refine st_nil ?_
    refine len_sl (f := S104.c) (l := a2) 2 rfl fun hlz1 => ?_
    refine aw_cond _ rfl (fun h1 => ?_) (fun h1 => ?_)
    · replace h1 : (decide (((k2 : Nat) : Int) < (List.length a2 : Int))) = true := h1
      obtain ⟨y3, t4, rfl, hx1, hd⟩ := drop_cons hd (decT h1)
      replace h1 := decT h1
      rw [s129_l1] at hR
      try dsimp only at hR
      refine aw_skip ?_
      refine aw_seq ?_
      refine aw_block ?_
      refine aw_seq ?_
      refine aw_draw [.p, .p, .p, .p, .p, .p, .p, .p, .p, .p, .p, .p, .p, .p, .p, .p, .p, .p, .p, .p, .p, .p, .p, .p, .p, .p, .p, .p, .p, .p, .p, .p] (by kernel_rfl) ?_
      refine st rfl rfl (eff_moveg rfl rfl) rfl ?_
      refine st rfl rfl (eff_moveg rfl rfl) rfl ?_
      refine st rfl rfl (eff_ix (f := S104.c) (l := a2) (a := y3) rfl Tryz.underlying35 ty161 rfl rfl (Int.natCast_nonneg _) hx1) rfl ?_
      refine st rfl rfl (eff_loadA rfl ty161 rfl rfl rfl) rfl ?_
      refine st rfl rfl (eff_loadA rfl ty160 rfl rfl rfl) rfl ?_
      refine st rfl rfl (eff_call rfl K179 rfl (c179 y3 a1) (ag_cons rfl (ag_cons rfl ag_nil))) rfl ?_
      refine st rfl rfl (eff_moveg rfl rfl) rfl ?_
      refine st_g rfl rfl rfl (gb_bool _ _) (fun h => eff_moveg rfl rfl) rfl ?_
      refine st_g rfl rfl rfl (gb_bool _ _) (fun h => eff_moveg rfl rfl) rfl ?_
      refine st_g rfl rfl rfl (gb_bool _ _) (fun h => eff_ix (f := S104.c) (l := a2) (a := y3) rfl Tryz.underlying35 ty161 (gd h rfl) (gd h rfl) (Int.natCast_nonneg _) hx1) rfl ?_
      refine st_g rfl rfl rfl (gb_bool _ _) (fun h => eff_fieldAddr rfl fl161_0 (gd h rfl)) rfl ?_
      refine st_g rfl rfl rfl (gb_bool _ _) (fun h => eff_load rfl ty9 (gd h rfl)) rfl ?_
      refine st_g rfl rfl rfl (gb_bool _ _) (fun h => eff_seq rfl (gd h rfl) rfl) rfl ?_
      refine st_g rfl rfl rfl (gb_bool _ _) (fun h => eff_moveg rfl (gd h rfl)) rfl ?_
      refine st_g rfl rfl rfl (gb_if _ _ _) (fun h => eff_moveg rfl rfl) rfl ?_
      refine st_g rfl rfl rfl (gb_if _ _ _) (fun h => eff_moveg rfl rfl) rfl ?_
      refine st_g rfl rfl rfl (gb_if _ _ _) (fun h => eff_ix (f := S104.c) (l := a2) (a := y3) rfl Tryz.underlying35 ty161 (gd h rfl) (gd h rfl) (Int.natCast_nonneg _) hx1) rfl ?_
      refine st_g rfl rfl rfl (gb_if _ _ _) (fun h => eff_fieldAddr rfl fl161_0 (gd h rfl)) rfl ?_
      refine st_g rfl rfl rfl (gb_if _ _ _) (fun h => eff_load rfl ty9 (gd h rfl)) rfl ?_
      refine st_g rfl rfl rfl (gb_if _ _ _) (fun h => eff_seq rfl (gd h rfl) rfl) rfl ?_
      refine st_g rfl rfl rfl (gb_if _ _ _) (fun h => eff_moveg rfl (gd h rfl)) rfl ?_
      refine st_g rfl rfl rfl (gb_if _ _ _) (fun h => eff_fieldAddr rfl fl29_4 rfl) rfl ?_
      refine st_g rfl rfl rfl (gb_if _ _ _) (fun h => eff_load rfl ty22 (gd h rfl)) rfl ?_
      refine st_g rfl rfl rfl (gb_if _ _ _) (fun h => eff_moveg rfl rfl) rfl ?_
      refine st_g rfl rfl rfl (gb_if _ _ _) (fun h => eff_moveg rfl rfl) rfl ?_
      refine st_g rfl rfl rfl (gb_if _ _ _) (fun h => eff_ix (f := S104.c) (l := a2) (a := y3) rfl Tryz.underlying35 ty161 (gd h rfl) (gd h rfl) (Int.natCast_nonneg _) hx1) rfl ?_
      refine st_g rfl rfl rfl (gb_if _ _ _) (fun h => eff_fieldAddr rfl fl161_6 (gd h rfl)) rfl ?_
      refine st_g rfl rfl rfl (gb_if _ _ _) (fun h => eff_load rfl ty9 (gd h rfl)) rfl ?_
      refine st_g rfl rfl rfl (gb_if _ _ _) (fun h => eff_call rfl K92 rfl (c92 a0.Causes y3.Cause) (ag_cons (gd h rfl) (ag_cons (gd h rfl) ag_nil))) rfl ?_
      refine st_g rfl rfl rfl (gb_if _ _ _) (fun h => eff_and rfl (gd h rfl) rfl (gd2 h rfl)) rfl ?_
      refine st_g rfl rfl rfl (gb_bool _ _) (fun h => eff_or rfl (gd h rfl) rfl (gd2 h rfl)) rfl ?_
      refine st rfl rfl (eff_and rfl rfl rfl rfl) rfl ?_
      refine st_nil ?_
      refine aw_cond _ rfl (fun h3 => ?_) (fun h3 => ?_)
      · replace h3 : ((s179 y3 a1) && ((decide (y3.Kind = (⟨#[119, 101, 97, 116, 104, 101, 114]⟩))) || ((decide (y3.Kind = (⟨#[99, 97, 110, 99, 101, 108]⟩))) && (s92 a0.Causes y3.Cause)))) = true := h3
        replace hR := condT hR h3
        try simp only [Bool.or_eq_true, Bool.and_eq_true, Bool.or_eq_false_iff, Bool.and_eq_false_iff, Bool.not_eq_true', Bool.not_eq_false', decide_eq_true_eq, decide_eq_false_iff_not] at h3
        refine aw_seq ?_
        refine aw_region [.p] ?_
        refine st rfl rfl (eff_assigng rfl rfl) rfl ?_
        refine st_nil ?_
        refine aw_ret ?_
        subst hR
        exact res_c rfl (rv_g rfl)
      · replace h3 : ((s179 y3 a1) && ((decide (y3.Kind = (⟨#[119, 101, 97, 116, 104, 101, 114]⟩))) || ((decide (y3.Kind = (⟨#[99, 97, 110, 99, 101, 108]⟩))) && (s92 a0.Causes y3.Cause)))) = false := h3
        replace hR := condF hR h3
        try simp only [Bool.or_eq_true, Bool.and_eq_true, Bool.or_eq_false_iff, Bool.and_eq_false_iff, Bool.not_eq_true', Bool.not_eq_false', decide_eq_true_eq, decide_eq_false_iff_not] at h3
        refine aw_skip ?_
        refine aw_region [.p, .p, .p] ?_
        refine st rfl rfl (eff_moveg rfl rfl) rfl ?_
        refine st rfl rfl (eff_add rfl rfl rfl (by unfold I64; omega)) rfl ?_
        refine st rfl rfl (eff_assigng rfl rfl) rfl ?_
        refine st_nil ?_
        exact ⟨rfl, (k2 + 1, t4), ⟨rfl, rfl, rfl, rfl, trivial⟩, trivial, rfl, ⟨hd, hR⟩, by simp⟩
    · replace h1 : (decide (((k2 : Nat) : Int) < (List.length a2 : Int))) = false := h1
      obtain rfl := drop_nil hd (decF h1)
      rw [s129_l1] at hR
      refine aw_exit ?_
      refine aw_seq ?_
      refine aw_region [.p] ?_
      refine st rfl rfl (eff_assigng rfl rfl) rfl ?_
      refine st_nil ?_
      refine aw_ret ?_
      subst hR
      exact res_c rfl (rv_g rfl)

/-- turnroundref09.ratio -/
def s130_j1 (rec1 : Nat → Int → Int → Option S55) (k4 : Nat) (x7 : Int) (x8 : Int) : Option S55 :=
  rec1 (k4 + 1) x7 x8
def s130_l1 (a1 : List ByteArray) (a2 : ByteArray) (a3 : Int) : List S151 → Nat → Int → Int → Option S55
  | [], k4, x2, x3 => some (S55.mk x2 x3)
  | y5 :: t6, k4, x2, x3 => bindO (bif !(((!decide (a2 = (⟨#[]⟩))) && (!decide (y5.Name = a2))) || ((decide (0 ≤ a3)) && (decide ((s180 (IntKind.i64.wrap (Int.tdiv y5.Moment 1440))) ≠ a3)))) then ixO a1 ((k4 : Nat) : Int) else some default) fun y9 => (bif (((!decide (a2 = (⟨#[]⟩))) && (!decide (y5.Name = a2))) || ((decide (0 ≤ a3)) && (decide ((s180 (IntKind.i64.wrap (Int.tdiv y5.Moment 1440))) ≠ a3)))) || (decide (y9 = (⟨#[114, 101, 116, 117, 114, 110, 101, 100]⟩))) then s130_j1 (fun k_ z0_ z1_ => s130_l1 a1 a2 a3 t6 k_ z0_ z1_) k4 x2 x3 else bindO (ixO a1 ((k4 : Nat) : Int)) fun y10 => (bif !decide (y10 = (⟨#[109, 105, 115, 115, 101, 100]⟩)) then s130_j1 (fun k_ z0_ z1_ => s130_l1 a1 a2 a3 t6 k_ z0_ z1_) k4 (IntKind.i64.wrap (x2 + 1)) (IntKind.i64.wrap (x3 + 1)) else s130_j1 (fun k_ z0_ z1_ => s130_l1 a1 a2 a3 t6 k_ z0_ z1_) k4 x2 (IntKind.i64.wrap (x3 + 1))))
def s130 (a0 : List S151) (a1 : List ByteArray) (a2 : ByteArray) (a3 : Int) : Option S55 :=
  s130_l1 a1 a2 a3 a0 0 0 0
theorem c130 {g : List (Nat × List Value)} (a0 : List S151) (a1 : List ByteArray) (a2 : ByteArray) (a3 : Int) {R : S55}   (hR : s130 a0 a1 a2 a3 = some R) : Con (EG g) 130 [G.sl 3 (List.map S151.c a0), G.sl 1 (List.map cStr a1), G.str a2, G.int a3] (G.agg [G.int R.Flown, G.int R.Due]) := by
  unfold s130 at hR
  refine con_of_aw Tryz.func130 rfl rfl fun w0 M0 => ?_
  refine len_sl (f := S151.c) (l := a0) 0 rfl fun hla0 => ?_
  refine len_sl (f := cStr) (l := a1) 1 rfl fun hla1 => ?_
  refine aw_seq ?_
  refine aw_region [.w] ?_
  refine st_w rfl rfl (eff_alloc 8 rfl z63 rfl rfl) rfl ?_
  refine st_nil ?_
  refine aw_seq ?_
  refine aw_region [.w] ?_
  refine st_w rfl rfl (eff_alloc 9 rfl z63 rfl rfl) rfl ?_
  refine st_nil ?_
  refine aw_seq ?_
  refine aw_seq ?_
  refine aw_region [.p] ?_
  refine st rfl rfl (eff_assigng rfl rfl) rfl ?_
  refine st_nil ?_
  refine aw_block ?_
  refine aw_loop_g (γ := Nat × (List S151) × Int × Int) (fun g => ([(0, .g (G.sl 3 (List.map S151.c a0))), (1, .g (G.sl 1 (List.map cStr a1))), (2, .g (G.str a2)), (3, .g (G.int a3)), (8, .ptr 8 0), (9, .ptr 9 0), (10, .g (G.int ((g.1 : Nat) : Int)))], [(8, .box [.g (G.int 0), .g (G.int 0)]), (9, .box [.g (G.int g.2.2.1), .g (G.int g.2.2.2)])])) (fun g => a0.drop g.1 = g.2.1 ∧ s130_l1 a1 a2 a3 g.2.1 g.1 g.2.2.1 g.2.2.2 = some R) (fun g => List.length g.2.1) ⟨rfl, (0, a0, 0, 0), ⟨rfl, rfl, rfl, rfl, rfl, rfl, rfl, trivial⟩, ⟨rfl, rfl, trivial⟩, rfl, ⟨rfl, hR⟩, trivial⟩ ?_
  · rintro ⟨k4, t6, x2, x3⟩ ⟨hd, hR⟩
    replace hd : a0.drop k4 = t6 := hd
    replace hR : s130_l1 a1 a2 a3 t6 k4 x2 x3 = some R := hR
    refine aw_seq ?_
    refine aw_seq ?_
    refine aw_region [.p, .p, .p, .p] ?_
    refine st rfl rfl (eff_moveg rfl rfl) rfl ?_
    refine st rfl rfl (eff_moveg rfl rfl) rfl ?_
    refine st rfl rfl (eff_lenM (f := S151.c) (l := a0) rfl Tryz.underlying32 rfl) rfl ?_
    refine st rfl rfl (eff_lss rfl rfl rfl) rfl ?_
    refine st_nil ?_
    refine len_sl (f := S151.c) (l := a0) 0 rfl fun hlz1 => ?_
    refine aw_cond _ rfl (fun h1 => ?_) (fun h1 => ?_)
    · replace h1 : (decide (((k4 : Nat) : Int) < (List.length a0 : Int))) = true := h1
      obtain ⟨y5, t6, rfl, hx1, hd⟩ := drop_cons hd (decT h1)
      replace h1 := decT h1
      rw [s130_l1] at hR
      try dsimp only at hR
      refine aw_skip ?_
      refine aw_cut_g (γ := Int × Int) (fun g => ([(0, .g (G.sl 3 (List.map S151.c a0))), (1, .g (G.sl 1 (List.map cStr a1))), (2, .g (G.str a2)), (3, .g (G.int a3)), (8, .ptr 8 0), (9, .ptr 9 0), (10, .g (G.int ((k4 : Nat) : Int)))], [(8, .box [.g (G.int 0), .g (G.int 0)]), (9, .box [.g (G.int g.1), .g (G.int g.2)])])) (fun g => s130_j1 (fun k_ z0_ z1_ => s130_l1 a1 a2 a3 t6 k_ z0_ z1_) k4 g.1 g.2 = some R) ?_ ?_
      · refine aw_block ?_
        refine aw_seq ?_
        refine aw_seq ?_
        obtain ⟨y9, by9, hR⟩ := bindO_inv hR
        refine aw_region [.p, .p, .p, .p, .p, .p, .p, .p, .p, .p, .p, .p, .p, .p, .p, .p, .p, .p, .p, .p, .p, .p, .p, .p, .p, .p, .p, .p, .p, .p, .p, .p, .p] ?_
        refine st rfl rfl (eff_moveg rfl rfl) rfl ?_
        refine st rfl rfl (eff_sne rfl rfl rfl) rfl ?_
        refine st rfl rfl (eff_moveg rfl rfl) rfl ?_
        refine st_g rfl rfl rfl (gb_bool _ _) (fun h => eff_moveg rfl rfl) rfl ?_
        refine st_g rfl rfl rfl (gb_bool _ _) (fun h => eff_moveg rfl rfl) rfl ?_
        refine st_g rfl rfl rfl (gb_bool _ _) (fun h => eff_ix (f := S151.c) (l := a0) (a := y5) rfl Tryz.underlying32 ty160 (gd h rfl) (gd h rfl) (Int.natCast_nonneg _) hx1) rfl ?_
        refine st_g rfl rfl rfl (gb_bool _ _) (fun h => eff_fieldAddr rfl fl160_0 (gd h rfl)) rfl ?_
        refine st_g rfl rfl rfl (gb_bool _ _) (fun h => eff_load rfl ty9 (gd h rfl)) rfl ?_
        refine st_g rfl rfl rfl (gb_bool _ _) (fun h => eff_moveg rfl rfl) rfl ?_
        refine st_g rfl rfl rfl (gb_bool _ _) (fun h => eff_sne rfl (gd h rfl) (gd h rfl)) rfl ?_
        refine st rfl rfl (eff_and rfl rfl rfl rfl) rfl ?_
        refine st rfl rfl (eff_moveg rfl rfl) rfl ?_
        refine st_g rfl rfl rfl (gb_bool _ _) (fun h => eff_moveg rfl rfl) rfl ?_
        refine st_g rfl rfl rfl (gb_bool _ _) (fun h => eff_geq rfl (gd h rfl) rfl) rfl ?_
        refine st_g rfl rfl rfl (gb_bool _ _) (fun h => eff_moveg rfl (gd h rfl)) rfl ?_
        refine st_g rfl rfl rfl (gb_if _ _ _) (fun h => eff_moveg rfl rfl) rfl ?_
        refine st_g rfl rfl rfl (gb_if _ _ _) (fun h => eff_moveg rfl rfl) rfl ?_
        refine st_g rfl rfl rfl (gb_if _ _ _) (fun h => eff_ix (f := S151.c) (l := a0) (a := y5) rfl Tryz.underlying32 ty160 (gd h rfl) (gd h rfl) (Int.natCast_nonneg _) hx1) rfl ?_
        refine st_g rfl rfl rfl (gb_if _ _ _) (fun h => eff_fieldAddr rfl fl160_1 (gd h rfl)) rfl ?_
        refine st_g rfl rfl rfl (gb_if _ _ _) (fun h => eff_load rfl ty3 (gd h rfl)) rfl ?_
        refine st_g rfl rfl rfl (gb_if _ _ _) (fun h => eff_quow rfl (gd h rfl) rfl (by decide)) rfl ?_
        refine st_g rfl rfl rfl (gb_if _ _ _) (fun h => eff_call rfl K180 rfl (c180 (IntKind.i64.wrap (Int.tdiv y5.Moment 1440))) (ag_cons (gd h rfl) ag_nil)) rfl ?_
        refine st_g rfl rfl rfl (gb_if _ _ _) (fun h => eff_moveg rfl rfl) rfl ?_
        refine st_g rfl rfl rfl (gb_if _ _ _) (fun h => eff_neq rfl (gd h rfl) (gd h rfl)) rfl ?_
        refine st_g rfl rfl rfl (gb_bool _ _) (fun h => eff_and rfl (gd h rfl) rfl (gd2 h rfl)) rfl ?_
        refine st rfl rfl (eff_or rfl rfl rfl rfl) rfl ?_
        refine st rfl rfl (eff_moveg rfl rfl) rfl ?_
        refine st_g rfl rfl rfl (gb_bool _ _) (fun h => eff_moveg rfl rfl) rfl ?_
        refine st_g rfl rfl rfl (gb_bool _ _) (fun h => eff_moveg rfl rfl) rfl ?_
        refine st_g rfl rfl rfl (gb_bool _ _) (fun h => eff_ix (f := cStr) (l := a1) (a := y9) rfl Tryz.underlying22 ty9 (gd h rfl) (gd h rfl) (ixO_nn (condF1 by9 h)) (ixO_get (condF1 by9 h))) rfl ?_
        refine st_g rfl rfl rfl (gb_bool _ _) (fun h => eff_load rfl ty9 (gd h rfl)) rfl ?_
        refine st_g rfl rfl rfl (gb_bool _ _) (fun h => eff_seq rfl (gd h rfl) rfl) rfl ?_
        refine st rfl rfl (eff_or rfl rfl rfl rfl) rfl ?_
        refine st_nil ?_
        refine aw_cond _ rfl (fun h3 => ?_) (fun h3 => ?_)
        · replace h3 : ((((!decide (a2 = (⟨#[]⟩))) && (!decide (y5.Name = a2))) || ((decide (0 ≤ a3)) && (decide ((s180 (IntKind.i64.wrap (Int.tdiv y5.Moment 1440))) ≠ a3)))) || (decide (y9 = (⟨#[114, 101, 116, 117, 114, 110, 101, 100]⟩)))) = true := h3
          replace hR := condT hR h3
          try simp only [Bool.or_eq_true, Bool.and_eq_true, Bool.or_eq_false_iff, Bool.and_eq_false_iff, Bool.not_eq_true', Bool.not_eq_false', decide_eq_true_eq, decide_eq_false_iff_not] at h3
          refine aw_exit ?_
          exact ⟨rfl, (x2, x3), ⟨rfl, rfl, rfl, rfl, rfl, rfl, rfl, trivial⟩, ⟨rfl, rfl, trivial⟩, rfl, hR, trivial⟩
        · replace h3 : ((((!decide (a2 = (⟨#[]⟩))) && (!decide (y5.Name = a2))) || ((decide (0 ≤ a3)) && (decide ((s180 (IntKind.i64.wrap (Int.tdiv y5.Moment 1440))) ≠ a3)))) || (decide (y9 = (⟨#[114, 101, 116, 117, 114, 110, 101, 100]⟩)))) = false := h3
          replace hR := condF hR h3
          try simp only [Bool.or_eq_true, Bool.and_eq_true, Bool.or_eq_false_iff, Bool.and_eq_false_iff, Bool.not_eq_true', Bool.not_eq_false', decide_eq_true_eq, decide_eq_false_iff_not] at h3
          refine aw_skip ?_
          refine aw_seq ?_
          refine aw_region [.p, .r, .p, .p, .w] ?_
          refine st rfl rfl (eff_fieldO rfl fl63_1 rfl) rfl ?_
          refine st_r rfl rfl (eff_loadO rfl ty3 rfl rfl rfl) rfl ?_
          refine st rfl rfl (eff_addw rfl rfl rfl) rfl ?_
          refine st rfl rfl (eff_fieldO rfl fl63_1 rfl) rfl ?_
          refine st_wn rfl rfl (eff_store (tv := .g (G.int (IntKind.i64.wrap (x3 + 1)))) rfl ty3 rfl rfl rfl rfl rfl) ?_
          refine st_nil ?_
          refine aw_seq ?_
          obtain ⟨y10, by10, hR⟩ := bindO_inv hR
          refine aw_region [.p, .p, .p, .p, .p] ?_
          refine st rfl rfl (eff_moveg rfl rfl) rfl ?_
          refine st rfl rfl (eff_moveg rfl rfl) rfl ?_
          refine st rfl rfl (eff_ix (f := cStr) (l := a1) (a := y10) rfl Tryz.underlying22 ty9 rfl rfl (ixO_nn by10) (ixO_get by10)) rfl ?_
          refine st rfl rfl (eff_load rfl ty9 rfl) rfl ?_
          refine st rfl rfl (eff_sne rfl rfl rfl) rfl ?_
          refine st_nil ?_
          refine aw_cond _ rfl (fun h4 => ?_) (fun h4 => ?_)
          · replace h4 : (!decide (y10 = (⟨#[109, 105, 115, 115, 101, 100]⟩))) = true := h4
            replace hR := condT hR h4
            try simp only [Bool.or_eq_true, Bool.and_eq_true, Bool.or_eq_false_iff, Bool.and_eq_false_iff, Bool.not_eq_true', Bool.not_eq_false', decide_eq_true_eq, decide_eq_false_iff_not] at h4
            refine aw_region [.p, .r, .p, .p, .w] ?_
            refine st rfl rfl (eff_fieldO rfl fl63_0 rfl) rfl ?_
            refine st_r rfl rfl (eff_loadO rfl ty3 rfl rfl rfl) rfl ?_
            refine st rfl rfl (eff_addw rfl rfl rfl) rfl ?_
            refine st rfl rfl (eff_fieldO rfl fl63_0 rfl) rfl ?_
            refine st_wn rfl rfl (eff_store (tv := .g (G.int (IntKind.i64.wrap (x2 + 1)))) rfl ty3 rfl rfl rfl rfl rfl) ?_
            refine st_nil ?_
            exact ⟨rfl, (IntKind.i64.wrap (x2 + 1), IntKind.i64.wrap (x3 + 1)), ⟨rfl, rfl, rfl, rfl, rfl, rfl, rfl, trivial⟩, ⟨rfl, rfl, trivial⟩, rfl, hR, trivial⟩
          · replace h4 : (!decide (y10 = (⟨#[109, 105, 115, 115, 101, 100]⟩))) = false := h4
            replace hR := condF hR h4
            try simp only [Bool.or_eq_true, Bool.and_eq_true, Bool.or_eq_false_iff, Bool.and_eq_false_iff, Bool.not_eq_true', Bool.not_eq_false', decide_eq_true_eq, decide_eq_false_iff_not] at h4
            refine aw_skip ?_
            exact ⟨rfl, (x2, IntKind.i64.wrap (x3 + 1)), ⟨rfl, rfl, rfl, rfl, rfl, rfl, rfl, trivial⟩, ⟨rfl, rfl, trivial⟩, rfl, hR, trivial⟩
      · rintro ⟨x7, x8⟩ hR
        replace hR : s130_j1 (fun k_ z0_ z1_ => s130_l1 a1 a2 a3 t6 k_ z0_ z1_) k4 x7 x8 = some R := hR
        unfold s130_j1 at hR
        refine aw_region [.p, .p, .p] ?_
        refine st rfl rfl (eff_moveg rfl rfl) rfl ?_
        refine st rfl rfl (eff_add rfl rfl rfl (by unfold I64; omega)) rfl ?_
        refine st rfl rfl (eff_assigng rfl rfl) rfl ?_
        refine st_nil ?_
        exact ⟨rfl, (k4 + 1, t6, x7, x8), ⟨rfl, rfl, rfl, rfl, rfl, rfl, rfl, trivial⟩, ⟨rfl, rfl, trivial⟩, rfl, ⟨hd, hR⟩, by simp⟩
    · replace h1 : (decide (((k4 : Nat) : Int) < (List.length a0 : Int))) = false := h1
      obtain rfl := drop_nil hd (decF h1)
      rw [s130_l1] at hR
      refine aw_exit ?_
      refine aw_seq ?_
      refine aw_region [.r, .w] ?_
      refine st_r rfl rfl (eff_loadOA rfl ty63 rfl rfl rfl rfl) rfl ?_
      refine st_wn rfl rfl (eff_store (tv := .g (G.agg [G.int x2, G.int x3])) rfl ty63 rfl rfl rfl rfl rfl) ?_
      refine st_nil ?_
      refine aw_ret ?_
      obtain rfl := Option.some.inj hR
      exact res_c rfl (rv_cell rfl rfl ty63 rfl rfl)
end Go.Sim

set_option linter.unusedSimpArgs false
set_option linter.unusedVariables false
set_option maxRecDepth 10000
namespace Go.Sim
open Go.Proofs


/-- turnroundref09.Flights -/
def s59_j1 (rec1 : Nat → (List S151) → Option (List S151)) (k3 : Nat) (x6 : List S151) : Option (List S151) :=
  rec1 (k3 + 1) x6
def s59_l2 (rec1 : Nat → (List S151) → Option (List S151)) (x1 : List S151) (k3 : Nat) (y4 : S104) : Nat → Int → Option (List S151)
  | 0, _ => none
  | k8 + 1, x7 => bindO (bif decide (x7 < (List.length x1 : Int)) then ixO x1 x7 else some default) fun y9 => (bif (decide (x7 < (List.length x1 : Int))) && (s127 y9 (S151.mk y4.Name y4.Moment y4.Move)) then s59_l2 rec1 x1 k3 y4 k8 (x7 + 1) else s59_j1 rec1 k3 ((([] ++ (List.take (Int.toNat x7) x1)) ++ [(S151.mk y4.Name y4.Moment y4.Move)]) ++ (List.drop (Int.toNat x7) x1)))
def s59_l1  : List S104 → Nat → (List S151) → Option (List S151)
  | [], k3, x1 => some x1
  | y4 :: t5, k3, x1 => (bif !decide (y4.Kind = (⟨#[102, 108, 121]⟩)) then s59_j1 (fun k_ z0_ => s59_l1  t5 k_ z0_) k3 x1 else s59_l2 (fun k_ z0_ => s59_l1  t5 k_ z0_) x1 k3 y4 ((((List.length x1 : Int) - 0).toNat) + 1) 0)
def s59 (a0 : List S104) : Option (List S151) :=
  s59_l1 a0 0 []
theorem n59 {g : List (Nat × List Value)} (a0 : List S104) {R : List S151}  (hb0 : a0.length ≤ 12) (hR : s59 a0 = some R) : ConN (EG g) 59 [G.sl 8 (List.map S104.c a0)] 160 3 (List.map S151.c R) := by
  unfold s59 at hR
  refine conN_of_aw Tryz.func59 rfl rfl fun w0 M0 => ?_
  refine len_sl (f := S104.c) (l := a0) 0 rfl fun hla0 => ?_
  refine aw_seq ?_
  refine aw_region [.w] ?_
  refine st_w rfl rfl (eff_nilL 2 160 3 rfl rfl rfl) rfl ?_
  refine st_nil ?_
  refine aw_seq ?_
  refine aw_region [.w] ?_
  refine st_w rfl rfl (eff_nilL 3 160 3 rfl rfl rfl) rfl ?_
  refine st_nil ?_
  refine aw_seq ?_
  refine aw_seq ?_
  refine aw_region [.p] ?_
  refine st rfl rfl (eff_assigng rfl rfl) rfl ?_
  refine st_nil ?_
  refine aw_block ?_
  refine aw_loop_g (γ := Nat × (List S104) × (List S151)) (fun g => ([(0, .g (G.sl 8 (List.map S104.c a0))), (3, .osl 3 3 0 (List.length g.2.2)), (4, .g (G.int ((g.1 : Nat) : Int)))], [(3, .arr 160 3 (List.map S151.c g.2.2))])) (fun g => g.2.2.length ≤ g.1 ∧ a0.drop g.1 = g.2.1 ∧ s59_l1  g.2.1 g.1 g.2.2 = some R) (fun g => List.length g.2.1) ⟨rfl, (0, a0, []), ⟨rfl, rfl, rfl, trivial⟩, ⟨rfl, trivial⟩, rfl, ⟨(by first | (simp; done) | (simp; omega)), rfl, hR⟩, trivial⟩ ?_
  · rintro ⟨k3, t5, x1⟩ ⟨iv1_0, hd, hR⟩
    replace hd : a0.drop k3 = t5 := hd
    replace hR : s59_l1  t5 k3 x1 = some R := hR
    replace iv1_0 : x1.length ≤ k3 := iv1_0
    refine aw_seq ?_
    refine aw_seq ?_
    refine aw_region [.p, .p, .p, .p] ?_
    refine st rfl rfl (eff_moveg rfl rfl) rfl ?_
    refine st rfl rfl (eff_moveg rfl rfl) rfl ?_
    refine st rfl rfl (eff_lenM (f := S104.c) (l := a0) rfl Tryz.underlying35 rfl) rfl ?_
    refine st rfl rfl (eff_lss rfl rfl rfl) rfl ?_
    refine st_nil ?_
    refine len_sl (f := S104.c) (l := a0) 0 rfl fun hlz1 => ?_
    refine aw_cond _ rfl (fun h1 => ?_) (fun h1 => ?_)
    · replace h1 : (decide (((k3 : Nat) : Int) < (List.length a0 : Int))) = true := h1
      obtain ⟨y4, t5, rfl, hx1, hd⟩ := drop_cons hd (decT h1)
      replace h1 := decT h1
      rw [s59_l1] at hR
      try dsimp only at hR
      refine aw_skip ?_
      refine aw_cut_g (γ := (List S151)) (fun g => ([(0, .g (G.sl 8 (List.map S104.c a0))), (3, .osl 3 3 0 (List.length g)), (4, .g (G.int ((k3 : Nat) : Int)))], [(3, .arr 160 3 (List.map S151.c g))])) (fun g => g.length ≤ k3 + 1 ∧ s59_j1 (fun k_ z0_ => s59_l1  t5 k_ z0_) k3 g = some R) ?_ ?_
      · refine aw_block ?_
        refine aw_seq ?_
        refine aw_seq ?_
        refine aw_region [.p, .p, .p, .p, .p, .p] ?_
        refine st rfl rfl (eff_moveg rfl rfl) rfl ?_
        refine st rfl rfl (eff_moveg rfl rfl) rfl ?_
        refine st rfl rfl (eff_ix (f := S104.c) (l := a0) (a := y4) rfl Tryz.underlying35 ty161 rfl rfl (Int.natCast_nonneg _) hx1) rfl ?_
        refine st rfl rfl (eff_fieldAddr rfl fl161_0 rfl) rfl ?_
        refine st rfl rfl (eff_load rfl ty9 rfl) rfl ?_
        refine st rfl rfl (eff_sne rfl rfl rfl) rfl ?_
        refine st_nil ?_
        refine aw_cond _ rfl (fun h3 => ?_) (fun h3 => ?_)
        · replace h3 : (!decide (y4.Kind = (⟨#[102, 108, 121]⟩))) = true := h3
          replace hR := condT hR h3
          try simp only [Bool.or_eq_true, Bool.and_eq_true, Bool.or_eq_false_iff, Bool.and_eq_false_iff, Bool.not_eq_true', Bool.not_eq_false', decide_eq_true_eq, decide_eq_false_iff_not] at h3
          refine aw_exit ?_
          exact ⟨rfl, x1, ⟨rfl, rfl, rfl, trivial⟩, ⟨rfl, trivial⟩, rfl, ⟨(by first | omega | (dsimp only; omega) | (simp at *; done) | (simp at *; omega)), hR⟩, trivial⟩
        · replace h3 : (!decide (y4.Kind = (⟨#[102, 108, 121]⟩))) = false := h3
          replace hR := condF hR h3
          try simp only [Bool.or_eq_true, Bool.and_eq_true, Bool.or_eq_false_iff, Bool.and_eq_false_iff, Bool.not_eq_true', Bool.not_eq_false', decide_eq_true_eq, decide_eq_false_iff_not] at h3
          refine aw_skip ?_
          refine aw_seq ?_
          refine aw_draw [.p, .p, .p, .p, .p, .p, .p, .p, .p, .p, .p, .p, .p, .p, .p, .p, .w, .w] (by kernel_rfl) ?_
          refine st rfl rfl (eff_moveg rfl rfl) rfl ?_
          refine st rfl rfl (eff_moveg rfl rfl) rfl ?_
          refine st rfl rfl (eff_ix (f := S104.c) (l := a0) (a := y4) rfl Tryz.underlying35 ty161 rfl rfl (Int.natCast_nonneg _) hx1) rfl ?_
          refine st rfl rfl (eff_fieldAddr rfl fl161_1 rfl) rfl ?_
          refine st rfl rfl (eff_load rfl ty9 rfl) rfl ?_
          refine st rfl rfl (eff_moveg rfl rfl) rfl ?_
          refine st rfl rfl (eff_moveg rfl rfl) rfl ?_
          refine st rfl rfl (eff_ix (f := S104.c) (l := a0) (a := y4) rfl Tryz.underlying35 ty161 rfl rfl (Int.natCast_nonneg _) hx1) rfl ?_
          refine st rfl rfl (eff_fieldAddr rfl fl161_2 rfl) rfl ?_
          refine st rfl rfl (eff_load rfl ty3 rfl) rfl ?_
          refine st rfl rfl (eff_moveg rfl rfl) rfl ?_
          refine st rfl rfl (eff_moveg rfl rfl) rfl ?_
          refine st rfl rfl (eff_ix (f := S104.c) (l := a0) (a := y4) rfl Tryz.underlying35 ty161 rfl rfl (Int.natCast_nonneg _) hx1) rfl ?_
          refine st rfl rfl (eff_fieldAddr rfl fl161_3 rfl) rfl ?_
          refine st rfl rfl (eff_load rfl ty9 rfl) rfl ?_
          refine st rfl rfl (eff_build rfl z160 rfl pl160 (pb_cons rfl (pb_cons rfl (pb_cons rfl pb_nil))) rfl) rfl ?_
          refine st_w rfl rfl (eff_alloc 5 rfl z160 rfl rfl) rfl ?_
          refine st_wn rfl rfl (eff_store (tv := .g (G.agg [G.str y4.Name, G.int y4.Moment, G.str y4.Move])) rfl ty160 rfl rfl rfl rfl rfl) ?_
          refine st_nil ?_
          refine aw_seq ?_
          refine aw_region [.p] ?_
          refine st rfl rfl (eff_assigng rfl rfl) rfl ?_
          refine st_nil ?_
          refine aw_seq ?_
          refine aw_block ?_
          refine aw_loop_g (γ := Nat × Int) (fun g => ([(0, .g (G.sl 8 (List.map S104.c a0))), (3, .osl 3 3 0 (List.length x1)), (4, .g (G.int ((k3 : Nat) : Int))), (5, .ptr 5 0), (6, .g (G.int g.2))], [(3, .arr 160 3 (List.map S151.c x1)), (5, .box [.g (G.str y4.Name), .g (G.int y4.Moment), .g (G.str y4.Move)])])) (fun g => ((List.length x1 : Int) - g.2).toNat < g.1 ∧ 0 ≤ g.2 ∧ g.2 ≤ (List.length x1 : Int) ∧ s59_l2 (fun k_ z0_ => s59_l1  t5 k_ z0_) x1 k3 y4 g.1 g.2 = some R) (fun g => g.1) ⟨rfl, ((((List.length x1 : Int) - 0).toNat) + 1, 0), ⟨rfl, rfl, rfl, rfl, rfl, trivial⟩, ⟨rfl, rfl, trivial⟩, rfl, ⟨Nat.lt_succ_self _, (by first | omega | (dsimp only; omega) | simp), (by first | omega | (dsimp only; omega) | simp), hR⟩, trivial⟩ ?_
          · rintro ⟨k8, x7⟩ ⟨hk2, iv2_0, iv2_1, hR⟩
            replace hk2 : ((List.length x1 : Int) - x7).toNat < k8 := hk2
            replace hR : s59_l2 (fun k_ z0_ => s59_l1  t5 k_ z0_) x1 k3 y4 k8 x7 = some R := hR
            replace iv2_0 : 0 ≤ x7 := iv2_0
            replace iv2_1 : x7 ≤ (List.length x1 : Int) := iv2_1
            obtain ⟨k8, rfl⟩ : ∃ m, k8 = m + 1 := ⟨k8 - 1, by omega⟩
            rw [s59_l2] at hR
            try dsimp only at hR
            refine aw_seq ?_
            refine aw_seq ?_
            obtain ⟨y9, by9, hR⟩ := bindO_inv hR
            refine aw_draw [.p, .p, .p, .p, .p, .p, .p, .p, .r, .r, .p, .p] (by kernel_rfl) ?_
            refine st rfl rfl (eff_moveg rfl rfl) rfl ?_
            refine st rfl rfl (eff_moveO rfl rfl) rfl ?_
            refine st rfl rfl (eff_lenO0 rfl Tryz.underlying32 rfl) rfl ?_
            refine st rfl rfl (eff_lss rfl rfl rfl) rfl ?_
            refine st rfl rfl (eff_moveg rfl rfl) rfl ?_
            refine st_g rfl rfl rfl (gb_bool _ _) (fun h => eff_moveO rfl rfl) rfl ?_
            refine st_g rfl rfl rfl (gb_bool _ _) (fun h => eff_moveg rfl rfl) rfl ?_
            refine st_g rfl rfl rfl (gb_bool _ _) (fun h => eff_ixL rfl Tryz.underlying32 ty160 (gd h rfl) (gd h rfl) (ixO_nn (condT1 by9 h)) (Nat.lt_of_lt_of_eq (get_lt (ixO_get (condT1 by9 h))) rfl)) rfl ?_
            refine st_gr rfl rfl rfl (gb_bool _ _) (fun h => eff_ldEA (f := S151.c) (l := x1) (a := y9) rfl ty160 (gd h rfl) rfl (ixO_get (condT1 by9 h))) rfl ?_
            refine st_gr rfl rfl rfl (gb_bool _ _) (fun h => eff_loadOA rfl ty160 rfl rfl rfl rfl) rfl ?_
            refine st_g rfl rfl rfl (gb_bool _ _) (fun h => eff_call rfl K127 rfl (c127 y9 (S151.mk y4.Name y4.Moment y4.Move)) (ag_cons (gd h rfl) (ag_cons (gd h rfl) ag_nil))) rfl ?_
            refine st rfl rfl (eff_and rfl rfl rfl rfl) rfl ?_
            refine st_nil ?_
            refine aw_cond _ rfl (fun h4 => ?_) (fun h4 => ?_)
            · replace h4 : ((decide (x7 < (List.length x1 : Int))) && (s127 y9 (S151.mk y4.Name y4.Moment y4.Move))) = true := h4
              replace hR := condT hR h4
              try simp only [Bool.or_eq_true, Bool.and_eq_true, Bool.or_eq_false_iff, Bool.and_eq_false_iff, Bool.not_eq_true', Bool.not_eq_false', decide_eq_true_eq, decide_eq_false_iff_not] at h4
              refine aw_skip ?_
              refine aw_block ?_
              refine aw_region [.p, .p, .p] ?_
              refine st rfl rfl (eff_moveg rfl rfl) rfl ?_
              refine st rfl rfl (eff_add rfl rfl rfl (by unfold I64; (try dsimp only); omega)) rfl ?_
              refine st rfl rfl (eff_assigng rfl rfl) rfl ?_
              refine st_nil ?_
              exact ⟨rfl, (k8, x7 + 1), ⟨rfl, rfl, rfl, rfl, rfl, trivial⟩, ⟨rfl, rfl, trivial⟩, rfl, ⟨(by first | omega | (dsimp only; omega) | (simp at *; omega)), (by first | omega | (dsimp only; omega) | (simp at *; omega)), (by first | omega | (dsimp only; omega) | (simp at *; omega)), hR⟩, by simp⟩
            · replace h4 : ((decide (x7 < (List.length x1 : Int))) && (s127 y9 (S151.mk y4.Name y4.Moment y4.Move))) = false := h4
              replace hR := condF hR h4
              try simp only [Bool.or_eq_true, Bool.and_eq_true, Bool.or_eq_false_iff, Bool.and_eq_false_iff, Bool.not_eq_true', Bool.not_eq_false', decide_eq_true_eq, decide_eq_false_iff_not] at h4
              refine aw_exit ?_
              refine aw_freeze (l := [(0, .g (G.sl 8 (List.map S104.c a0))), (3, .osl 3 3 0 (List.length x1)), (4, .g (G.int ((k3 : Nat) : Int))), (5, .g (G.ref [G.str y4.Name, G.int y4.Moment, G.str y4.Move])), (6, .g (G.int x7))]) (m := [(3, .arr 160 3 (List.map S151.c x1))]) 5 rfl ⟨.inl ⟨rfl, rfl⟩, .inl ⟨rfl, rfl⟩, .inl ⟨rfl, rfl⟩, .inr (frz_box rfl), .inl ⟨rfl, rfl⟩, trivial⟩ ⟨rfl, trivial⟩ rfl rfl ?_
              refine aw_ends ?_
              refine aw_draw2 [.w, .pn 49, .pn 49, .pn 49, .kn 49, .pn 49, .pn 49, .kn 49, .pn 49, .pn 49, .pn 49, .kn 49, .p] (by kernel_rfl) ?_
              refine st_w rfl rfl (eff_buildSO (xs := List.map S151.c []) 49 rfl Tryz.underlying32 ty160 z160 rfl ps_nil rfl (by simp [S151.c]) (by decide) rfl) rfl ?_
              refine st_pn rfl rfl (eff_moveO rfl rfl) rfl rfl rfl ?_
              refine st_pn rfl rfl (eff_moveg rfl rfl) rfl rfl rfl ?_
              refine st_pn rfl rfl (eff_slO (a := 0) (c := Int.toNat x7) rfl Tryz.underlying32 ty160 rfl bnd_none (bnd_some rfl (by omega)) (by omega) (by omega)) rfl rfl rfl ?_
              refine st_kn rfl rfl (eff_appL (f := S151.c) (out := []) (new := List.take (Int.toNat x7) x1) rfl app32 rfl rfl (src_eq rfl (src_oslC (l := x1) rfl rfl (by simp [S151.c]) (by omega) (by omega))) (refsN rfl) (by simp; omega)) rfl ?_
              refine st_pn rfl rfl (eff_loadA rfl ty160 rfl rfl rfl) rfl rfl rfl ?_
              refine st_pn rfl rfl (eff_buildSlice rfl Tryz.underlying32 ty160 z160 rfl (ps_cons rfl ps_nil) rfl (by exact lens rfl) (by decide)) rfl rfl rfl ?_
              refine st_kn rfl rfl (eff_appL (f := S151.c) (out := [] ++ (List.take (Int.toNat x7) x1)) (new := [(S151.mk y4.Name y4.Moment y4.Move)]) rfl app32 rfl rfl (src_eq rfl (src_sl (by decide) (by simp [S151.c]))) (refsN rfl) (by simp; omega)) rfl ?_
              refine st_pn rfl rfl (eff_moveO rfl rfl) rfl rfl rfl ?_
              refine st_pn rfl rfl (eff_moveg rfl rfl) rfl rfl rfl ?_
              refine st_pn rfl rfl (eff_slO (a := Int.toNat x7) (c := List.length x1) rfl Tryz.underlying32 ty160 rfl (bnd_some rfl (by omega)) bnd_none (by omega) (by omega)) rfl rfl rfl ?_
              refine st_kn rfl rfl (eff_appL (f := S151.c) (out := ([] ++ (List.take (Int.toNat x7) x1)) ++ [(S151.mk y4.Name y4.Moment y4.Move)]) (new := List.drop (Int.toNat x7) x1) rfl app32 rfl rfl (src_eq rfl (src_oslA (l := x1) rfl rfl (by simp [S151.c]) (by omega) (by omega))) (refsN rfl) (by simp; omega)) rfl ?_
              refine st rfl rfl (eff_assignO rfl rfl) rfl ?_
              refine st_nil ?_
              refine ⟨[(3, 49)], [(0, .g (G.sl 8 (List.map S104.c a0))), (3, .osl 3 3 0 (List.length ((([] ++ (List.take (Int.toNat x7) x1)) ++ [(S151.mk y4.Name y4.Moment y4.Move)]) ++ (List.drop (Int.toNat x7) x1)))), (4, .g (G.int ((k3 : Nat) : Int)))], [(3, .arr 160 3 (List.map S151.c ((([] ++ (List.take (Int.toNat x7) x1)) ++ [(S151.mk y4.Name y4.Moment y4.Move)]) ++ (List.drop (Int.toNat x7) x1))))], ⟨rfl, rfl, rfl, trivial⟩, ⟨rfl, trivial⟩, rfl, rfl, rfl, ?_⟩
              exact ⟨rfl, (([] ++ (List.take (Int.toNat x7) x1)) ++ [(S151.mk y4.Name y4.Moment y4.Move)]) ++ (List.drop (Int.toNat x7) x1), ⟨rfl, rfl, rfl, trivial⟩, ⟨rfl, trivial⟩, rfl, ⟨(by first | omega | (dsimp only; omega) | (simp at *; done) | (simp at *; omega)), hR⟩, trivial⟩
      · rintro x6 ⟨jv1_0, hR⟩
        replace jv1_0 : x6.length ≤ k3 + 1 := jv1_0
        replace hR : s59_j1 (fun k_ z0_ => s59_l1  t5 k_ z0_) k3 x6 = some R := hR
        unfold s59_j1 at hR
        refine aw_region [.p, .p, .p] ?_
        refine st rfl rfl (eff_moveg rfl rfl) rfl ?_
        refine st rfl rfl (eff_add rfl rfl rfl (by unfold I64; omega)) rfl ?_
        refine st rfl rfl (eff_assigng rfl rfl) rfl ?_
        refine st_nil ?_
        exact ⟨rfl, (k3 + 1, t5, x6), ⟨rfl, rfl, rfl, trivial⟩, ⟨rfl, trivial⟩, rfl, ⟨(by first | omega | (dsimp only; omega) | (simp at *; omega)), hd, hR⟩, by simp⟩
    · replace h1 : (decide (((k3 : Nat) : Int) < (List.length a0 : Int))) = false := h1
      obtain rfl := drop_nil hd (decF h1)
      rw [s59_l1] at hR
      refine aw_exit ?_
      refine aw_seq ?_
      refine aw_region [.p, .p] ?_
      refine st rfl rfl (eff_moveO rfl rfl) rfl ?_
      refine st rfl rfl (eff_assignO rfl rfl) rfl ?_
      refine st_nil ?_
      refine aw_ret ?_
      obtain rfl := Option.some.inj hR
      exact doneN_own rfl rfl rfl ((List.length_map ..).trans rfl)
theorem c59 {g : List (Nat × List Value)} (a0 : List S104) {R : List S151}  (hb0 : a0.length ≤ 12) (hR : s59 a0 = some R) : Con (EG g) 59 [G.sl 8 (List.map S104.c a0)] (G.sl 3 (List.map S151.c R)) :=
  ConN.con (by decide) (n59 a0 hb0 hR)
end Go.Sim

namespace Go.Sim
theorem len59_l2 (rec1 : Nat → List S151 → Option (List S151)) (n : Nat) (x1 : List S151) (hrec : ∀ k x r, rec1 k x = some r → r.length ≤ x.length + n) (k3 : Nat) (y4 : S104) : ∀ (k : Nat) (x : Int) (r : List S151), s59_l2 rec1 x1 k3 y4 k x = some r → r.length ≤ x1.length + (n + 1)
  | 0, x, r, h => by rw [s59_l2] at h; cases h
  | k + 1, x, r, h => by
    rw [s59_l2] at h
    obtain ⟨y1, h1, h⟩ := bindO_inv h
    generalize (decide (x < (List.length x1 : Int)) && s127 y1 (S151.mk y4.Name y4.Moment y4.Move)) = c at h
    cases c
    · rw [cond_false, s59_j1] at h
      have := hrec _ _ _ h
      simp at this
      omega
    · rw [cond_true] at h
      exact len59_l2 rec1 n x1 hrec k3 y4 k _ r h
theorem len59_l1 : ∀ (l : List S104) (k : Nat) (x r : List S151), s59_l1 l k x = some r → r.length ≤ x.length + l.length
  | [], k, x, r, h => by rw [s59_l1] at h; cases h; simp
  | y :: l, k, x, r, h => by
    rw [s59_l1] at h
    generalize (!decide (y.Kind = (⟨#[102, 108, 121]⟩ : ByteArray))) = c at h
    cases c
    · rw [cond_false] at h
      have := len59_l2 _ l.length x (fun k x r h => len59_l1 l k x r h) k y _ _ r h
      simpa using this
    · rw [cond_true, s59_j1] at h
      have := len59_l1 l _ x r h
      simp; omega
theorem len59 {a : List S104} {r : List S151} (h : s59 a = some r) : r.length ≤ a.length := by
  have := len59_l1 _ _ _ _ h
  simpa using this
end Go.Sim

set_option linter.unusedSimpArgs false
set_option linter.unusedVariables false
set_option maxRecDepth 10000
namespace Go.Sim
open Go.Proofs


/-- turnroundref09.Status -/
def s61_l2 (x2 : List Int) : List S154 → Nat → (List ByteArray) → Option (List ByteArray)
  | [], k13, x11 => some x11
  | y14 :: t15, k13, x11 => bindO (ixO x2 y14.Slot) fun y16 => bindO (ixO x11 y16) fun y17 => s61_l2 x2 t15 (k13 + 1) (List.set x11 (Int.toNat y16) (⟨#[102, 108, 111, 119, 110]⟩))
def s61_j1 (rec1 : Nat → (List S151) → (List Int) → (List ByteArray) → Option (List ByteArray)) (k5 : Nat) (x18 : List S151) (x19 : List Int) (x20 : List ByteArray) : Option (List ByteArray) :=
  rec1 (k5 + 1) x18 x19 x20
def s61_l1 (a0 : S23) (a2 : List S104) : List S151 → Nat → (List S151) → (List Int) → (List ByteArray) → Option (List ByteArray)
  | [], k5, x1, x2, x3 => bindO (s59 a2) fun r8 => bindO (s120 a0 x1 r8) fun r9 => s61_l2 x2 r9 0 x3
  | y6 :: t7, k5, x1, x2, x3 => (bif (s128 a0 y6 a2) then s61_j1 (fun k_ z0_ z1_ z2_ => s61_l1 a0 a2 t7 k_ z0_ z1_ z2_) k5 x1 x2 (x3 ++ [⟨#[114, 101, 116, 117, 114, 110, 101, 100]⟩]) else (bif (s129 a0 y6 a2) then s61_j1 (fun k_ z0_ z1_ z2_ => s61_l1 a0 a2 t7 k_ z0_ z1_ z2_) k5 (x1 ++ [y6]) (x2 ++ [((k5 : Nat) : Int)]) (x3 ++ [⟨#[101, 120, 99, 117, 115, 101, 100]⟩]) else s61_j1 (fun k_ z0_ z1_ z2_ => s61_l1 a0 a2 t7 k_ z0_ z1_ z2_) k5 (x1 ++ [y6]) (x2 ++ [((k5 : Nat) : Int)]) (x3 ++ [⟨#[109, 105, 115, 115, 101, 100]⟩])))
def s61 (a0 : S23) (a1 : List S151) (a2 : List S104) : Option (List ByteArray) :=
  s61_l1 a0 a2 a1 0 [] [] []
theorem n61 {g : List (Nat × List Value)} (a0 : S23) (a1 : List S151) (a2 : List S104) {R : List ByteArray}  (hb1 : a1.length ≤ 12) (hb2 : a2.length ≤ 12) (hR : s61 a0 a1 a2 = some R) : ConN (EG g) 61 [G.agg [G.int a0.Before, G.int a0.After, G.int a0.Notice, G.int a0.Share, G.sl 1 (List.map cStr a0.Causes), G.int a0.Off, G.int a0.Run], G.sl 3 (List.map S151.c a1), G.sl 8 (List.map S104.c a2)] 9 1 (List.map cStr R) := by
  unfold s61 at hR
  refine conN_of_aw Tryz.func61 rfl rfl fun w0 M0 => ?_
  refine len_sl (f := S151.c) (l := a1) 1 rfl fun hla1 => ?_
  refine len_sl (f := S104.c) (l := a2) 2 rfl fun hla2 => ?_
  refine aw_seq ?_
  refine aw_region [.p, .w] ?_
  refine st rfl rfl (eff_box rfl rfl) rfl ?_
  refine st_w rfl rfl (eff_nilL 6 9 1 rfl rfl rfl) rfl ?_
  refine st_nil ?_
  refine aw_seq ?_
  refine aw_region [.w] ?_
  refine st_w rfl rfl (eff_nilL 7 160 3 rfl rfl rfl) rfl ?_
  refine st_nil ?_
  refine aw_seq ?_
  refine aw_region [.w] ?_
  refine st_w rfl rfl (eff_nilL 8 3 1 rfl rfl rfl) rfl ?_
  refine st_nil ?_
  refine aw_seq ?_
  refine aw_region [.w] ?_
  refine st_w rfl rfl (eff_nilL 9 9 1 rfl rfl rfl) rfl ?_
  refine st_nil ?_
  refine aw_seq ?_
  refine aw_seq ?_
  refine aw_region [.p] ?_
  refine st rfl rfl (eff_assigng rfl rfl) rfl ?_
  refine st_nil ?_
  refine aw_block ?_
  refine aw_loop_g (γ := Nat × (List S151) × (List S151) × (List Int) × (List ByteArray)) (fun g => ([(1, .g (G.sl 3 (List.map S151.c a1))), (2, .g (G.sl 8 (List.map S104.c a2))), (3, .g (G.ref [G.int a0.Before, G.int a0.After, G.int a0.Notice, G.int a0.Share, G.sl 1 (List.map cStr a0.Causes), G.int a0.Off, G.int a0.Run])), (7, .osl 7 3 0 (List.length g.2.2.1)), (8, .osl 8 1 0 (List.length g.2.2.2.1)), (9, .osl 9 1 0 (List.length g.2.2.2.2)), (10, .g (G.int ((g.1 : Nat) : Int)))], [(7, .arr 160 3 (List.map S151.c g.2.2.1)), (8, .arr 3 1 (List.map cInt g.2.2.2.1)), (9, .arr 9 1 (List.map cStr g.2.2.2.2))])) (fun g => g.2.2.1.length ≤ g.1 ∧ g.2.2.2.1.length ≤ g.1 ∧ g.2.2.2.2.length ≤ g.1 ∧ g.1 ≤ a1.length ∧ a1.drop g.1 = g.2.1 ∧ s61_l1 a0 a2 g.2.1 g.1 g.2.2.1 g.2.2.2.1 g.2.2.2.2 = some R) (fun g => List.length g.2.1) ⟨rfl, (0, a1, [], [], []), ⟨rfl, rfl, rfl, rfl, rfl, rfl, rfl, trivial⟩, ⟨rfl, rfl, rfl, trivial⟩, rfl, ⟨(by first | (simp; done) | (simp; omega)), (by first | (simp; done) | (simp; omega)), (by first | (simp; done) | (simp; omega)), (by first | (simp; done) | (simp; omega)), rfl, hR⟩, trivial⟩ ?_
  · rintro ⟨k5, t7, x1, x2, x3⟩ ⟨iv1_0, iv1_1, iv1_2, iv1_3, hd, hR⟩
    replace hd : a1.drop k5 = t7 := hd
    replace hR : s61_l1 a0 a2 t7 k5 x1 x2 x3 = some R := hR
    replace iv1_0 : x1.length ≤ k5 := iv1_0
    replace iv1_1 : x2.length ≤ k5 := iv1_1
    replace iv1_2 : x3.length ≤ k5 := iv1_2
    replace iv1_3 : k5 ≤ a1.length := iv1_3
    refine aw_seq ?_
    refine aw_seq ?_
    refine aw_region [.p, .p, .p, .p] ?_
    refine st rfl rfl (eff_moveg rfl rfl) rfl ?_
    refine st rfl rfl (eff_moveg rfl rfl) rfl ?_
    refine st rfl rfl (eff_lenM (f := S151.c) (l := a1) rfl Tryz.underlying32 rfl) rfl ?_
    refine st rfl rfl (eff_lss rfl rfl rfl) rfl ?_
    refine st_nil ?_
    refine len_sl (f := S151.c) (l := a1) 1 rfl fun hlz1 => ?_
    refine aw_cond _ rfl (fun h1 => ?_) (fun h1 => ?_)
    · replace h1 : (decide (((k5 : Nat) : Int) < (List.length a1 : Int))) = true := h1
      obtain ⟨y6, t7, rfl, hx1, hd⟩ := drop_cons hd (decT h1)
      replace h1 := decT h1
      rw [s61_l1] at hR
      try dsimp only at hR
      refine aw_skip ?_
      refine aw_cut_g (γ := (List S151) × (List Int) × (List ByteArray)) (fun g => ([(1, .g (G.sl 3 (List.map S151.c a1))), (2, .g (G.sl 8 (List.map S104.c a2))), (3, .g (G.ref [G.int a0.Before, G.int a0.After, G.int a0.Notice, G.int a0.Share, G.sl 1 (List.map cStr a0.Causes), G.int a0.Off, G.int a0.Run])), (7, .osl 7 3 0 (List.length g.1)), (8, .osl 8 1 0 (List.length g.2.1)), (9, .osl 9 1 0 (List.length g.2.2)), (10, .g (G.int ((k5 : Nat) : Int)))], [(7, .arr 160 3 (List.map S151.c g.1)), (8, .arr 3 1 (List.map cInt g.2.1)), (9, .arr 9 1 (List.map cStr g.2.2))])) (fun g => g.1.length ≤ k5 + 1 ∧ g.2.1.length ≤ k5 + 1 ∧ g.2.2.length ≤ k5 + 1 ∧ s61_j1 (fun k_ z0_ z1_ z2_ => s61_l1 a0 a2 t7 k_ z0_ z1_ z2_) k5 g.1 g.2.1 g.2.2 = some R) ?_ ?_
      · refine aw_block ?_
        refine aw_seq ?_
        refine aw_seq ?_
        refine aw_draw [.p, .p, .p, .p, .p, .p, .p] (by kernel_rfl) ?_
        refine st rfl rfl (eff_loadA rfl ty29 rfl rfl rfl) rfl ?_
        refine st rfl rfl (eff_moveg rfl rfl) rfl ?_
        refine st rfl rfl (eff_moveg rfl rfl) rfl ?_
        refine st rfl rfl (eff_ix (f := S151.c) (l := a1) (a := y6) rfl Tryz.underlying32 ty160 rfl rfl (Int.natCast_nonneg _) hx1) rfl ?_
        refine st rfl rfl (eff_loadA rfl ty160 rfl rfl rfl) rfl ?_
        refine st rfl rfl (eff_moveg rfl rfl) rfl ?_
        refine st rfl rfl (eff_call rfl K128 rfl (c128 a0 y6 a2) (ag_cons rfl (ag_cons rfl (ag_cons rfl ag_nil)))) rfl ?_
        refine st_nil ?_
        refine aw_cond _ rfl (fun h5 => ?_) (fun h5 => ?_)
        · replace h5 : ((s128 a0 y6 a2)) = true := h5
          replace hR := condT hR h5
          try simp only [Bool.or_eq_true, Bool.and_eq_true, Bool.or_eq_false_iff, Bool.and_eq_false_iff, Bool.not_eq_true', Bool.not_eq_false', decide_eq_true_eq, decide_eq_false_iff_not] at h5
          refine aw_seq ?_
          refine aw_region [.p, .p, .k, .p] ?_
          refine st rfl rfl (eff_moveO rfl rfl) rfl ?_
          refine st rfl rfl (eff_buildSlice rfl Tryz.underlying22 ty9 z9 rfl (ps_cons rfl ps_nil) rfl (by simp []) (by decide)) rfl ?_
          refine st_k rfl rfl (eff_appL (f := cStr) (out := x3) (new := [⟨#[114, 101, 116, 117, 114, 110, 101, 100]⟩]) rfl app22 rfl rfl (src_eq rfl (src_sl (by decide) (by simp []))) (refsN rfl) (by simp; omega)) rfl ?_
          refine st rfl rfl (eff_assignO rfl rfl) rfl ?_
          refine st_nil ?_
          refine aw_exit ?_
          exact ⟨rfl, (x1, x2, x3 ++ [⟨#[114, 101, 116, 117, 114, 110, 101, 100]⟩]), ⟨rfl, rfl, rfl, rfl, rfl, rfl, rfl, trivial⟩, ⟨rfl, rfl, rfl, trivial⟩, rfl, ⟨(by first | omega | (dsimp only; omega) | (simp at *; done) | (simp at *; omega)), (by first | omega | (dsimp only; omega) | (simp at *; done) | (simp at *; omega)), (by first | omega | (dsimp only; omega) | (simp at *; done) | (simp at *; omega)), hR⟩, trivial⟩
        · replace h5 : ((s128 a0 y6 a2)) = false := h5
          replace hR := condF hR h5
          try simp only [Bool.or_eq_true, Bool.and_eq_true, Bool.or_eq_false_iff, Bool.and_eq_false_iff, Bool.not_eq_true', Bool.not_eq_false', decide_eq_true_eq, decide_eq_false_iff_not] at h5
          refine aw_skip ?_
          refine aw_seq ?_
          refine aw_region [.p, .p, .p, .p, .p, .p, .k, .p, .p, .p, .k, .p, .p] ?_
          refine st rfl rfl (eff_moveO rfl rfl) rfl ?_
          refine st rfl rfl (eff_moveg rfl rfl) rfl ?_
          refine st rfl rfl (eff_moveg rfl rfl) rfl ?_
          refine st rfl rfl (eff_ix (f := S151.c) (l := a1) (a := y6) rfl Tryz.underlying32 ty160 rfl rfl (Int.natCast_nonneg _) hx1) rfl ?_
          refine st rfl rfl (eff_loadA rfl ty160 rfl rfl rfl) rfl ?_
          refine st rfl rfl (eff_buildSlice rfl Tryz.underlying32 ty160 z160 rfl (ps_cons rfl ps_nil) rfl (by simp [S151.c]) (by decide)) rfl ?_
          refine st_k rfl rfl (eff_appL (f := S151.c) (out := x1) (new := [y6]) rfl app32 rfl rfl (src_eq rfl (src_sl (by decide) (by simp [S151.c]))) (refsN rfl) (by simp; omega)) rfl ?_
          refine st rfl rfl (eff_moveO rfl rfl) rfl ?_
          refine st rfl rfl (eff_moveg rfl rfl) rfl ?_
          refine st rfl rfl (eff_buildSlice rfl Tryz.underlying82 ty3 z3 rfl (ps_cons rfl ps_nil) rfl (by simp []) (by decide)) rfl ?_
          refine st_k rfl rfl (eff_appL (f := cInt) (out := x2) (new := [((k5 : Nat) : Int)]) rfl app82 rfl rfl (src_eq rfl (src_sl (by decide) (by simp []))) (refsN rfl) (by simp; omega)) rfl ?_
          refine st rfl rfl (eff_assignO rfl rfl) rfl ?_
          refine st rfl rfl (eff_assignO rfl rfl) rfl ?_
          refine st_nil ?_
          refine aw_seq ?_
          refine aw_draw [.p, .p, .p, .p, .p, .p, .p] (by kernel_rfl) ?_
          refine st rfl rfl (eff_loadA rfl ty29 rfl rfl rfl) rfl ?_
          refine st rfl rfl (eff_moveg rfl rfl) rfl ?_
          refine st rfl rfl (eff_moveg rfl rfl) rfl ?_
          refine st rfl rfl (eff_ix (f := S151.c) (l := a1) (a := y6) rfl Tryz.underlying32 ty160 rfl rfl (Int.natCast_nonneg _) hx1) rfl ?_
          refine st rfl rfl (eff_loadA rfl ty160 rfl rfl rfl) rfl ?_
          refine st rfl rfl (eff_moveg rfl rfl) rfl ?_
          refine st rfl rfl (eff_call rfl K129 rfl (c129 a0 y6 a2) (ag_cons rfl (ag_cons rfl (ag_cons rfl ag_nil)))) rfl ?_
          refine st_nil ?_
          refine aw_cond _ rfl (fun h6 => ?_) (fun h6 => ?_)
          · replace h6 : ((s129 a0 y6 a2)) = true := h6
            replace hR := condT hR h6
            try simp only [Bool.or_eq_true, Bool.and_eq_true, Bool.or_eq_false_iff, Bool.and_eq_false_iff, Bool.not_eq_true', Bool.not_eq_false', decide_eq_true_eq, decide_eq_false_iff_not] at h6
            refine aw_region [.p, .p, .k, .p] ?_
            refine st rfl rfl (eff_moveO rfl rfl) rfl ?_
            refine st rfl rfl (eff_buildSlice rfl Tryz.underlying22 ty9 z9 rfl (ps_cons rfl ps_nil) rfl (by simp []) (by decide)) rfl ?_
            refine st_k rfl rfl (eff_appL (f := cStr) (out := x3) (new := [⟨#[101, 120, 99, 117, 115, 101, 100]⟩]) rfl app22 rfl rfl (src_eq rfl (src_sl (by decide) (by simp []))) (refsN rfl) (by simp; omega)) rfl ?_
            refine st rfl rfl (eff_assignO rfl rfl) rfl ?_
            refine st_nil ?_
            exact ⟨rfl, (x1 ++ [y6], x2 ++ [((k5 : Nat) : Int)], x3 ++ [⟨#[101, 120, 99, 117, 115, 101, 100]⟩]), ⟨rfl, rfl, rfl, rfl, rfl, rfl, rfl, trivial⟩, ⟨rfl, rfl, rfl, trivial⟩, rfl, ⟨(by first | omega | (dsimp only; omega) | (simp at *; done) | (simp at *; omega)), (by first | omega | (dsimp only; omega) | (simp at *; done) | (simp at *; omega)), (by first | omega | (dsimp only; omega) | (simp at *; done) | (simp at *; omega)), hR⟩, trivial⟩
          · replace h6 : ((s129 a0 y6 a2)) = false := h6
            replace hR := condF hR h6
            try simp only [Bool.or_eq_true, Bool.and_eq_true, Bool.or_eq_false_iff, Bool.and_eq_false_iff, Bool.not_eq_true', Bool.not_eq_false', decide_eq_true_eq, decide_eq_false_iff_not] at h6
            refine aw_region [.p, .p, .k, .p] ?_
            refine st rfl rfl (eff_moveO rfl rfl) rfl ?_
            refine st rfl rfl (eff_buildSlice rfl Tryz.underlying22 ty9 z9 rfl (ps_cons rfl ps_nil) rfl (by simp []) (by decide)) rfl ?_
            refine st_k rfl rfl (eff_appL (f := cStr) (out := x3) (new := [⟨#[109, 105, 115, 115, 101, 100]⟩]) rfl app22 rfl rfl (src_eq rfl (src_sl (by decide) (by simp []))) (refsN rfl) (by simp; omega)) rfl ?_
            refine st rfl rfl (eff_assignO rfl rfl) rfl ?_
            refine st_nil ?_
            exact ⟨rfl, (x1 ++ [y6], x2 ++ [((k5 : Nat) : Int)], x3 ++ [⟨#[109, 105, 115, 115, 101, 100]⟩]), ⟨rfl, rfl, rfl, rfl, rfl, rfl, rfl, trivial⟩, ⟨rfl, rfl, rfl, trivial⟩, rfl, ⟨(by first | omega | (dsimp only; omega) | (simp at *; done) | (simp at *; omega)), (by first | omega | (dsimp only; omega) | (simp at *; done) | (simp at *; omega)), (by first | omega | (dsimp only; omega) | (simp at *; done) | (simp at *; omega)), hR⟩, trivial⟩
      · rintro ⟨x18, x19, x20⟩ ⟨jv1_0, jv1_1, jv1_2, hR⟩
        replace jv1_0 : x18.length ≤ k5 + 1 := jv1_0
        replace jv1_1 : x19.length ≤ k5 + 1 := jv1_1
        replace jv1_2 : x20.length ≤ k5 + 1 := jv1_2
        replace hR : s61_j1 (fun k_ z0_ z1_ z2_ => s61_l1 a0 a2 t7 k_ z0_ z1_ z2_) k5 x18 x19 x20 = some R := hR
        unfold s61_j1 at hR
        refine aw_region [.p, .p, .p] ?_
        refine st rfl rfl (eff_moveg rfl rfl) rfl ?_
        refine st rfl rfl (eff_add rfl rfl rfl (by unfold I64; omega)) rfl ?_
        refine st rfl rfl (eff_assigng rfl rfl) rfl ?_
        refine st_nil ?_
        exact ⟨rfl, (k5 + 1, t7, x18, x19, x20), ⟨rfl, rfl, rfl, rfl, rfl, rfl, rfl, trivial⟩, ⟨rfl, rfl, rfl, trivial⟩, rfl, ⟨(by first | omega | (dsimp only; omega) | (simp at *; omega)), (by first | omega | (dsimp only; omega) | (simp at *; omega)), (by first | omega | (dsimp only; omega) | (simp at *; omega)), (by first | omega | (dsimp only; omega) | (simp at *; omega)), hd, hR⟩, by simp⟩
    · replace h1 : (decide (((k5 : Nat) : Int) < (List.length a1 : Int))) = false := h1
      obtain rfl := drop_nil hd (decF h1)
      rw [s61_l1] at hR
      refine aw_exit ?_
      refine aw_seq ?_
      obtain ⟨r8, br8, hR⟩ := bindO_inv hR
      obtain ⟨r9, br9, hR⟩ := bindO_inv hR
      have hl9 := len59 br8
      refine aw_draw [.p, .p, .p, .p, .r, .p] (by kernel_rfl) ?_
      refine st rfl rfl (eff_loadA rfl ty29 rfl rfl rfl) rfl ?_
      refine st rfl rfl (eff_moveO rfl rfl) rfl ?_
      refine st rfl rfl (eff_moveg rfl rfl) rfl ?_
      refine st rfl rfl (eff_call rfl K59 rfl (c59 a2 (by first | assumption | omega | (simp [copyL_len]; omega)) br8) (ag_cons rfl ag_nil)) rfl ?_
      refine st_r rfl rfl (eff_callNO rfl K120 rfl (n120 a0 x1 r8 (by first | assumption | omega | (simp [copyL_len]; omega)) (by first | assumption | omega | (simp [copyL_len]; omega)) br9) (by decide) (pureL_flat fun _ => pureL_cons (pureL_cons (pureL_nil))) (agv_cons rfl (agv_osl rfl rfl (agv_cons rfl agv_nil)))) rfl ?_
      refine st rfl rfl (eff_assigng rfl rfl) rfl ?_
      refine st_nil ?_
      refine aw_seq ?_
      refine aw_seq ?_
      refine aw_region [.p] ?_
      refine st rfl rfl (eff_assigng rfl rfl) rfl ?_
      refine st_nil ?_
      refine aw_block ?_
      refine aw_loop_g (γ := Nat × (List S154) × (List ByteArray)) (fun g => ([(8, .osl 8 1 0 (List.length x2)), (9, .osl 9 1 0 (List.length x3)), (11, .g (G.sl 2 (List.map S154.c r9))), (12, .g (G.int ((g.1 : Nat) : Int)))], [(8, .arr 3 1 (List.map cInt x2)), (9, .arr 9 1 (List.map cStr g.2.2))])) (fun g => List.length g.2.2 = List.length x3 ∧ r9.drop g.1 = g.2.1 ∧ s61_l2 x2 g.2.1 g.1 g.2.2 = some R) (fun g => List.length g.2.1) ⟨rfl, (0, r9, x3), ⟨rfl, rfl, rfl, rfl, trivial⟩, ⟨rfl, rfl, trivial⟩, rfl, ⟨rfl, rfl, hR⟩, trivial⟩ ?_
      · rintro ⟨k13, t15, x11⟩ ⟨ln12, hd, hR⟩
        replace hd : r9.drop k13 = t15 := hd
        replace hR : s61_l2 x2 t15 k13 x11 = some R := hR
        replace ln12 : List.length x11 = List.length x3 := ln12
        refine aw_seq ?_
        refine aw_seq ?_
        refine aw_region [.p, .p, .p, .p] ?_
        refine st rfl rfl (eff_moveg rfl rfl) rfl ?_
        refine st rfl rfl (eff_moveg rfl rfl) rfl ?_
        refine st rfl rfl (eff_lenM (f := S154.c) (l := r9) rfl Tryz.underlying89 rfl) rfl ?_
        refine st rfl rfl (eff_lss rfl rfl rfl) rfl ?_
        refine st_nil ?_
        refine len_sl (f := S154.c) (l := r9) 11 rfl fun hlz2 => ?_
        refine aw_cond _ rfl (fun h3 => ?_) (fun h3 => ?_)
        · replace h3 : (decide (((k13 : Nat) : Int) < (List.length r9 : Int))) = true := h3
          obtain ⟨y14, t15, rfl, hx2, hd⟩ := drop_cons hd (decT h3)
          replace h3 := decT h3
          rw [s61_l2] at hR
          try dsimp only at hR
          refine aw_skip ?_
          refine aw_seq ?_
          refine aw_block ?_
          obtain ⟨y16, by16, hR⟩ := bindO_inv hR
          obtain ⟨y17, by17, hR⟩ := bindO_inv hR
          refine aw_region [.p, .p, .p, .p, .p, .p, .p, .p, .r, .p, .w] ?_
          refine st rfl rfl (eff_moveO rfl rfl) rfl ?_
          refine st rfl rfl (eff_moveO rfl rfl) rfl ?_
          refine st rfl rfl (eff_moveg rfl rfl) rfl ?_
          refine st rfl rfl (eff_moveg rfl rfl) rfl ?_
          refine st rfl rfl (eff_ix (f := S154.c) (l := r9) (a := y14) rfl Tryz.underlying89 ty158 rfl rfl (Int.natCast_nonneg _) hx2) rfl ?_
          refine st rfl rfl (eff_fieldAddr rfl fl158_0 rfl) rfl ?_
          refine st rfl rfl (eff_load rfl ty3 rfl) rfl ?_
          refine st rfl rfl (eff_ixL rfl Tryz.underlying82 ty3 rfl rfl (ixO_nn by16) (Nat.lt_of_lt_of_eq (get_lt (ixO_get by16)) rfl)) rfl ?_
          refine st_r rfl rfl (eff_ldE (f := cInt) (l := x2) (a := y16) rfl ty3 rfl rfl (ixO_get by16) rfl) rfl ?_
          refine st rfl rfl (eff_ixL rfl Tryz.underlying22 ty9 rfl rfl (ixO_nn by17) (Nat.lt_of_lt_of_eq (get_lt (ixO_get by17)) ln12)) rfl ?_
          refine st_wn rfl rfl (eff_setL (f := cStr) (l := x11) (a' := ⟨#[102, 108, 111, 119, 110]⟩) rfl ty9 rfl rfl rfl (Nat.lt_of_lt_of_eq (Nat.lt_of_lt_of_eq (get_lt (ixO_get by17)) ln12) (Eq.symm ln12)) rfl (fun _ => rfl)) ?_
          refine st_nil ?_
          refine aw_region [.p, .p, .p] ?_
          refine st rfl rfl (eff_moveg rfl rfl) rfl ?_
          refine st rfl rfl (eff_add rfl rfl rfl (by unfold I64; omega)) rfl ?_
          refine st rfl rfl (eff_assigng rfl rfl) rfl ?_
          refine st_nil ?_
          exact ⟨rfl, (k13 + 1, t15, List.set x11 (Int.toNat y16) (⟨#[102, 108, 111, 119, 110]⟩)), ⟨rfl, rfl, rfl, rfl, trivial⟩, ⟨rfl, rfl, trivial⟩, rfl, ⟨((List.length_set ..).trans ln12), hd, hR⟩, by simp⟩
        · replace h3 : (decide (((k13 : Nat) : Int) < (List.length r9 : Int))) = false := h3
          obtain rfl := drop_nil hd (decF h3)
          rw [s61_l2] at hR
          refine aw_exit ?_
          refine aw_seq ?_
          refine aw_region [.p, .p] ?_
          refine st rfl rfl (eff_moveO rfl rfl) rfl ?_
          refine st rfl rfl (eff_assignO rfl rfl) rfl ?_
          refine st_nil ?_
          refine aw_ret ?_
          obtain rfl := Option.some.inj hR
          exact doneN_own rfl rfl rfl ((List.length_map ..).trans ln12)
theorem c61 {g : List (Nat × List Value)} (a0 : S23) (a1 : List S151) (a2 : List S104) {R : List ByteArray}  (hb1 : a1.length ≤ 12) (hb2 : a2.length ≤ 12) (hR : s61 a0 a1 a2 = some R) : Con (EG g) 61 [G.agg [G.int a0.Before, G.int a0.After, G.int a0.Notice, G.int a0.Share, G.sl 1 (List.map cStr a0.Causes), G.int a0.Off, G.int a0.Run], G.sl 3 (List.map S151.c a1), G.sl 8 (List.map S104.c a2)] (G.sl 1 (List.map cStr R)) :=
  ConN.con (by decide) (n61 a0 a1 a2 hb1 hb2 hR)
end Go.Sim

set_option linter.unusedSimpArgs false
set_option linter.unusedVariables false
set_option maxRecDepth 10000
namespace Go.Sim
open Go.Proofs


/-- turnroundref09.RatioOf -/
def s62 (a0 : S23) (a1 : List S151) (a2 : List S104) : Option S55 :=
  bindO (s61 a0 a1 a2) fun r1 => bindO (s130 a1 r1 (⟨#[]⟩) (-1)) fun r2 => some r2
theorem c62 {g : List (Nat × List Value)} (a0 : S23) (a1 : List S151) (a2 : List S104) {R : S55}  (hb1 : a1.length ≤ 12) (hb2 : a2.length ≤ 12) (hR : s62 a0 a1 a2 = some R) : Con (EG g) 62 [G.agg [G.int a0.Before, G.int a0.After, G.int a0.Notice, G.int a0.Share, G.sl 1 (List.map cStr a0.Causes), G.int a0.Off, G.int a0.Run], G.sl 3 (List.map S151.c a1), G.sl 8 (List.map S104.c a2)] (G.agg [G.int R.Flown, G.int R.Due]) := by
  unfold s62 at hR
  refine con_of_aw Tryz.func62 rfl rfl fun w0 M0 => ?_
  refine len_sl (f := S151.c) (l := a1) 1 rfl fun hla1 => ?_
  refine len_sl (f := S104.c) (l := a2) 2 rfl fun hla2 => ?_
  refine aw_seq ?_
  refine aw_region [.p, .w] ?_
  refine st rfl rfl (eff_box rfl rfl) rfl ?_
  refine st_w rfl rfl (eff_alloc 6 rfl z63 rfl rfl) rfl ?_
  refine st_nil ?_
  refine aw_seq ?_
  obtain ⟨r1, br1, hR⟩ := bindO_inv hR
  obtain ⟨r2, br2, hR⟩ := bindO_inv hR
  refine aw_region [.p, .p, .p, .p, .p, .p, .w] ?_
  refine st rfl rfl (eff_moveg rfl rfl) rfl ?_
  refine st rfl rfl (eff_loadA rfl ty29 rfl rfl rfl) rfl ?_
  refine st rfl rfl (eff_moveg rfl rfl) rfl ?_
  refine st rfl rfl (eff_moveg rfl rfl) rfl ?_
  refine st rfl rfl (eff_call rfl K61 rfl (c61 a0 a1 a2 (by first | assumption | omega | (simp [copyL_len]; omega)) (by first | assumption | omega | (simp [copyL_len]; omega)) br1) (ag_cons rfl (ag_cons rfl (ag_cons rfl ag_nil)))) rfl ?_
  refine st rfl rfl (eff_call rfl K130 rfl (c130 a1 r1 (⟨#[]⟩) (-1) br2) (ag_cons rfl (ag_cons rfl (ag_cons rfl (ag_cons rfl ag_nil))))) rfl ?_
  refine st_wn rfl rfl (eff_store (tv := .g (G.agg [G.int r2.Flown, G.int r2.Due])) rfl ty63 rfl rfl rfl rfl rfl) ?_
  refine st_nil ?_
  refine aw_ret ?_
  obtain rfl := Option.some.inj hR
  exact res_c rfl (rv_cell rfl rfl ty63 rfl rfl)

/-- turnroundref01.SameWords -/
def s60_l1 (a1 : List ByteArray) : List ByteArray → Nat → Option Bool
  | [], k2 => some true
  | y3 :: t4, k2 => bindO (ixO a1 ((k2 : Nat) : Int)) fun y5 => (bif !decide (y3 = y5) then some false else s60_l1 a1 t4 (k2 + 1))
def s60 (a0 : List ByteArray) (a1 : List ByteArray) : Option Bool :=
  (bif decide ((List.length a0 : Int) ≠ (List.length a1 : Int)) then some false else s60_l1 a1 a0 0)
theorem c60 {g : List (Nat × List Value)} (a0 : List ByteArray) (a1 : List ByteArray) {R : Bool}   (hR : s60 a0 a1 = some R) : Con (EG g) 60 [G.sl 1 (List.map cStr a0), G.sl 1 (List.map cStr a1)] (G.bool R) := by
  unfold s60 at hR
  refine con_of_aw Tryz.func60 rfl rfl fun w0 M0 => ?_
  refine len_sl (f := cStr) (l := a0) 0 rfl fun hla0 => ?_
  refine len_sl (f := cStr) (l := a1) 1 rfl fun hla1 => ?_
  refine aw_seq ?_
  refine aw_region [.p] ?_
  refine st rfl rfl (eff_assigng rfl rfl) rfl ?_
  refine st_nil ?_
  refine aw_seq ?_
  refine aw_seq ?_
  refine aw_region [.p, .p, .p, .p, .p] ?_
  refine st rfl rfl (eff_moveg rfl rfl) rfl ?_
  refine st rfl rfl (eff_lenM (f := cStr) (l := a0) rfl Tryz.underlying22 rfl) rfl ?_
  refine st rfl rfl (eff_moveg rfl rfl) rfl ?_
  refine st rfl rfl (eff_lenM (f := cStr) (l := a1) rfl Tryz.underlying22 rfl) rfl ?_
  refine st rfl rfl (eff_neq rfl rfl rfl) rfl ?_
  refine st_nil ?_
  refine aw_cond _ rfl (fun h1 => ?_) (fun h1 => ?_)
  · replace h1 : (decide ((List.length a0 : Int) ≠ (List.length a1 : Int))) = true := h1
    replace hR := condT hR h1
    try simp only [Bool.or_eq_true, Bool.and_eq_true, Bool.or_eq_false_iff, Bool.and_eq_false_iff, Bool.not_eq_true', Bool.not_eq_false', decide_eq_true_eq, decide_eq_false_iff_not] at h1
    refine aw_seq ?_
    refine aw_region [.p] ?_
    refine st rfl rfl (eff_assigng rfl rfl) rfl ?_
    refine st_nil ?_
    refine aw_ret ?_
    obtain rfl := Option.some.inj hR
    exact res_c rfl (rv_g rfl)
  · replace h1 : (decide ((List.length a0 : Int) ≠ (List.length a1 : Int))) = false := h1
    replace hR := condF hR h1
    try simp only [Bool.or_eq_true, Bool.and_eq_true, Bool.or_eq_false_iff, Bool.and_eq_false_iff, Bool.not_eq_true', Bool.not_eq_false', decide_eq_true_eq, decide_eq_false_iff_not] at h1
    refine aw_skip ?_
    refine aw_seq ?_
    refine aw_seq ?_
    refine aw_region [.p] ?_
    refine st rfl rfl (eff_assigng rfl rfl) rfl ?_
    refine st_nil ?_
    refine aw_block ?_
    refine aw_loop_g (γ := Nat × (List ByteArray)) (fun g => ([(0, .g (G.sl 1 (List.map cStr a0))), (1, .g (G.sl 1 (List.map cStr a1))), (5, .g (G.int ((g.1 : Nat) : Int)))], [])) (fun g => a0.drop g.1 = g.2 ∧ s60_l1 a1 g.2 g.1 = some R) (fun g => List.length g.2) ⟨rfl, (0, a0), ⟨rfl, rfl, rfl, trivial⟩, trivial, rfl, ⟨rfl, hR⟩, trivial⟩ ?_
    · rintro ⟨k2, t4⟩ ⟨hd, hR⟩
      replace hd : a0.drop k2 = t4 := hd
      replace hR : s60_l1 a1 t4 k2 = some R := hR
      refine aw_seq ?_
      refine aw_seq ?_
      refine aw_region [.p, .p, .p, .p] ?_
      refine st rfl rfl (eff_moveg rfl rfl) rfl ?_
      refine st rfl rfl (eff_moveg rfl rfl) rfl ?_
      refine st rfl rfl (eff_lenM (f := cStr) (l := a0) rfl Tryz.underlying22 rfl) rfl ?_
      refine st rfl rfl (eff_lss rfl rfl rfl) rfl ?_
      refine st_nil ?_
      refine len_sl (f := cStr) (l := a0) 0 rfl fun hlz1 => ?_
      refine aw_cond _ rfl (fun h2 => ?_) (fun h2 => ?_)
      · replace h2 : (decide (((k2 : Nat) : Int) < (List.length a0 : Int))) = true := h2
        obtain ⟨y3, t4, rfl, hx1, hd⟩ := drop_cons hd (decT h2)
        replace h2 := decT h2
        rw [s60_l1] at hR
        try dsimp only at hR
        refine aw_skip ?_
        refine aw_seq ?_
        refine aw_block ?_
        refine aw_seq ?_
        obtain ⟨y5, by5, hR⟩ := bindO_inv hR
        refine aw_draw [.p, .p, .p, .p, .p, .p, .p, .p, .p] (by kernel_rfl) ?_
        refine st rfl rfl (eff_moveg rfl rfl) rfl ?_
        refine st rfl rfl (eff_moveg rfl rfl) rfl ?_
        refine st rfl rfl (eff_ix (f := cStr) (l := a0) (a := y3) rfl Tryz.underlying22 ty9 rfl rfl (Int.natCast_nonneg _) hx1) rfl ?_
        refine st rfl rfl (eff_load rfl ty9 rfl) rfl ?_
        refine st rfl rfl (eff_moveg rfl rfl) rfl ?_
        refine st rfl rfl (eff_moveg rfl rfl) rfl ?_
        refine st rfl rfl (eff_ix (f := cStr) (l := a1) (a := y5) rfl Tryz.underlying22 ty9 rfl rfl (ixO_nn by5) (ixO_get by5)) rfl ?_
        refine st rfl rfl (eff_load rfl ty9 rfl) rfl ?_
        refine st rfl rfl (eff_sne rfl rfl rfl) rfl ?_
        refine st_nil ?_
        refine aw_cond _ rfl (fun h4 => ?_) (fun h4 => ?_)
        · replace h4 : (!decide (y3 = y5)) = true := h4
          replace hR := condT hR h4
          try simp only [Bool.or_eq_true, Bool.and_eq_true, Bool.or_eq_false_iff, Bool.and_eq_false_iff, Bool.not_eq_true', Bool.not_eq_false', decide_eq_true_eq, decide_eq_false_iff_not] at h4
          refine aw_seq ?_
          refine aw_region [.p] ?_
          refine st rfl rfl (eff_assigng rfl rfl) rfl ?_
          refine st_nil ?_
          refine aw_ret ?_
          obtain rfl := Option.some.inj hR
          exact res_c rfl (rv_g rfl)
        · replace h4 : (!decide (y3 = y5)) = false := h4
          replace hR := condF hR h4
          try simp only [Bool.or_eq_true, Bool.and_eq_true, Bool.or_eq_false_iff, Bool.and_eq_false_iff, Bool.not_eq_true', Bool.not_eq_false', decide_eq_true_eq, decide_eq_false_iff_not] at h4
          refine aw_skip ?_
          refine aw_region [.p, .p, .p] ?_
          refine st rfl rfl (eff_moveg rfl rfl) rfl ?_
          refine st rfl rfl (eff_add rfl rfl rfl (by unfold I64; omega)) rfl ?_
          refine st rfl rfl (eff_assigng rfl rfl) rfl ?_
          refine st_nil ?_
          exact ⟨rfl, (k2 + 1, t4), ⟨rfl, rfl, rfl, trivial⟩, trivial, rfl, ⟨hd, hR⟩, by simp⟩
      · replace h2 : (decide (((k2 : Nat) : Int) < (List.length a0 : Int))) = false := h2
        obtain rfl := drop_nil hd (decF h2)
        rw [s60_l1] at hR
        refine aw_exit ?_
        refine aw_seq ?_
        refine aw_region [.p] ?_
        refine st rfl rfl (eff_assigng rfl rfl) rfl ?_
        refine st_nil ?_
        refine aw_ret ?_
        obtain rfl := Option.some.inj hR
        exact res_c rfl (rv_g rfl)
end Go.Sim

namespace Go.Sim
/-! ## UseStatus: what the walk asks of the law's words -/
theorem s27_len {l : List S104} (h : s27 l = 0) : l.length ≤ 512 := by
  unfold s27 at h
  by_cases h1 : 512 < l.length
  · rw [decide_eq_true (by omega)] at h; cases h
  · omega
theorem s21_len {l : List S104} {n : Int} (h : s21 (s22 l) n = true) : (l.length : Int) ≤ n ∨ 512 < l.length := by
  rw [s22_eq] at h
  unfold s21 at h
  by_cases h1 : (n < (l.length : Int)) ∧ ((l.length : Int) ≤ 512)
  · rw [decide_eq_true h1.1, decide_eq_true h1.2] at h; cases h
  · omega
theorem s122_ok {a0 : S23} {a1 : List S151} {a2 : List S104} (h : s122 a0 a1 a2 = 0) : s23 a0 = 0 ∧ s25 a1 = 0 ∧ s27 a2 = 0 := by
  unfold s122 at h
  have := s84_all h
  exact ⟨this _ (by simp), this _ (by simp), this _ (by simp)⟩
theorem notes_eq' (l : List S104) : s28 (s22 l) = s27 l := (notes_eq note_eq l).symm
theorem both_eq9 (a0 : S23) (a1 : List S151) (a2 : List S104) : s122 a0 a1 a2 = s35 [s24 (s18 a0), s26 (s20 a1), s28 (s22 a2)] := by
  unfold s122 s35
  rw [s84_s89, rule_eq, slots_eq, notes_eq']
theorem short9 {a0 : S23} {a1 : List S151} {a2 : List S104} {p q : Prop} (h : ((p ∧ q) ∧ s19 (s20 a1) 8 = true) ∧ s21 (s22 a2) 8 = true) : (¬ s27 a2 ≠ 0 → a2.length ≤ 12) ∧ (¬ s122 a0 a1 a2 ≠ 0 → a1.length ≤ 12 ∧ a2.length ≤ 12) := by
  have m1 := s19_len h.1.2
  have m2 := s21_len h.2
  refine ⟨fun h0 => ?_, fun h0 => ?_⟩
  · have := s27_len (by omega : s27 a2 = 0)
    omega
  · obtain ⟨_, g1, g2⟩ := s122_ok (by omega : s122 a0 a1 a2 = 0)
    have k1 := s25_len g1
    have k2 := s27_len g2
    omega
theorem notes9 {a2 : List S104} (hs : ¬ s27 a2 ≠ 0 → a2.length ≤ 12) (h : s28 (s22 a2) = 0) : (s22 a2).length ≤ 12 := by
  rw [notes_eq'] at h
  rw [s22_eq]
  exact hs (by omega)
theorem both9 {a0 : S23} {a1 : List S151} {a2 : List S104} (hs : ¬ s122 a0 a1 a2 ≠ 0 → a1.length ≤ 12 ∧ a2.length ≤ 12) (h : ¬ s35 [s24 (s18 a0), s26 (s20 a1), s28 (s22 a2)] ≠ 0) : (s20 a1).length ≤ 12 ∧ (s22 a2).length ≤ 12 := by
  rw [s20_eq, s22_eq]
  exact hs (by rw [both_eq9]; exact h)
theorem len56 {a2 : List S104} {r : List S151 × Int} (hs : ¬ s27 a2 ≠ 0 → a2.length ≤ 12) (h : s56 a2 = some r) : r.1.length ≤ 12 := by
  unfold s56 at h
  by_cases h0 : s27 a2 = 0
  · rw [decide_eq_false (by simpa using h0), cond_false] at h
    obtain ⟨y, h1, h⟩ := bindO_inv h
    cases h
    have := len121 h1
    have := hs (by simpa using h0)
    show y.length ≤ 12
    omega
  · rw [decide_eq_true h0, cond_true] at h
    cases h
    exact Nat.zero_le _
end Go.Sim

set_option linter.unusedSimpArgs false
set_option linter.unusedVariables false
set_option maxRecDepth 10000
namespace Go.Sim
open Go.Proofs


/-- turnroundlaw09.UseStatus -/
def s9_j1 (a0 : S23) (a1 : List S151) (a2 : List S104) (r1 : (List S151) × Int) (r2 : (List ByteArray) × Int) (r3 : S55 × Int) (x4 : List S151) : Option Bool :=
  bindO (s32 (s20 r1.1) x4) fun r5 => (bif (!r5) || (decide (r1.2 ≠ (s28 (s22 a2)))) then some false else (bif decide ((s35 [(s24 (s18 a0)), (s26 (s20 a1)), (s28 (s22 a2))]) ≠ 0) then some ((((decide ((List.length r2.1 : Int) = 0)) && (decide (r2.2 = (s35 [(s24 (s18 a0)), (s26 (s20 a1)), (s28 (s22 a2))])))) && (eqAnd [decide (r3.1.Flown = 0), decide (r3.1.Due = 0)])) && (decide (r3.2 = (s35 [(s24 (s18 a0)), (s26 (s20 a1)), (s28 (s22 a2))])))) else bindO (bif decide (IntKind.i64.wrap (r2.2 + r3.2) = 0) then s61 (s18 a0) (s20 a1) (s22 a2) else some default) fun r6 => bindO (bif decide (IntKind.i64.wrap (r2.2 + r3.2) = 0) then s60 r2.1 r6 else some default) fun r7 => bindO (bif (decide (IntKind.i64.wrap (r2.2 + r3.2) = 0)) && r7 then s62 (s18 a0) (s20 a1) (s22 a2) else some default) fun r8 => some (((decide (IntKind.i64.wrap (r2.2 + r3.2) = 0)) && r7) && (eqAnd [decide (r3.1.Flown = r8.Flown), decide (r3.1.Due = r8.Due)]))))
noncomputable def s9 (a0 : S23) (a1 : List S151) (a2 : List S104) : Option Bool :=
  (bif (((!s16) || (!(s17 (s18 a0)))) || (!(s19 (s20 a1) 8))) || (!(s21 (s22 a2) 8)) then some s16 else bindO (s56 a2) fun r1 => bindO (s57 a0 a1 a2) fun r2 => bindO (s58 a0 a1 a2) fun r3 => (bif decide ((s28 (s22 a2)) = 0) then bindO (s59 (s22 a2)) fun r9 => s9_j1 a0 a1 a2 r1 r2 r3 r9 else s9_j1 a0 a1 a2 r1 r2 r3 []))
theorem c9 (a0 : S23) (a1 : List S151) (a2 : List S104) {R : Bool}  (hb0 : a1.length * 40 ≤ 140737488351232) (hb1 : a2.length * 96 ≤ 140737488351232) (hR : s9 a0 a1 a2 = some R) : Con (EG glT) 9 [G.agg [G.int a0.Before, G.int a0.After, G.int a0.Notice, G.int a0.Share, G.sl 1 (List.map cStr a0.Causes), G.int a0.Off, G.int a0.Run], G.sl 3 (List.map S151.c a1), G.sl 8 (List.map S104.c a2)] (G.bool R) := by
  unfold s9 at hR
  refine con_of_aw Tryz.func9 rfl rfl fun w0 M0 => ?_
  refine len_sl (f := S151.c) (l := a1) 1 rfl fun hla1 => ?_
  refine len_sl (f := S104.c) (l := a2) 2 rfl fun hla2 => ?_
  refine aw_seq ?_
  refine aw_region [.p, .p] ?_
  refine st rfl rfl (eff_box rfl rfl) rfl ?_
  refine st rfl rfl (eff_assigng rfl rfl) rfl ?_
  refine st_nil ?_
  refine aw_seq ?_
  refine aw_seq ?_
  refine aw_region [.p, .p, .p, .p, .p, .p, .p, .p, .p, .p, .p, .p, .p, .p, .p, .p, .p, .p, .p, .p] ?_
  refine st rfl rfl (eff_call rfl K16 rfl (c16) ag_nil) rfl ?_
  refine st rfl rfl (eff_not rfl rfl) rfl ?_
  refine st rfl rfl (eff_moveg rfl rfl) rfl ?_
  refine st_g rfl rfl rfl (gb_bool _ _) (fun h => eff_loadA rfl ty24 rfl rfl rfl) rfl ?_
  refine st_g rfl rfl rfl (gb_bool _ _) (fun h => eff_call rfl K18 rfl (c18 a0) (ag_cons (gd h rfl) ag_nil)) rfl ?_
  refine st_g rfl rfl rfl (gb_bool _ _) (fun h => eff_call rfl K17 rfl (c17 (s18 a0)) (ag_cons (gd h rfl) ag_nil)) rfl ?_
  refine st_g rfl rfl rfl (gb_bool _ _) (fun h => eff_not rfl (gd h rfl)) rfl ?_
  refine st rfl rfl (eff_or rfl rfl rfl rfl) rfl ?_
  refine st rfl rfl (eff_moveg rfl rfl) rfl ?_
  refine st_g rfl rfl rfl (gb_bool _ _) (fun h => eff_moveg rfl rfl) rfl ?_
  refine st_g rfl rfl rfl (gb_bool _ _) (fun h => eff_call rfl K20 rfl (c20 a1 (by omega)) (ag_cons (gd h rfl) ag_nil)) rfl ?_
  refine st_g rfl rfl rfl (gb_bool _ _) (fun h => eff_call rfl K19 rfl (c19 (s20 a1) 8) (ag_cons (gd h rfl) (ag_cons rfl ag_nil))) rfl ?_
  refine st_g rfl rfl rfl (gb_bool _ _) (fun h => eff_not rfl (gd h rfl)) rfl ?_
  refine st rfl rfl (eff_or rfl rfl rfl rfl) rfl ?_
  refine st rfl rfl (eff_moveg rfl rfl) rfl ?_
  refine st_g rfl rfl rfl (gb_bool _ _) (fun h => eff_moveg rfl rfl) rfl ?_
  refine st_g rfl rfl rfl (gb_bool _ _) (fun h => eff_call rfl K22 rfl (c22 a2 (by first | assumption | omega | (simp [copyL_len]; omega))) (ag_cons (gd h rfl) ag_nil)) rfl ?_
  refine st_g rfl rfl rfl (gb_bool _ _) (fun h => eff_call rfl K21 rfl (c21 (s22 a2) 8) (ag_cons (gd h rfl) (ag_cons rfl ag_nil))) rfl ?_
  refine st_g rfl rfl rfl (gb_bool _ _) (fun h => eff_not rfl (gd h rfl)) rfl ?_
  refine st rfl rfl (eff_or rfl rfl rfl rfl) rfl ?_
  refine st_nil ?_
  refine aw_cond _ rfl (fun h1 => ?_) (fun h1 => ?_)
  · replace h1 : ((((!s16) || (!(s17 (s18 a0)))) || (!(s19 (s20 a1) 8))) || (!(s21 (s22 a2) 8))) = true := h1
    replace hR := condT hR h1
    try simp only [Bool.or_eq_true, Bool.and_eq_true, Bool.or_eq_false_iff, Bool.and_eq_false_iff, Bool.not_eq_true', Bool.not_eq_false', decide_eq_true_eq, decide_eq_false_iff_not] at h1
    refine aw_seq ?_
    refine aw_region [.p, .p] ?_
    refine st rfl rfl (eff_call rfl K16 rfl (c16) ag_nil) rfl ?_
    refine st rfl rfl (eff_assigng rfl rfl) rfl ?_
    refine st_nil ?_
    refine aw_ret ?_
    obtain rfl := Option.some.inj hR
    exact res_c rfl (rv_g rfl)
  · replace h1 : ((((!s16) || (!(s17 (s18 a0)))) || (!(s19 (s20 a1) 8))) || (!(s21 (s22 a2) 8))) = false := h1
    replace hR := condF hR h1
    try simp only [Bool.or_eq_true, Bool.and_eq_true, Bool.or_eq_false_iff, Bool.and_eq_false_iff, Bool.not_eq_true', Bool.not_eq_false', decide_eq_true_eq, decide_eq_false_iff_not] at h1
    obtain ⟨hs1, hs2⟩ := short9 (a0 := a0) h1
    refine aw_skip ?_
    refine aw_seq ?_
    obtain ⟨r1, br1, hR⟩ := bindO_inv hR
    refine aw_region [.p, .p, .p, .p, .p, .p, .p] ?_
    refine st rfl rfl (eff_moveg rfl rfl) rfl ?_
    refine st rfl rfl (eff_call rfl K56 rfl (c56 a2 (by first | assumption | omega | (simp [copyL_len]; omega)) (by first | assumption | omega | (simp [copyL_len]; omega)) br1) (ag_cons rfl ag_nil)) rfl ?_
    refine st rfl rfl (eff_moveg rfl rfl) rfl ?_
    refine st rfl rfl (eff_extract rfl rfl rfl) rfl ?_
    refine st rfl rfl (eff_extract rfl rfl rfl) rfl ?_
    refine st rfl rfl (eff_assigng rfl rfl) rfl ?_
    refine st rfl rfl (eff_assigng rfl rfl) rfl ?_
    refine st_nil ?_
    have hm56 := len56 hs1 br1
    refine aw_seq ?_
    obtain ⟨r2, br2, hR⟩ := bindO_inv hR
    refine aw_region [.p, .p, .p, .p, .p, .p, .p, .p, .p] ?_
    refine st rfl rfl (eff_loadA rfl ty24 rfl rfl rfl) rfl ?_
    refine st rfl rfl (eff_moveg rfl rfl) rfl ?_
    refine st rfl rfl (eff_moveg rfl rfl) rfl ?_
    refine st rfl rfl (eff_call rfl K57 rfl (c57 a0 a1 a2 (by first | assumption | omega | (simp [copyL_len]; omega)) (by first | assumption | omega | (simp [copyL_len]; omega)) (by first | assumption | omega | (simp [copyL_len]; omega)) br2) (ag_cons rfl (ag_cons rfl (ag_cons rfl ag_nil)))) rfl ?_
    refine st rfl rfl (eff_moveg rfl rfl) rfl ?_
    refine st rfl rfl (eff_extract rfl rfl rfl) rfl ?_
    refine st rfl rfl (eff_extract rfl rfl rfl) rfl ?_
    refine st rfl rfl (eff_assigng rfl rfl) rfl ?_
    refine st rfl rfl (eff_assigng rfl rfl) rfl ?_
    refine st_nil ?_
    refine aw_seq ?_
    obtain ⟨r3, br3, hR⟩ := bindO_inv hR
    refine aw_region [.p, .p, .p, .p, .p, .p, .p, .w, .w, .p] ?_
    refine st rfl rfl (eff_loadA rfl ty24 rfl rfl rfl) rfl ?_
    refine st rfl rfl (eff_moveg rfl rfl) rfl ?_
    refine st rfl rfl (eff_moveg rfl rfl) rfl ?_
    refine st rfl rfl (eff_call rfl K58 rfl (c58 a0 a1 a2 (by first | assumption | omega | (simp [copyL_len]; omega)) (by first | assumption | omega | (simp [copyL_len]; omega)) (by first | assumption | omega | (simp [copyL_len]; omega)) br3) (ag_cons rfl (ag_cons rfl (ag_cons rfl ag_nil)))) rfl ?_
    refine st rfl rfl (eff_moveg rfl rfl) rfl ?_
    refine st rfl rfl (eff_extract rfl rfl rfl) rfl ?_
    refine st rfl rfl (eff_extract rfl rfl rfl) rfl ?_
    refine st_w rfl rfl (eff_alloc 11 rfl z56 rfl rfl) rfl ?_
    refine st_wn rfl rfl (eff_store (tv := .g (G.agg [G.int r3.1.Flown, G.int r3.1.Due])) rfl ty56 rfl rfl rfl rfl rfl) ?_
    refine st rfl rfl (eff_assigng rfl rfl) rfl ?_
    refine st_nil ?_
    refine aw_seq ?_
    refine aw_region [.p, .p, .p, .p] ?_
    refine st rfl rfl (eff_moveg rfl rfl) rfl ?_
    refine st rfl rfl (eff_call rfl K22 rfl (c22 a2 (by first | assumption | omega | (simp [copyL_len]; omega))) (ag_cons rfl ag_nil)) rfl ?_
    refine st rfl rfl (eff_call rfl K28 rfl (c28 (s22 a2)) (ag_cons rfl ag_nil)) rfl ?_
    refine st rfl rfl (eff_assigng rfl rfl) rfl ?_
    refine st_nil ?_
    refine aw_seq ?_
    refine aw_region [.p] ?_
    refine st rfl rfl (eff_nilS 3 rfl rfl) rfl ?_
    refine st_nil ?_
    refine aw_cut_g (γ := (List S151)) (fun g => ([(1, .g (G.sl 3 (List.map S151.c a1))), (2, .g (G.sl 8 (List.map S104.c a2))), (3, .g (G.ref [G.int a0.Before, G.int a0.After, G.int a0.Notice, G.int a0.Share, G.sl 1 (List.map cStr a0.Causes), G.int a0.Off, G.int a0.Run])), (7, .g (G.sl 3 (List.map S151.c r1.1))), (8, .g (G.int r1.2)), (9, .g (G.sl 1 (List.map cStr r2.1))), (10, .g (G.int r2.2)), (11, .ptr 11 0), (12, .g (G.int r3.2)), (13, .g (G.int (s28 (s22 a2)))), (14, .g (G.sl 3 (List.map S151.c g)))], [(11, .box [.g (G.int r3.1.Flown), .g (G.int r3.1.Due)])])) (fun g => s9_j1 a0 a1 a2 r1 r2 r3 g = some R) ?_ ?_
    · refine aw_seq ?_
      refine aw_region [.p, .p] ?_
      refine st rfl rfl (eff_moveg rfl rfl) rfl ?_
      refine st rfl rfl (eff_eql rfl rfl rfl) rfl ?_
      refine st_nil ?_
      refine aw_cond _ rfl (fun h4 => ?_) (fun h4 => ?_)
      · replace h4 : (decide ((s28 (s22 a2)) = 0)) = true := h4
        replace hR := condT hR h4
        try simp only [Bool.or_eq_true, Bool.and_eq_true, Bool.or_eq_false_iff, Bool.and_eq_false_iff, Bool.not_eq_true', Bool.not_eq_false', decide_eq_true_eq, decide_eq_false_iff_not] at h4
        have hz3 := notes9 hs1 h4
        obtain ⟨r9, br9, hR⟩ := bindO_inv hR
        refine aw_region [.p, .p, .p, .p] ?_
        refine st rfl rfl (eff_moveg rfl rfl) rfl ?_
        refine st rfl rfl (eff_call rfl K22 rfl (c22 a2 (by first | assumption | omega | (simp [copyL_len]; omega))) (ag_cons rfl ag_nil)) rfl ?_
        refine st rfl rfl (eff_call rfl K59 rfl (c59 (s22 a2) (by first | assumption | omega | (simp [copyL_len]; omega)) br9) (ag_cons rfl ag_nil)) rfl ?_
        refine st rfl rfl (eff_assigng rfl rfl) rfl ?_
        refine st_nil ?_
        exact ⟨rfl, r9, ⟨rfl, rfl, rfl, rfl, rfl, rfl, rfl, rfl, rfl, rfl, rfl, trivial⟩, ⟨rfl, trivial⟩, rfl, hR, trivial⟩
      · replace h4 : (decide ((s28 (s22 a2)) = 0)) = false := h4
        replace hR := condF hR h4
        try simp only [Bool.or_eq_true, Bool.and_eq_true, Bool.or_eq_false_iff, Bool.and_eq_false_iff, Bool.not_eq_true', Bool.not_eq_false', decide_eq_true_eq, decide_eq_false_iff_not] at h4
        refine aw_skip ?_
        exact ⟨rfl, [], ⟨rfl, rfl, rfl, rfl, rfl, rfl, rfl, rfl, rfl, rfl, rfl, trivial⟩, ⟨rfl, trivial⟩, rfl, hR, trivial⟩
    · rintro x4 hR
      replace hR : s9_j1 a0 a1 a2 r1 r2 r3 x4 = some R := hR
      unfold s9_j1 at hR
      refine aw_seq ?_
      refine aw_seq ?_
      obtain ⟨r5, br5, hR⟩ := bindO_inv hR
      refine aw_region [.p, .p, .p, .p, .p, .p, .p, .p, .p, .p] ?_
      refine st rfl rfl (eff_moveg rfl rfl) rfl ?_
      refine st rfl rfl (eff_call rfl K20 rfl (c20 r1.1 (by omega)) (ag_cons rfl ag_nil)) rfl ?_
      refine st rfl rfl (eff_moveg rfl rfl) rfl ?_
      refine st rfl rfl (eff_call rfl K32 rfl (c32 (s20 r1.1) x4 br5) (ag_cons rfl (ag_cons rfl ag_nil))) rfl ?_
      refine st rfl rfl (eff_not rfl rfl) rfl ?_
      refine st rfl rfl (eff_moveg rfl rfl) rfl ?_
      refine st_g rfl rfl rfl (gb_bool _ _) (fun h => eff_moveg rfl rfl) rfl ?_
      refine st_g rfl rfl rfl (gb_bool _ _) (fun h => eff_moveg rfl rfl) rfl ?_
      refine st_g rfl rfl rfl (gb_bool _ _) (fun h => eff_neq rfl (gd h rfl) (gd h rfl)) rfl ?_
      refine st rfl rfl (eff_or rfl rfl rfl rfl) rfl ?_
      refine st_nil ?_
      refine aw_cond _ rfl (fun h2 => ?_) (fun h2 => ?_)
      · replace h2 : ((!r5) || (decide (r1.2 ≠ (s28 (s22 a2))))) = true := h2
        replace hR := condT hR h2
        try simp only [Bool.or_eq_true, Bool.and_eq_true, Bool.or_eq_false_iff, Bool.and_eq_false_iff, Bool.not_eq_true', Bool.not_eq_false', decide_eq_true_eq, decide_eq_false_iff_not] at h2
        refine aw_seq ?_
        refine aw_region [.p] ?_
        refine st rfl rfl (eff_assigng rfl rfl) rfl ?_
        refine st_nil ?_
        refine aw_ret ?_
        obtain rfl := Option.some.inj hR
        exact res_c rfl (rv_g rfl)
      · replace h2 : ((!r5) || (decide (r1.2 ≠ (s28 (s22 a2))))) = false := h2
        replace hR := condF hR h2
        try simp only [Bool.or_eq_true, Bool.and_eq_true, Bool.or_eq_false_iff, Bool.and_eq_false_iff, Bool.not_eq_true', Bool.not_eq_false', decide_eq_true_eq, decide_eq_false_iff_not] at h2
        refine aw_skip ?_
        refine aw_seq ?_
        refine aw_region [.p, .p, .p, .p, .p, .p, .p, .p, .p, .p] ?_
        refine st rfl rfl (eff_loadA rfl ty24 rfl rfl rfl) rfl ?_
        refine st rfl rfl (eff_call rfl K18 rfl (c18 a0) (ag_cons rfl ag_nil)) rfl ?_
        refine st rfl rfl (eff_call rfl K24 rfl (c24 (s18 a0)) (ag_cons rfl ag_nil)) rfl ?_
        refine st rfl rfl (eff_moveg rfl rfl) rfl ?_
        refine st rfl rfl (eff_call rfl K20 rfl (c20 a1 (by omega)) (ag_cons rfl ag_nil)) rfl ?_
        refine st rfl rfl (eff_call rfl K26 rfl (c26 (s20 a1)) (ag_cons rfl ag_nil)) rfl ?_
        refine st rfl rfl (eff_moveg rfl rfl) rfl ?_
        refine st rfl rfl (eff_buildSlice rfl Tryz.underlying82 ty3 z3 rfl (ps_cons rfl (ps_cons rfl (ps_cons rfl ps_nil))) rfl (by simp []) (by decide)) rfl ?_
        refine st rfl rfl (eff_call rfl K35 rfl (c35 [(s24 (s18 a0)), (s26 (s20 a1)), (s28 (s22 a2))]) (ag_cons rfl ag_nil)) rfl ?_
        refine st rfl rfl (eff_assigng rfl rfl) rfl ?_
        refine st_nil ?_
        refine aw_seq ?_
        refine aw_seq ?_
        refine aw_region [.p, .p] ?_
        refine st rfl rfl (eff_moveg rfl rfl) rfl ?_
        refine st rfl rfl (eff_neq rfl rfl rfl) rfl ?_
        refine st_nil ?_
        refine aw_cond _ rfl (fun h3 => ?_) (fun h3 => ?_)
        · replace h3 : (decide ((s35 [(s24 (s18 a0)), (s26 (s20 a1)), (s28 (s22 a2))]) ≠ 0)) = true := h3
          replace hR := condT hR h3
          try simp only [Bool.or_eq_true, Bool.and_eq_true, Bool.or_eq_false_iff, Bool.and_eq_false_iff, Bool.not_eq_true', Bool.not_eq_false', decide_eq_true_eq, decide_eq_false_iff_not] at h3
          refine aw_seq ?_
          refine aw_region [.p, .p, .p, .p, .p, .p, .p, .p, .p, .r, .p, .p, .p, .p, .p, .p, .p, .p, .p] ?_
          refine st rfl rfl (eff_moveg rfl rfl) rfl ?_
          refine st rfl rfl (eff_lenM (f := cStr) (l := r2.1) rfl Tryz.underlying22 rfl) rfl ?_
          refine st rfl rfl (eff_eql rfl rfl rfl) rfl ?_
          refine st rfl rfl (eff_moveg rfl rfl) rfl ?_
          refine st_g rfl rfl rfl (gb_bool _ _) (fun h => eff_moveg rfl rfl) rfl ?_
          refine st_g rfl rfl rfl (gb_bool _ _) (fun h => eff_moveg rfl rfl) rfl ?_
          refine st_g rfl rfl rfl (gb_bool _ _) (fun h => eff_eql rfl (gd h rfl) (gd h rfl)) rfl ?_
          refine st rfl rfl (eff_and rfl rfl rfl rfl) rfl ?_
          refine st rfl rfl (eff_moveg rfl rfl) rfl ?_
          refine st_gr rfl rfl rfl (gb_bool _ _) (fun h => eff_loadOA rfl ty56 rfl rfl rfl rfl) rfl ?_
          refine st_g rfl rfl rfl (gb_bool _ _) (fun h => eff_build rfl z56 rfl pl56 pb_nil rfl) rfl ?_
          refine st_g rfl rfl rfl (gb_bool _ _) (fun h => eff_aeql [.int .i64 r3.1.Flown, .int .i64 r3.1.Due] [.int .i64 0, .int .i64 0] rfl flat56 (gd h rfl) (gd h rfl) rfl rfl rfl) rfl ?_
          refine st rfl rfl (eff_and rfl rfl rfl rfl) rfl ?_
          refine st rfl rfl (eff_moveg rfl rfl) rfl ?_
          refine st_g rfl rfl rfl (gb_bool _ _) (fun h => eff_moveg rfl rfl) rfl ?_
          refine st_g rfl rfl rfl (gb_bool _ _) (fun h => eff_moveg rfl rfl) rfl ?_
          refine st_g rfl rfl rfl (gb_bool _ _) (fun h => eff_eql rfl (gd h rfl) (gd h rfl)) rfl ?_
          refine st rfl rfl (eff_and rfl rfl rfl rfl) rfl ?_
          refine st rfl rfl (eff_assigng rfl rfl) rfl ?_
          refine st_nil ?_
          refine aw_ret ?_
          obtain rfl := Option.some.inj hR
          exact res_c rfl (rv_g rfl)
        · replace h3 : (decide ((s35 [(s24 (s18 a0)), (s26 (s20 a1)), (s28 (s22 a2))]) ≠ 0)) = false := h3
          replace hR := condF hR h3
          try simp only [Bool.or_eq_true, Bool.and_eq_true, Bool.or_eq_false_iff, Bool.and_eq_false_iff, Bool.not_eq_true', Bool.not_eq_false', decide_eq_true_eq, decide_eq_false_iff_not] at h3
          obtain ⟨hz1, hz2⟩ := both9 hs2 h3
          refine aw_skip ?_
          refine aw_seq ?_
          obtain ⟨r6, br6, hR⟩ := bindO_inv hR
          obtain ⟨r7, br7, hR⟩ := bindO_inv hR
          obtain ⟨r8, br8, hR⟩ := bindO_inv hR
          refine aw_draw [.p, .p, .p, .p, .p, .p, .p, .p, .p, .p, .p, .p, .p, .p, .p, .p, .r, .p, .p, .p, .p, .p, .p, .p, .p, .p, .p] (by kernel_rfl) ?_
          refine st rfl rfl (eff_moveg rfl rfl) rfl ?_
          refine st rfl rfl (eff_moveg rfl rfl) rfl ?_
          refine st rfl rfl (eff_addw rfl rfl rfl) rfl ?_
          refine st rfl rfl (eff_eql rfl rfl rfl) rfl ?_
          refine st rfl rfl (eff_moveg rfl rfl) rfl ?_
          refine st_g rfl rfl rfl (gb_bool _ _) (fun h => eff_moveg rfl rfl) rfl ?_
          refine st_g rfl rfl rfl (gb_bool _ _) (fun h => eff_loadA rfl ty24 rfl rfl rfl) rfl ?_
          refine st_g rfl rfl rfl (gb_bool _ _) (fun h => eff_call rfl K18 rfl (c18 a0) (ag_cons (gd h rfl) ag_nil)) rfl ?_
          refine st_g rfl rfl rfl (gb_bool _ _) (fun h => eff_moveg rfl rfl) rfl ?_
          refine st_g rfl rfl rfl (gb_bool _ _) (fun h => eff_call rfl K20 rfl (c20 a1 (by omega)) (ag_cons (gd h rfl) ag_nil)) rfl ?_
          refine st_g rfl rfl rfl (gb_bool _ _) (fun h => eff_moveg rfl rfl) rfl ?_
          refine st_g rfl rfl rfl (gb_bool _ _) (fun h => eff_call rfl K22 rfl (c22 a2 (by first | assumption | omega | (simp [copyL_len]; omega))) (ag_cons (gd h rfl) ag_nil)) rfl ?_
          refine st_g rfl rfl rfl (gb_bool _ _) (fun h => eff_call rfl K61 rfl (c61 (s18 a0) (s20 a1) (s22 a2) (by first | assumption | omega | (simp [copyL_len]; omega)) (by first | assumption | omega | (simp [copyL_len]; omega)) (condT1 br6 h)) (ag_cons (gd h rfl) (ag_cons (gd h rfl) (ag_cons (gd h rfl) ag_nil)))) rfl ?_
          refine st_g rfl rfl rfl (gb_bool _ _) (fun h => eff_call rfl K60 rfl (c60 r2.1 r6 (condT1 br7 h)) (ag_cons (gd h rfl) (ag_cons (gd h rfl) ag_nil))) rfl ?_
          refine st rfl rfl (eff_and rfl rfl rfl rfl) rfl ?_
          refine st rfl rfl (eff_moveg rfl rfl) rfl ?_
          refine st_gr rfl rfl rfl (gb_bool _ _) (fun h => eff_loadOA rfl ty56 rfl rfl rfl rfl) rfl ?_
          refine st_g rfl rfl rfl (gb_bool _ _) (fun h => eff_loadA rfl ty24 rfl rfl rfl) rfl ?_
          refine st_g rfl rfl rfl (gb_bool _ _) (fun h => eff_call rfl K18 rfl (c18 a0) (ag_cons (gd h rfl) ag_nil)) rfl ?_
          refine st_g rfl rfl rfl (gb_bool _ _) (fun h => eff_moveg rfl rfl) rfl ?_
          refine st_g rfl rfl rfl (gb_bool _ _) (fun h => eff_call rfl K20 rfl (c20 a1 (by omega)) (ag_cons (gd h rfl) ag_nil)) rfl ?_
          refine st_g rfl rfl rfl (gb_bool _ _) (fun h => eff_moveg rfl rfl) rfl ?_
          refine st_g rfl rfl rfl (gb_bool _ _) (fun h => eff_call rfl K22 rfl (c22 a2 (by first | assumption | omega | (simp [copyL_len]; omega))) (ag_cons (gd h rfl) ag_nil)) rfl ?_
          refine st_g rfl rfl rfl (gb_bool _ _) (fun h => eff_call rfl K62 rfl (c62 (s18 a0) (s20 a1) (s22 a2) (by first | assumption | omega | (simp [copyL_len]; omega)) (by first | assumption | omega | (simp [copyL_len]; omega)) (condT1 br8 h)) (ag_cons (gd h rfl) (ag_cons (gd h rfl) (ag_cons (gd h rfl) ag_nil)))) rfl ?_
          refine st_g rfl rfl rfl (gb_bool _ _) (fun h => eff_aeql [.int .i64 r3.1.Flown, .int .i64 r3.1.Due] [.int .i64 r8.Flown, .int .i64 r8.Due] rfl flat63 (gd h rfl) (gd h rfl) rfl rfl rfl) rfl ?_
          refine st rfl rfl (eff_and rfl rfl rfl rfl) rfl ?_
          refine st rfl rfl (eff_assigng rfl rfl) rfl ?_
          refine st_nil ?_
          refine aw_ret ?_
          obtain rfl := Option.some.inj hR
          exact res_c rfl (rv_g rfl)
end Go.Sim

