/-
  What is proved: the walk of the states: the program.
-/
import Derived.Test.YtdfgeoefbbkcnaaGreatDoorVsF2
import Derived.Test.YtdfgeoefbbkcnaaGreatDoorVaA6
import Derived.Test.YtdfgeoefbbkcnaaGreatDoorVaA9
import Derived.Test.YtdfgeoefbbkcnaaGreatDoorVaA4
import Derived.Test.YtdfgeoefbbkcnaaGreatDoorVsF1
set_option linter.unusedSectionVars false
set_option linter.unusedSimpArgs false
set_option linter.unusedVariables false
set_option linter.unnecessarySimpa false
set_option linter.deprecated false
set_option linter.unusedSimpArgs false
set_option linter.unusedVariables false
set_option maxRecDepth 10000
namespace Go.Sim
open Go.Proofs


end Go.Sim

set_option linter.unusedSimpArgs false
set_option linter.unusedVariables false
set_option maxRecDepth 10000
namespace Go.Sim
open Go.Proofs


end Go.Sim

set_option linter.unusedSimpArgs false
set_option linter.unusedVariables false
set_option maxRecDepth 10000
namespace Go.Sim
open Go.Proofs


/-- turnroundref01.CheckPeriod -/
def s40 (a0 : S45) : Int :=
 (bif (decide ((s109 a0.fFrom) ≠ 0)) || (decide ((s109 a0.fTo) ≠ 0)) then 3 else (bif decide (a0.fTo < a0.fFrom) then 11 else (bif decide (400 < IntKind.i64.wrap (a0.fTo - a0.fFrom)) then 4 else (s90 a0.Days 1 127))))
theorem c40 {g : List (Nat × List Value)} (a0 : S45)    : Con (EG g) 40 [G.agg [G.int a0.fFrom, G.int a0.fTo, G.int a0.Days]] (G.int (s40 a0)) := by
 generalize hR : s40 a0 = R
 unfold s40 at hR
 refine con_of_aw Tryz.func40 rfl rfl fun w0 M0 => ?_
 refine aw_seq ?_
 refine aw_region [.p, .p] ?_
 refine st rfl rfl (eff_box rfl rfl) rfl ?_
 refine st rfl rfl (eff_assigng rfl rfl) rfl ?_
 refine st_nil ?_
 refine aw_seq ?_
 refine aw_seq ?_
 refine aw_region [.p, .p, .p, .p, .p, .p, .p, .p, .p, .p] ?_
 refine st rfl rfl (eff_fieldAddr rfl fl46_0 rfl) rfl ?_
 refine st rfl rfl (eff_load rfl ty3 rfl) rfl ?_
 refine st rfl rfl (eff_call rfl K109 rfl (c109 a0.fFrom) (ag_cons rfl ag_nil)) rfl ?_
 refine st rfl rfl (eff_neq rfl rfl rfl) rfl ?_
 refine st rfl rfl (eff_moveg rfl rfl) rfl ?_
 refine st_g rfl rfl rfl (gb_bool _ _) (fun h => eff_fieldAddr rfl fl46_1 rfl) rfl ?_
 refine st_g rfl rfl rfl (gb_bool _ _) (fun h => eff_load rfl ty3 (gd h rfl)) rfl ?_
 refine st_g rfl rfl rfl (gb_bool _ _) (fun h => eff_call rfl K109 rfl (c109 a0.fTo) (ag_cons (gd h rfl) ag_nil)) rfl ?_
 refine st_g rfl rfl rfl (gb_bool _ _) (fun h => eff_neq rfl (gd h rfl) rfl) rfl ?_
 refine st rfl rfl (eff_or rfl rfl rfl rfl) rfl ?_
 refine st_nil ?_
 refine aw_cond _ rfl (fun h1 => ?_) (fun h1 => ?_)
 ·replace h1 : ((decide ((s109 a0.fFrom) ≠ 0)) || (decide ((s109 a0.fTo) ≠ 0))) = true := h1
  replace hR := condT hR h1
  try simp only [Bool.or_eq_true, Bool.and_eq_true, Bool.or_eq_false_iff, Bool.and_eq_false_iff, Bool.not_eq_true', Bool.not_eq_false', decide_eq_true_eq, decide_eq_false_iff_not] at h1
  refine aw_seq ?_
  refine aw_region [.p] ?_
  refine st rfl rfl (eff_assigng rfl rfl) rfl ?_
  refine st_nil ?_
  refine aw_ret ?_
  subst hR
  exact res_c rfl (rv_g rfl)
 ·replace h1 : ((decide ((s109 a0.fFrom) ≠ 0)) || (decide ((s109 a0.fTo) ≠ 0))) = false := h1
  replace hR := condF hR h1
  try simp only [Bool.or_eq_true, Bool.and_eq_true, Bool.or_eq_false_iff, Bool.and_eq_false_iff, Bool.not_eq_true', Bool.not_eq_false', decide_eq_true_eq, decide_eq_false_iff_not] at h1
  refine aw_skip ?_
  refine aw_seq ?_
  refine aw_seq ?_
  refine aw_region [.p, .p, .p, .p, .p] ?_
  refine st rfl rfl (eff_fieldAddr rfl fl46_1 rfl) rfl ?_
  refine st rfl rfl (eff_load rfl ty3 rfl) rfl ?_
  refine st rfl rfl (eff_fieldAddr rfl fl46_0 rfl) rfl ?_
  refine st rfl rfl (eff_load rfl ty3 rfl) rfl ?_
  refine st rfl rfl (eff_lss rfl rfl rfl) rfl ?_
  refine st_nil ?_
  refine aw_cond _ rfl (fun h2 => ?_) (fun h2 => ?_)
  ·replace h2 : (decide (a0.fTo < a0.fFrom)) = true := h2
   replace hR := condT hR h2
   try simp only [decide_eq_true_eq] at h2
   refine aw_seq ?_
   refine aw_region [.p] ?_
   refine st rfl rfl (eff_assigng rfl rfl) rfl ?_
   refine st_nil ?_
   refine aw_ret ?_
   subst hR
   exact res_c rfl (rv_g rfl)
  ·replace h2 : (decide (a0.fTo < a0.fFrom)) = false := h2
   replace hR := condF hR h2
   try simp only [decide_eq_false_iff_not] at h2
   refine aw_skip ?_
   refine aw_seq ?_
   refine aw_seq ?_
   refine aw_region [.p, .p, .p, .p, .p, .p] ?_
   refine st rfl rfl (eff_fieldAddr rfl fl46_1 rfl) rfl ?_
   refine st rfl rfl (eff_load rfl ty3 rfl) rfl ?_
   refine st rfl rfl (eff_fieldAddr rfl fl46_0 rfl) rfl ?_
   refine st rfl rfl (eff_load rfl ty3 rfl) rfl ?_
   refine st rfl rfl (eff_subw rfl rfl rfl) rfl ?_
   refine st rfl rfl (eff_gtr rfl rfl rfl) rfl ?_
   refine st_nil ?_
   refine aw_cond _ rfl (fun h3 => ?_) (fun h3 => ?_)
   ·replace h3 : (decide (400 < IntKind.i64.wrap (a0.fTo - a0.fFrom))) = true := h3
    replace hR := condT hR h3
    try simp only [decide_eq_true_eq] at h3
    refine aw_seq ?_
    refine aw_region [.p] ?_
    refine st rfl rfl (eff_assigng rfl rfl) rfl ?_
    refine st_nil ?_
    refine aw_ret ?_
    subst hR
    exact res_c rfl (rv_g rfl)
   ·replace h3 : (decide (400 < IntKind.i64.wrap (a0.fTo - a0.fFrom))) = false := h3
    replace hR := condF hR h3
    try simp only [decide_eq_false_iff_not] at h3
    refine aw_skip ?_
    refine aw_seq ?_
    refine aw_region [.p, .p, .p, .p] ?_
    refine st rfl rfl (eff_fieldAddr rfl fl46_2 rfl) rfl ?_
    refine st rfl rfl (eff_load rfl ty3 rfl) rfl ?_
    refine st rfl rfl (eff_call rfl K90 rfl (c90 a0.Days 1 127) (ag_cons rfl (ag_cons rfl (ag_cons rfl ag_nil)))) rfl ?_
    refine st rfl rfl (eff_assigng rfl rfl) rfl ?_
    refine st_nil ?_
    refine aw_ret ?_
    subst hR
    exact res_c rfl (rv_g rfl)

/-- turnroundref01.Weekday -/
def s180 (a0 : Int) : Int :=
 Int.tmod (IntKind.i64.wrap (a0 + 5)) 7
theorem c180 {g : List (Nat × List Value)} (a0 : Int)    : Con (EG g) 180 [G.int a0] (G.int (s180 a0)) := by
 generalize hR : s180 a0 = R
 unfold s180 at hR
 refine con_of_aw Tryz.func180 rfl rfl fun w0 M0 => ?_
 refine aw_seq ?_
 refine aw_region [.p] ?_
 refine st rfl rfl (eff_assigng rfl rfl) rfl ?_
 refine st_nil ?_
 refine aw_seq ?_
 refine aw_region [.p, .p, .p, .p] ?_
 refine st rfl rfl (eff_moveg rfl rfl) rfl ?_
 refine st rfl rfl (eff_addw rfl rfl rfl) rfl ?_
 refine st rfl rfl (eff_remt rfl rfl rfl (by decide)) rfl ?_
 refine st rfl rfl (eff_assigng rfl rfl) rfl ?_
 refine st_nil ?_
 refine aw_ret ?_
 subst hR
 exact res_c rfl (rv_g rfl)
end Go.Sim

namespace Go.Sim
theorem s180_le (x : Int) : s180 x ≤ 7 := by
  unfold s180
  generalize IntKind.i64.wrap (x + 5) = y
  have := Int.tmod_lt_of_pos y (show (0 : Int) < 7 by decide)
  omega
end Go.Sim

set_option linter.unusedSimpArgs false
set_option linter.unusedVariables false
set_option maxRecDepth 10000
namespace Go.Sim
open Go.Proofs


/-- turnroundref01.InMask -/
def s192_l1  : Nat → Int → Int → Bool
 | 0, x1, x2 => decide (Int.tmod x1 2 = 1)
 | k4 + 1, x1, x2 => s192_l1 k4 (IntKind.i64.wrap (Int.tdiv x1 2)) (x2 + 1)
def s192 (a0 : Int) (a1 : Int) : Bool :=
 s192_l1 ((a1 - 0).toNat) a0 0
theorem c192 {g : List (Nat × List Value)} (a0 : Int) (a1 : Int)  (hw : a1 ≤ 7)  : Con (EG g) 192 [G.int a0, G.int a1] (G.bool (s192 a0 a1)) := by
 generalize hR : s192 a0 a1 = R
 unfold s192 at hR
 refine con_of_aw Tryz.func192 rfl rfl fun w0 M0 => ?_
 refine aw_seq ?_
 refine aw_region [.p] ?_
 refine st rfl rfl (eff_assigng rfl rfl) rfl ?_
 refine st_nil ?_
 refine aw_seq ?_
 refine aw_seq ?_
 refine aw_region [.p] ?_
 refine st rfl rfl (eff_assigng rfl rfl) rfl ?_
 refine st_nil ?_
 refine aw_block ?_
 refine aw_loop_g (γ := Nat × Int × Int) (fun g => ([(0, .g (G.int g.2.1)), (1, .g (G.int a1)), (5, .g (G.int g.2.2))], [])) (fun g => g.1 = (a1 - g.2.2).toNat ∧ 0 ≤ g.2.2 ∧ s192_l1 g.1 g.2.1 g.2.2 = R) (fun g => g.1) ⟨rfl, ((a1 - 0).toNat, a0, 0), ⟨rfl, rfl, rfl, trivial⟩, trivial, rfl, ⟨rfl, (by first | omega | (dsimp only; omega) | simp), hR⟩, trivial⟩ ?_
 ·rintro ⟨k4, x1, x2⟩ ⟨hk1, iv1_0, hR⟩
  replace hk1 : k4 = (a1 - x2).toNat := hk1
  replace hR : s192_l1 k4 x1 x2 = R := hR
  replace iv1_0 : 0 ≤ x2 := iv1_0
  refine aw_seq ?_
  refine aw_seq ?_
  refine aw_region [.p, .p, .p] ?_
  refine st rfl rfl (eff_moveg rfl rfl) rfl ?_
  refine st rfl rfl (eff_moveg rfl rfl) rfl ?_
  refine st rfl rfl (eff_lss rfl rfl rfl) rfl ?_
  refine st_nil ?_
  refine aw_cond _ rfl (fun h1 => ?_) (fun h1 => ?_)
  ·replace h1 : (decide (x2 < a1)) = true := h1
   replace h1 := decT h1
   obtain ⟨k4, rfl⟩ : ∃ m, k4 = m + 1 := ⟨k4 - 1, by omega⟩
   rw [s192_l1] at hR
   try dsimp only at hR
   refine aw_skip ?_
   refine aw_seq ?_
   refine aw_block ?_
   refine aw_region [.p, .p, .p] ?_
   refine st rfl rfl (eff_moveg rfl rfl) rfl ?_
   refine st rfl rfl (eff_quow rfl rfl rfl (by decide)) rfl ?_
   refine st rfl rfl (eff_assigng rfl rfl) rfl ?_
   refine st_nil ?_
   refine aw_region [.p, .p, .p] ?_
   refine st rfl rfl (eff_moveg rfl rfl) rfl ?_
   refine st rfl rfl (eff_add rfl rfl rfl (by (try dsimp only); unfold I64; omega)) rfl ?_
   refine st rfl rfl (eff_assigng rfl rfl) rfl ?_
   refine st_nil ?_
   exact ⟨rfl, (k4, IntKind.i64.wrap (Int.tdiv x1 2), x2 + 1), ⟨rfl, rfl, rfl, trivial⟩, trivial, rfl, ⟨(by first | omega | (dsimp only; omega) | (simp at *; omega)), (by first | omega | (dsimp only; omega) | (simp at *; omega)), hR⟩, by simp⟩
  ·replace h1 : (decide (x2 < a1)) = false := h1
   replace h1 := decF h1
   obtain rfl : k4 = 0 := by omega
   rw [s192_l1] at hR
   refine aw_exit ?_
   refine aw_seq ?_
   refine aw_region [.p, .p, .p, .p] ?_
   refine st rfl rfl (eff_moveg rfl rfl) rfl ?_
   refine st rfl rfl (eff_remt rfl rfl rfl (by decide)) rfl ?_
   refine st rfl rfl (eff_eql rfl rfl rfl) rfl ?_
   refine st rfl rfl (eff_assigng rfl rfl) rfl ?_
   refine st_nil ?_
   refine aw_ret ?_
   subst hR
   exact res_c rfl (rv_g rfl)

/-- turnroundref01.Has -/
def s157 (a0 : S45) (a1 : Int) : Bool :=
 ((decide (a0.fFrom ≤ a1)) && (decide (a1 ≤ a0.fTo))) && (s192 a0.Days (s180 a1))
theorem c157 {g : List (Nat × List Value)} (a0 : S45) (a1 : Int)    : Con (EG g) 157 [G.agg [G.int a0.fFrom, G.int a0.fTo, G.int a0.Days], G.int a1] (G.bool (s157 a0 a1)) := by
 generalize hR : s157 a0 a1 = R
 unfold s157 at hR
 refine con_of_aw Tryz.func157 rfl rfl fun w0 M0 => ?_
 refine aw_seq ?_
 refine aw_region [.p, .p] ?_
 refine st rfl rfl (eff_box rfl rfl) rfl ?_
 refine st rfl rfl (eff_assigng rfl rfl) rfl ?_
 refine st_nil ?_
 refine aw_seq ?_
 refine aw_draw [.p, .p, .p, .p, .p, .p, .p, .p, .p, .p, .p, .p, .p, .p, .p, .p, .p, .p] (by kernel_rfl) ?_
 refine st rfl rfl (eff_moveg rfl rfl) rfl ?_
 refine st rfl rfl (eff_fieldAddr rfl fl46_0 rfl) rfl ?_
 refine st rfl rfl (eff_load rfl ty3 rfl) rfl ?_
 refine st rfl rfl (eff_geq rfl rfl rfl) rfl ?_
 refine st rfl rfl (eff_moveg rfl rfl) rfl ?_
 refine st_g rfl rfl rfl (gb_bool _ _) (fun h => eff_moveg rfl rfl) rfl ?_
 refine st_g rfl rfl rfl (gb_bool _ _) (fun h => eff_fieldAddr rfl fl46_1 rfl) rfl ?_
 refine st_g rfl rfl rfl (gb_bool _ _) (fun h => eff_load rfl ty3 (gd h rfl)) rfl ?_
 refine st_g rfl rfl rfl (gb_bool _ _) (fun h => eff_leq rfl (gd h rfl) (gd h rfl)) rfl ?_
 refine st rfl rfl (eff_and rfl rfl rfl rfl) rfl ?_
 refine st rfl rfl (eff_moveg rfl rfl) rfl ?_
 refine st_g rfl rfl rfl (gb_bool _ _) (fun h => eff_fieldAddr rfl fl46_2 rfl) rfl ?_
 refine st_g rfl rfl rfl (gb_bool _ _) (fun h => eff_load rfl ty3 (gd h rfl)) rfl ?_
 refine st_g rfl rfl rfl (gb_bool _ _) (fun h => eff_moveg rfl rfl) rfl ?_
 refine st_g rfl rfl rfl (gb_bool _ _) (fun h => eff_call rfl K180 rfl (c180 a1) (ag_cons (gd h rfl) ag_nil)) rfl ?_
 refine st_g rfl rfl rfl (gb_bool _ _) (fun h => eff_call rfl K192 rfl (c192 a0.Days (s180 a1) (s180_le _)) (ag_cons (gd h rfl) (ag_cons (gd h rfl) ag_nil))) rfl ?_
 refine st rfl rfl (eff_and rfl rfl rfl rfl) rfl ?_
 refine st rfl rfl (eff_assigng rfl rfl) rfl ?_
 refine st_nil ?_
 refine aw_ret ?_
 subst hR
 exact res_c rfl (rv_g rfl)

/-- turnroundref01.DaysOf -/
def s104_j1 (rec1 : (List Int) → Int → List Int) (x2 : Int) (x4 : List Int) : List Int :=
 rec1 x4 (x2 + 1)
def s104_l1 (a0 : S45) : Nat → (List Int) → Int → List Int
 | 0, x1, x2 => x1
 | k3 + 1, x1, x2 => (bif (s157 a0 x2) then s104_j1 (fun z0_ z1_ => s104_l1 a0 k3 z0_ z1_) x2 (x1 ++ [x2]) else s104_j1 (fun z0_ z1_ => s104_l1 a0 k3 z0_ z1_) x2 x1)
def s104 (a0 : S45) : List Int :=
 s104_l1 a0 (((a0.fTo + 1) - a0.fFrom).toNat) [] a0.fFrom
theorem c104 {g : List (Nat × List Value)} (a0 : S45)  (hp0 : 0 ≤ a0.fFrom) (hp1 : a0.fTo ≤ 1000000)  : Con (EG g) 104 [G.agg [G.int a0.fFrom, G.int a0.fTo, G.int a0.Days]] (G.sl 1 (List.map cInt (s104 a0))) := by
 generalize hR : s104 a0 = R
 unfold s104 at hR
 refine con_of_aw Tryz.func104 rfl rfl fun w0 M0 => ?_
 refine aw_seq ?_
 refine aw_region [.p, .w] ?_
 refine st rfl rfl (eff_box rfl rfl) rfl ?_
 refine st_w rfl rfl (eff_nilL 2 3 1 rfl rfl rfl) rfl ?_
 refine st_nil ?_
 refine aw_seq ?_
 refine aw_region [.w] ?_
 refine st_w rfl rfl (eff_nilL 3 3 1 rfl rfl rfl) rfl ?_
 refine st_nil ?_
 refine aw_seq ?_
 refine aw_seq ?_
 refine aw_region [.p, .p, .p] ?_
 refine st rfl rfl (eff_fieldAddr rfl fl46_0 rfl) rfl ?_
 refine st rfl rfl (eff_load rfl ty3 rfl) rfl ?_
 refine st rfl rfl (eff_assigng rfl rfl) rfl ?_
 refine st_nil ?_
 refine aw_block ?_
 refine aw_loop_g (γ := Nat × (List Int) × Int) (fun g => ([(1, .g (G.ref [G.int a0.fFrom, G.int a0.fTo, G.int a0.Days])), (3, .osl 3 1 0 (List.length g.2.1)), (4, .g (G.int g.2.2))], [(3, .arr 3 1 (List.map cInt g.2.1))])) (fun g => g.1 = ((a0.fTo + 1) - g.2.2).toNat ∧ a0.fFrom ≤ g.2.2 ∧ g.2.1.length ≤ (g.2.2 - a0.fFrom).toNat ∧ s104_l1 a0 g.1 g.2.1 g.2.2 = R) (fun g => g.1) ⟨rfl, (((a0.fTo + 1) - a0.fFrom).toNat, [], a0.fFrom), ⟨rfl, rfl, rfl, trivial⟩, ⟨rfl, trivial⟩, rfl, ⟨rfl, (by first | omega | (dsimp only; omega) | simp), (by first | omega | (dsimp only; omega) | simp), hR⟩, trivial⟩ ?_
 ·rintro ⟨k3, x1, x2⟩ ⟨hk1, iv1_0, iv1_1, hR⟩
  replace hk1 : k3 = ((a0.fTo + 1) - x2).toNat := hk1
  replace hR : s104_l1 a0 k3 x1 x2 = R := hR
  replace iv1_0 : a0.fFrom ≤ x2 := iv1_0
  replace iv1_1 : x1.length ≤ (x2 - a0.fFrom).toNat := iv1_1
  refine aw_seq ?_
  refine aw_seq ?_
  refine aw_region [.p, .p, .p, .p] ?_
  refine st rfl rfl (eff_moveg rfl rfl) rfl ?_
  refine st rfl rfl (eff_fieldAddr rfl fl46_1 rfl) rfl ?_
  refine st rfl rfl (eff_load rfl ty3 rfl) rfl ?_
  refine st rfl rfl (eff_leq rfl rfl rfl) rfl ?_
  refine st_nil ?_
  refine aw_cond _ rfl (fun h1 => ?_) (fun h1 => ?_)
  ·replace h1 : (decide (x2 ≤ a0.fTo)) = true := h1
   replace h1 := decT h1
   obtain ⟨k3, rfl⟩ : ∃ m, k3 = m + 1 := ⟨k3 - 1, by omega⟩
   rw [s104_l1] at hR
   try dsimp only at hR
   refine aw_skip ?_
   refine aw_cut_g (γ := (List Int)) (fun g => ([(1, .g (G.ref [G.int a0.fFrom, G.int a0.fTo, G.int a0.Days])), (3, .osl 3 1 0 (List.length g)), (4, .g (G.int x2))], [(3, .arr 3 1 (List.map cInt g))])) (fun g => g.length ≤ (x2 + 1 - a0.fFrom).toNat ∧ s104_j1 (fun z0_ z1_ => s104_l1 a0 k3 z0_ z1_) x2 g = R) ?_ ?_
   ·refine aw_block ?_
    refine aw_seq ?_
    refine aw_region [.p, .p, .p] ?_
    refine st rfl rfl (eff_loadA rfl ty46 rfl rfl rfl) rfl ?_
    refine st rfl rfl (eff_moveg rfl rfl) rfl ?_
    refine st rfl rfl (eff_call rfl K157 rfl (c157 a0 x2) (ag_cons rfl (ag_cons rfl ag_nil))) rfl ?_
    refine st_nil ?_
    refine aw_cond _ rfl (fun h3 => ?_) (fun h3 => ?_)
    ·replace h3 : ((s157 a0 x2)) = true := h3
     replace hR := condT hR h3
     try simp only [Bool.or_eq_true, Bool.and_eq_true, Bool.or_eq_false_iff, Bool.and_eq_false_iff, Bool.not_eq_true', Bool.not_eq_false', decide_eq_true_eq, decide_eq_false_iff_not] at h3
     refine aw_region [.p, .p, .p, .k, .p] ?_
     refine st rfl rfl (eff_moveO rfl rfl) rfl ?_
     refine st rfl rfl (eff_moveg rfl rfl) rfl ?_
     refine st rfl rfl (eff_buildSlice rfl Tryz.underlying82 ty3 z3 rfl (ps_cons rfl ps_nil) rfl (by simp []) (by decide)) rfl ?_
     refine st_k rfl rfl (eff_appL (f := cInt) (out := x1) (new := [x2]) rfl app82 rfl rfl (src_eq rfl (src_sl (by decide) (by simp []))) (refsN rfl) (by simp; omega)) rfl ?_
     refine st rfl rfl (eff_assignO rfl rfl) rfl ?_
     refine st_nil ?_
     exact ⟨rfl, x1 ++ [x2], ⟨rfl, rfl, rfl, trivial⟩, ⟨rfl, trivial⟩, rfl, ⟨(by first | omega | (dsimp only; omega) | (simp at *; omega)), hR⟩, trivial⟩
    ·replace h3 : ((s157 a0 x2)) = false := h3
     replace hR := condF hR h3
     try simp only [Bool.or_eq_true, Bool.and_eq_true, Bool.or_eq_false_iff, Bool.and_eq_false_iff, Bool.not_eq_true', Bool.not_eq_false', decide_eq_true_eq, decide_eq_false_iff_not] at h3
     refine aw_skip ?_
     exact ⟨rfl, x1, ⟨rfl, rfl, rfl, trivial⟩, ⟨rfl, trivial⟩, rfl, ⟨(by first | omega | (dsimp only; omega) | (simp at *; omega)), hR⟩, trivial⟩
   ·rintro x4 ⟨jv1_0, hR⟩
    replace jv1_0 : x4.length ≤ (x2 + 1 - a0.fFrom).toNat := jv1_0
    replace hR : s104_j1 (fun z0_ z1_ => s104_l1 a0 k3 z0_ z1_) x2 x4 = R := hR
    unfold s104_j1 at hR
    refine aw_region [.p, .p, .p] ?_
    refine st rfl rfl (eff_moveg rfl rfl) rfl ?_
    refine st rfl rfl (eff_add rfl rfl rfl (by (try dsimp only); unfold I64; omega)) rfl ?_
    refine st rfl rfl (eff_assigng rfl rfl) rfl ?_
    refine st_nil ?_
    exact ⟨rfl, (k3, x4, x2 + 1), ⟨rfl, rfl, rfl, trivial⟩, ⟨rfl, trivial⟩, rfl, ⟨(by first | omega | (dsimp only; omega) | (simp at *; omega)), (by first | omega | (dsimp only; omega) | (simp at *; omega)), (by first | omega | (dsimp only; omega) | (simp at *; omega)), hR⟩, by simp⟩
  ·replace h1 : (decide (x2 ≤ a0.fTo)) = false := h1
   replace h1 := decF h1
   obtain rfl : k3 = 0 := by omega
   rw [s104_l1] at hR
   refine aw_exit ?_
   refine aw_seq ?_
   refine aw_region [.p, .p] ?_
   refine st rfl rfl (eff_moveO rfl rfl) rfl ?_
   refine st rfl rfl (eff_assignO rfl rfl) rfl ?_
   refine st_nil ?_
   refine aw_ret ?_
   subst hR
   exact res_c rfl (rv_viewL rfl rfl)

/-- turnroundref09.SameSlots -/
def s32_l1 (a1 : List S151) : List S151 → Nat → Option Bool
 | [], k2 => some true
 | y3 :: t4, k2 => bindO (ixO a1 ((k2 : Nat) : Int)) fun y5 => (bif !(eqAnd [decide (y3.Name = y5.Name), decide (y3.Moment = y5.Moment), decide (y3.Kind = y5.Kind)]) then some false else s32_l1 a1 t4 (k2 + 1))
def s32 (a0 : List S151) (a1 : List S151) : Option Bool :=
 (bif decide ((List.length a0 : Int) ≠ (List.length a1 : Int)) then some false else s32_l1 a1 a0 0)
theorem c32 {g : List (Nat × List Value)} (a0 : List S151) (a1 : List S151) {R : Bool}   (hR : s32 a0 a1 = some R) : Con (EG g) 32 [G.sl 3 (List.map S151.c a0), G.sl 3 (List.map S151.c a1)] (G.bool R) := by
 unfold s32 at hR
 refine con_of_aw Tryz.func32 rfl rfl fun w0 M0 => ?_
 refine len_sl (f := S151.c) (l := a0) 0 rfl fun hla0 => ?_
 refine len_sl (f := S151.c) (l := a1) 1 rfl fun hla1 => ?_
 refine aw_seq ?_
 refine aw_region [.p] ?_
 refine st rfl rfl (eff_assigng rfl rfl) rfl ?_
 refine st_nil ?_
 refine aw_seq ?_
 refine aw_seq ?_
 refine aw_region [.p, .p, .p, .p, .p] ?_
 refine st rfl rfl (eff_moveg rfl rfl) rfl ?_
 refine st rfl rfl (eff_lenM (f := S151.c) (l := a0) rfl Tryz.underlying32 rfl) rfl ?_
 refine st rfl rfl (eff_moveg rfl rfl) rfl ?_
 refine st rfl rfl (eff_lenM (f := S151.c) (l := a1) rfl Tryz.underlying32 rfl) rfl ?_
 refine st rfl rfl (eff_neq rfl rfl rfl) rfl ?_
 refine st_nil ?_
 refine aw_cond _ rfl (fun h1 => ?_) (fun h1 => ?_)
 ·replace h1 : (decide ((List.length a0 : Int) ≠ (List.length a1 : Int))) = true := h1
  replace hR := condT hR h1
  try simp only [decide_eq_true_eq] at h1
  refine aw_seq ?_
  refine aw_region [.p] ?_
  refine st rfl rfl (eff_assigng rfl rfl) rfl ?_
  refine st_nil ?_
  refine aw_ret ?_
  obtain rfl := Option.some.inj hR
  exact res_c rfl (rv_g rfl)
 ·replace h1 : (decide ((List.length a0 : Int) ≠ (List.length a1 : Int))) = false := h1
  replace hR := condF hR h1
  try simp only [decide_eq_false_iff_not] at h1
  refine aw_skip ?_
  refine aw_seq ?_
  refine aw_seq ?_
  refine aw_region [.p] ?_
  refine st rfl rfl (eff_assigng rfl rfl) rfl ?_
  refine st_nil ?_
  refine aw_block ?_
  refine aw_loop_g (γ := Nat × (List S151)) (fun g => ([(0, .g (G.sl 3 (List.map S151.c a0))), (1, .g (G.sl 3 (List.map S151.c a1))), (5, .g (G.int ((g.1 : Nat) : Int)))], [])) (fun g => a0.drop g.1 = g.2 ∧ s32_l1 a1 g.2 g.1 = some R) (fun g => List.length g.2) ⟨rfl, (0, a0), ⟨rfl, rfl, rfl, trivial⟩, trivial, rfl, ⟨rfl, hR⟩, trivial⟩ ?_
  ·rintro ⟨k2, t4⟩ ⟨hd, hR⟩
   replace hd : a0.drop k2 = t4 := hd
   replace hR : s32_l1 a1 t4 k2 = some R := hR
   refine aw_seq ?_
   refine aw_seq ?_
   refine aw_region [.p, .p, .p, .p] ?_
   refine st rfl rfl (eff_moveg rfl rfl) rfl ?_
   refine st rfl rfl (eff_moveg rfl rfl) rfl ?_
   refine st rfl rfl (eff_lenM (f := S151.c) (l := a0) rfl Tryz.underlying32 rfl) rfl ?_
   refine st rfl rfl (eff_lss rfl rfl rfl) rfl ?_
   refine st_nil ?_
   refine len_sl (f := S151.c) (l := a0) 0 rfl fun hlz1 => ?_
   refine aw_cond _ rfl (fun h2 => ?_) (fun h2 => ?_)
   ·replace h2 : (decide (((k2 : Nat) : Int) < (List.length a0 : Int))) = true := h2
    obtain ⟨y3, t4, rfl, hx1, hd⟩ := drop_cons hd (decT h2)
    replace h2 := decT h2
    rw [s32_l1] at hR
    try dsimp only at hR
    refine aw_skip ?_
    refine aw_seq ?_
    refine aw_block ?_
    refine aw_seq ?_
    obtain ⟨y5, by5, hR⟩ := bindO_inv hR
    refine aw_draw [.p, .p, .p, .p, .p, .p, .p, .p, .p] (by kernel_rfl) ?_
    refine st rfl rfl (eff_moveg rfl rfl) rfl ?_
    refine st rfl rfl (eff_moveg rfl rfl) rfl ?_
    refine st rfl rfl (eff_ix (f := S151.c) (l := a0) (a := y3) rfl Tryz.underlying32 ty160 rfl rfl (Int.natCast_nonneg _) hx1) rfl ?_
    refine st rfl rfl (eff_loadA rfl ty160 rfl rfl rfl) rfl ?_
    refine st rfl rfl (eff_moveg rfl rfl) rfl ?_
    refine st rfl rfl (eff_moveg rfl rfl) rfl ?_
    refine st rfl rfl (eff_ix (f := S151.c) (l := a1) (a := y5) rfl Tryz.underlying32 ty160 rfl rfl (ixO_nn by5) (ixO_get by5)) rfl ?_
    refine st rfl rfl (eff_loadA rfl ty160 rfl rfl rfl) rfl ?_
    refine st rfl rfl (eff_aneq [.string y3.Name, .int .i64 y3.Moment, .string y3.Kind] [.string y5.Name, .int .i64 y5.Moment, .string y5.Kind] rfl flat160 rfl rfl rfl rfl rfl) rfl ?_
    refine st_nil ?_
    refine aw_cond _ rfl (fun h4 => ?_) (fun h4 => ?_)
    ·replace h4 : (!(eqAnd [decide (y3.Name = y5.Name), decide (y3.Moment = y5.Moment), decide (y3.Kind = y5.Kind)])) = true := h4
     replace hR := condT hR h4
     try simp only [Bool.or_eq_true, Bool.and_eq_true, Bool.or_eq_false_iff, Bool.and_eq_false_iff, Bool.not_eq_true', Bool.not_eq_false', decide_eq_true_eq, decide_eq_false_iff_not] at h4
     refine aw_seq ?_
     refine aw_region [.p] ?_
     refine st rfl rfl (eff_assigng rfl rfl) rfl ?_
     refine st_nil ?_
     refine aw_ret ?_
     obtain rfl := Option.some.inj hR
     exact res_c rfl (rv_g rfl)
    ·replace h4 : (!(eqAnd [decide (y3.Name = y5.Name), decide (y3.Moment = y5.Moment), decide (y3.Kind = y5.Kind)])) = false := h4
     replace hR := condF hR h4
     try simp only [Bool.or_eq_true, Bool.and_eq_true, Bool.or_eq_false_iff, Bool.and_eq_false_iff, Bool.not_eq_true', Bool.not_eq_false', decide_eq_true_eq, decide_eq_false_iff_not] at h4
     refine aw_skip ?_
     refine aw_region [.p, .p, .p] ?_
     refine st rfl rfl (eff_moveg rfl rfl) rfl ?_
     refine st rfl rfl (eff_add rfl rfl rfl (by unfold I64; omega)) rfl ?_
     refine st rfl rfl (eff_assigng rfl rfl) rfl ?_
     refine st_nil ?_
     exact ⟨rfl, (k2 + 1, t4), ⟨rfl, rfl, rfl, trivial⟩, trivial, rfl, ⟨hd, hR⟩, by simp⟩
   ·replace h2 : (decide (((k2 : Nat) : Int) < (List.length a0 : Int))) = false := h2
    obtain rfl := drop_nil hd (decF h2)
    rw [s32_l1] at hR
    refine aw_exit ?_
    refine aw_seq ?_
    refine aw_region [.p] ?_
    refine st rfl rfl (eff_assigng rfl rfl) rfl ?_
    refine st_nil ?_
    refine aw_ret ?_
    obtain rfl := Option.some.inj hR
    exact res_c rfl (rv_g rfl)

/-- turnroundref09.CheckSeries -/
def s30 (a0 : ByteArray) (a1 : ByteArray) (a2 : S45) (a3 : Int) : Int :=
 (s89 [(s95 a0), (s97 a1), (s40 a2), (s90 a3 0 1439)])
theorem c30 {g : List (Nat × List Value)} (a0 : ByteArray) (a1 : ByteArray) (a2 : S45) (a3 : Int)    : Con (EG g) 30 [G.str a0, G.str a1, G.agg [G.int a2.fFrom, G.int a2.fTo, G.int a2.Days], G.int a3] (G.int (s30 a0 a1 a2 a3)) := by
 generalize hR : s30 a0 a1 a2 a3 = R
 unfold s30 at hR
 refine con_of_aw Tryz.func30 rfl rfl fun w0 M0 => ?_
 refine aw_seq ?_
 refine aw_region [.p, .p] ?_
 refine st rfl rfl (eff_box rfl rfl) rfl ?_
 refine st rfl rfl (eff_assigng rfl rfl) rfl ?_
 refine st_nil ?_
 refine aw_seq ?_
 refine aw_draw [.p, .p, .p, .p, .p, .p, .p, .p, .p, .p, .p] (by kernel_rfl) ?_
 refine st rfl rfl (eff_moveg rfl rfl) rfl ?_
 refine st rfl rfl (eff_call rfl K95 rfl (c95 a0) (ag_cons rfl ag_nil)) rfl ?_
 refine st rfl rfl (eff_moveg rfl rfl) rfl ?_
 refine st rfl rfl (eff_call rfl K97 rfl (c97 a1) (ag_cons rfl ag_nil)) rfl ?_
 refine st rfl rfl (eff_loadA rfl ty46 rfl rfl rfl) rfl ?_
 refine st rfl rfl (eff_call rfl K40 rfl (c40 a2) (ag_cons rfl ag_nil)) rfl ?_
 refine st rfl rfl (eff_moveg rfl rfl) rfl ?_
 refine st rfl rfl (eff_call rfl K90 rfl (c90 a3 0 1439) (ag_cons rfl (ag_cons rfl (ag_cons rfl ag_nil)))) rfl ?_
 refine st rfl rfl (eff_buildSlice rfl Tryz.underlying82 ty3 z3 rfl (ps_cons rfl (ps_cons rfl (ps_cons rfl (ps_cons rfl ps_nil)))) rfl (by simp []) (by decide)) rfl ?_
 refine st rfl rfl (eff_call rfl K89 rfl (c89 [(s95 a0), (s97 a1), (s40 a2), (s90 a3 0 1439)]) (ag_cons rfl ag_nil)) rfl ?_
 refine st rfl rfl (eff_assigng rfl rfl) rfl ?_
 refine st_nil ?_
 refine aw_ret ?_
 subst hR
 exact res_c rfl (rv_g rfl)

/-- turnroundref09.SlotsOf -/
def s31_l1 (a0 : ByteArray) (a1 : ByteArray) (a3 : Int) : List Int → Nat → (List S151) → List S151
 | [], k3, x1 => x1
 | y4 :: t5, k3, x1 => s31_l1 a0 a1 a3 t5 (k3 + 1) (x1 ++ [(S151.mk a0 (IntKind.i64.wrap ((IntKind.i64.wrap (1440 * y4)) + a3)) a1)])
def s31 (a0 : ByteArray) (a1 : ByteArray) (a2 : S45) (a3 : Int) : List S151 :=
 s31_l1 a0 a1 a3 (s104 a2) 0 []
theorem c31 {g : List (Nat × List Value)} (a0 : ByteArray) (a1 : ByteArray) (a2 : S45) (a3 : Int)  (hp0 : 0 ≤ a2.fFrom) (hp1 : a2.fTo ≤ 1000000) (hm0 : (s104 a2).length ≤ 1000001)  : Con (EG g) 31 [G.str a0, G.str a1, G.agg [G.int a2.fFrom, G.int a2.fTo, G.int a2.Days], G.int a3] (G.sl 3 (List.map S151.c (s31 a0 a1 a2 a3))) := by
 generalize hR : s31 a0 a1 a2 a3 = R
 unfold s31 at hR
 refine con_of_aw Tryz.func31 rfl rfl fun w0 M0 => ?_
 refine aw_seq ?_
 refine aw_region [.p, .w] ?_
 refine st rfl rfl (eff_box rfl rfl) rfl ?_
 refine st_w rfl rfl (eff_nilL 8 160 3 rfl rfl rfl) rfl ?_
 refine st_nil ?_
 refine aw_seq ?_
 refine aw_region [.w] ?_
 refine st_w rfl rfl (eff_nilL 9 160 3 rfl rfl rfl) rfl ?_
 refine st_nil ?_
 refine aw_seq ?_
 refine aw_region [.p, .p, .p] ?_
 refine st rfl rfl (eff_loadA rfl ty46 rfl rfl rfl) rfl ?_
 refine st rfl rfl (eff_call rfl K104 rfl (c104 a2 (by first | assumption | omega | (simp [copyL_len]; omega)) (by first | assumption | omega | (simp [copyL_len]; omega))) (ag_cons rfl ag_nil)) rfl ?_
 refine st rfl rfl (eff_assigng rfl rfl) rfl ?_
 refine st_nil ?_
 refine aw_seq ?_
 refine aw_seq ?_
 refine aw_region [.p] ?_
 refine st rfl rfl (eff_assigng rfl rfl) rfl ?_
 refine st_nil ?_
 refine aw_block ?_
 refine aw_loop_g (γ := Nat × (List Int) × (List S151)) (fun g => ([(0, .g (G.str a0)), (1, .g (G.str a1)), (3, .g (G.int a3)), (9, .osl 9 3 0 (List.length g.2.2)), (10, .g (G.sl 1 (List.map cInt (s104 a2)))), (11, .g (G.int ((g.1 : Nat) : Int)))], [(9, .arr 160 3 (List.map S151.c g.2.2))])) (fun g => g.2.2.length ≤ g.1 ∧ (s104 a2).drop g.1 = g.2.1 ∧ s31_l1 a0 a1 a3 g.2.1 g.1 g.2.2 = R) (fun g => List.length g.2.1) ⟨rfl, (0, (s104 a2), []), ⟨rfl, rfl, rfl, rfl, rfl, rfl, trivial⟩, ⟨rfl, trivial⟩, rfl, ⟨(by first | (simp; done) | (simp; omega)), rfl, hR⟩, trivial⟩ ?_
 ·rintro ⟨k3, t5, x1⟩ ⟨iv1_0, hd, hR⟩
  replace hd : (s104 a2).drop k3 = t5 := hd
  replace hR : s31_l1 a0 a1 a3 t5 k3 x1 = R := hR
  replace iv1_0 : x1.length ≤ k3 := iv1_0
  refine aw_seq ?_
  refine aw_seq ?_
  refine aw_region [.p, .p, .p, .p] ?_
  refine st rfl rfl (eff_moveg rfl rfl) rfl ?_
  refine st rfl rfl (eff_moveg rfl rfl) rfl ?_
  refine st rfl rfl (eff_lenM (f := cInt) (l := (s104 a2)) rfl Tryz.underlying82 rfl) rfl ?_
  refine st rfl rfl (eff_lss rfl rfl rfl) rfl ?_
  refine st_nil ?_
  refine len_sl (f := cInt) (l := (s104 a2)) 10 rfl fun hlz1 => ?_
  refine aw_cond _ rfl (fun h1 => ?_) (fun h1 => ?_)
  ·replace h1 : (decide (((k3 : Nat) : Int) < (List.length (s104 a2) : Int))) = true := h1
   obtain ⟨y4, t5, rfl, hx1, hd⟩ := drop_cons hd (decT h1)
   replace h1 := decT h1
   rw [s31_l1] at hR
   try dsimp only at hR
   refine aw_skip ?_
   refine aw_seq ?_
   refine aw_block ?_
   refine aw_region [.p, .p, .p, .p, .p, .p, .p, .p, .p, .p, .p, .p, .k, .p] ?_
   refine st rfl rfl (eff_moveO rfl rfl) rfl ?_
   refine st rfl rfl (eff_moveg rfl rfl) rfl ?_
   refine st rfl rfl (eff_moveg rfl rfl) rfl ?_
   refine st rfl rfl (eff_moveg rfl rfl) rfl ?_
   refine st rfl rfl (eff_ix (f := cInt) (l := (s104 a2)) (a := y4) rfl Tryz.underlying82 ty3 rfl rfl (Int.natCast_nonneg _) hx1) rfl ?_
   refine st rfl rfl (eff_load rfl ty3 rfl) rfl ?_
   refine st rfl rfl (eff_mulw rfl rfl rfl) rfl ?_
   refine st rfl rfl (eff_moveg rfl rfl) rfl ?_
   refine st rfl rfl (eff_addw rfl rfl rfl) rfl ?_
   refine st rfl rfl (eff_moveg rfl rfl) rfl ?_
   refine st rfl rfl (eff_build rfl z160 rfl pl160 (pb_cons rfl (pb_cons rfl (pb_cons rfl pb_nil))) rfl) rfl ?_
   refine st rfl rfl (eff_buildSlice rfl Tryz.underlying32 ty160 z160 rfl (ps_cons rfl ps_nil) rfl (by simp only [List.mem_singleton, forall_eq]; rfl) (by decide)) rfl ?_
   refine st_k rfl rfl (eff_appL (f := S151.c) (out := x1) (new := [(S151.mk a0 (IntKind.i64.wrap ((IntKind.i64.wrap (1440 * y4)) + a3)) a1)]) rfl app32 rfl rfl (src_eq rfl (src_sl (by decide) (by simp [S151.c]))) (refsN rfl) (by simp; omega)) rfl ?_
   refine st rfl rfl (eff_assignO rfl rfl) rfl ?_
   refine st_nil ?_
   refine aw_region [.p, .p, .p] ?_
   refine st rfl rfl (eff_moveg rfl rfl) rfl ?_
   refine st rfl rfl (eff_add rfl rfl rfl (by unfold I64; omega)) rfl ?_
   refine st rfl rfl (eff_assigng rfl rfl) rfl ?_
   refine st_nil ?_
   exact ⟨rfl, (k3 + 1, t5, x1 ++ [(S151.mk a0 (IntKind.i64.wrap ((IntKind.i64.wrap (1440 * y4)) + a3)) a1)]), ⟨rfl, rfl, rfl, rfl, rfl, rfl, trivial⟩, ⟨rfl, trivial⟩, rfl, ⟨(by first | omega | (dsimp only; omega) | (simp at *; omega)), hd, hR⟩, by simp⟩
  ·replace h1 : (decide (((k3 : Nat) : Int) < (List.length (s104 a2) : Int))) = false := h1
   obtain rfl := drop_nil hd (decF h1)
   rw [s31_l1] at hR
   refine aw_exit ?_
   refine aw_seq ?_
   refine aw_region [.p, .p] ?_
   refine st rfl rfl (eff_moveO rfl rfl) rfl ?_
   refine st rfl rfl (eff_assignO rfl rfl) rfl ?_
   refine st_nil ?_
   refine aw_ret ?_
   subst hR
   exact res_c rfl (rv_viewL rfl rfl)
end Go.Sim

namespace Go.Sim
theorem s84_zero {l : List Int} (h : s84 l = 0) : ∀ x ∈ l, x = 0 := by
  have key : ∀ (l : List Int) (k : Nat), s84_l1 l k = 0 → ∀ x ∈ l, x = 0 := by
    intro l
    induction l with
    | nil => intro k _ x hx; cases hx
    | cons y l ih =>
      intro k h x hx
      rw [s84_l1] at h
      by_cases hy : y = 0
      · subst hy
        simp at h
        rcases List.mem_cons.1 hx with rfl | hx
        · rfl
        · exact ih _ h x hx
      · simp [hy] at h
  exact key l 0 h
theorem s85_zero {a b c : Int} (h : s85 a b c = 0) : b ≤ a ∧ a ≤ c := by
  unfold s85 s86 at h
  by_cases h1 : a < b
  · simp [h1] at h
  · by_cases h2 : c < a
    · simp [h2] at h
    · omega
theorem series_ok (a0 a1 : ByteArray) (a2 : S45) (a3 : Int) (h : s84 [s87 a0, s101 a1, s102 a2, s85 a3 0 1439] = 0) : s102 a2 = 0 ∧ 0 ≤ a3 ∧ a3 ≤ 1439 := by
  have h1 := s84_zero h (s102 a2) (by simp)
  have h2 := s85_zero (s84_zero h (s85 a3 0 1439) (by simp))
  exact ⟨h1, h2⟩
end Go.Sim

set_option linter.unusedSimpArgs false
set_option linter.unusedVariables false
set_option maxRecDepth 10000
namespace Go.Sim
open Go.Proofs


/-- use.SlotsOf -/
def s29 (a0 : ByteArray) (a1 : ByteArray) (a2 : S45) (a3 : Int) : (List S151) × Int :=
 (bif decide ((s84 [(s87 a0), (s101 a1), (s102 a2), (s85 a3 0 1439)]) ≠ 0) then ([], (s84 [(s87 a0), (s101 a1), (s102 a2), (s85 a3 0 1439)])) else (slotsL a0 a1 (momL a3 (dayL a2.Days (a2.fTo + 1 - a2.fFrom).toNat a2.fFrom)), 0))
theorem c29 {g : List (Nat × List Value)} (a0 : ByteArray) (a1 : ByteArray) (a2 : S45) (a3 : Int)    : Con (EG g) 29 [G.str a0, G.str a1, G.agg [G.int a2.fFrom, G.int a2.fTo, G.int a2.Days], G.int a3] (G.tup [G.slX 3 (List.map S151.c ((s29 a0 a1 a2 a3)).1), G.int ((s29 a0 a1 a2 a3)).2]) := by
 generalize hR : s29 a0 a1 a2 a3 = R
 unfold s29 at hR
 refine con_of_aw Tryz.func29 rfl rfl fun w0 M0 => ?_
 refine aw_seq ?_
 refine aw_region [.p, .p, .p] ?_
 refine st rfl rfl (eff_box rfl rfl) rfl ?_
 refine st rfl rfl (eff_assigng rfl rfl) rfl ?_
 refine st rfl rfl (eff_assigng rfl rfl) rfl ?_
 refine st_nil ?_
 refine aw_seq ?_
 refine aw_seq ?_
 refine aw_draw [.p, .p, .p, .p, .p, .p, .p, .p, .p, .p, .p] (by kernel_rfl) ?_
 refine st rfl rfl (eff_moveg rfl rfl) rfl ?_
 refine st rfl rfl (eff_call rfl K87 rfl (c87 a0) (ag_cons rfl ag_nil)) rfl ?_
 refine st rfl rfl (eff_moveg rfl rfl) rfl ?_
 refine st rfl rfl (eff_call rfl K101 rfl (c101 a1) (ag_cons rfl ag_nil)) rfl ?_
 refine st rfl rfl (eff_loadA rfl ty46 rfl rfl rfl) rfl ?_
 refine st rfl rfl (eff_call rfl K102 rfl (c102 a2) (ag_cons rfl ag_nil)) rfl ?_
 refine st rfl rfl (eff_moveg rfl rfl) rfl ?_
 refine st rfl rfl (eff_call rfl K85 rfl (c85 a3 0 1439) (ag_cons rfl (ag_cons rfl (ag_cons rfl ag_nil)))) rfl ?_
 refine st rfl rfl (eff_buildSlice rfl Tryz.underlying170 ty37 z37 rfl (ps_cons rfl (ps_cons rfl (ps_cons rfl (ps_cons rfl ps_nil)))) rfl (by simp []) (by decide)) rfl ?_
 refine st rfl rfl (eff_call rfl K84 rfl (c84 [(s87 a0), (s101 a1), (s102 a2), (s85 a3 0 1439)]) (ag_cons rfl ag_nil)) rfl ?_
 refine st rfl rfl (eff_assigng rfl rfl) rfl ?_
 refine st_nil ?_
 refine aw_seq ?_
 refine aw_region [.p, .p] ?_
 refine st rfl rfl (eff_moveg rfl rfl) rfl ?_
 refine st rfl rfl (eff_neq rfl rfl rfl) rfl ?_
 refine st_nil ?_
 refine aw_cond _ rfl (fun h1 => ?_) (fun h1 => ?_)
 ·replace h1 : (decide ((s84 [(s87 a0), (s101 a1), (s102 a2), (s85 a3 0 1439)]) ≠ 0)) = true := h1
  replace hR := condT hR h1
  try simp only [decide_eq_true_eq] at h1
  refine aw_seq ?_
  refine aw_region [.p, .p, .p] ?_
  refine st rfl rfl (eff_moveg rfl rfl) rfl ?_
  refine st rfl rfl (eff_assigng rfl rfl) rfl ?_
  refine st rfl rfl (eff_assigng rfl rfl) rfl ?_
  refine st_nil ?_
  refine aw_ret ?_
  subst hR
  exact resN rfl ⟨rv_nilG rfl (nil_slX _), rv_g rfl, trivial⟩ (by simp)
 ·replace h1 : (decide ((s84 [(s87 a0), (s101 a1), (s102 a2), (s85 a3 0 1439)]) ≠ 0)) = false := h1
  replace hR := condF hR h1
  try simp only [decide_eq_false_iff_not] at h1
  have hp := series_ok a0 a1 a2 a3 (by simpa using h1)
  refine aw_skip ?_
  refine aw_seq ?_
  refine aw_region [.p, .p, .p, .p, .p, .p, .p] ?_
  refine st rfl rfl (eff_moveg rfl rfl) rfl ?_
  refine st rfl rfl (eff_moveg rfl rfl) rfl ?_
  refine st rfl rfl (eff_loadA rfl ty46 rfl rfl rfl) rfl ?_
  refine st rfl rfl (eff_moveg rfl rfl) rfl ?_
  refine st rfl rfl (eff_call rfl K103 rfl (c103X a0 a1 a2 a3 hp.1 hp.2.1 (by omega)) (ag_cons rfl (ag_cons rfl (ag_cons rfl (ag_cons rfl ag_nil))))) rfl ?_
  refine st rfl rfl (eff_assigng rfl rfl) rfl ?_
  refine st rfl rfl (eff_assigng rfl rfl) rfl ?_
  refine st_nil ?_
  refine aw_ret ?_
  subst hR
  exact resN rfl ⟨rv_g rfl, rv_g rfl, trivial⟩ (by simp)
end Go.Sim

namespace Go.Sim
open Go.Proofs
theorem c29' {g : List (Nat × List Value)} (a0 a1 : ByteArray) (a2 : S45) (a3 : Int) : Con (EG g) 29 [G.str a0, G.str a1, G.agg [G.int a2.fFrom, G.int a2.fTo, G.int a2.Days], G.int a3] (G.tup [G.sl 3 (List.map S151.c ((s29 a0 a1 a2 a3)).1), G.int ((s29 a0 a1 a2 a3)).2]) := by
  intro w M vs hM hgl hv
  refine (c29 a0 a1 a2 a3 w M vs hM hgl hv).mono ?_
  rintro e w' ⟨v, h1, h2, us, h3, h4⟩
  refine ⟨v, h1, h2, us, h3, ?_⟩
  match us, h4 with
  | [u1, u2], ⟨k1, k2, k3⟩ => exact ⟨slX_sl k1, k2, k3⟩
theorem c32n {g : List (Nat × List Value)} (a0 : List S151) {R : Bool} (hR : s32 a0 [] = some R) : Con (EG g) 32 [G.sl 3 (List.map S151.c a0), G.lit (.slice none 0 0)] (G.bool R) := by
  intro w M vs hM hgl hv
  match vs, hv with
  | [v1, v2], ⟨h1, h2, _⟩ =>
    have h2 : v2 = .slice none 0 0 := h2
    subst h2
    exact c32 a0 [] hR w M _ hM hgl ⟨h1, nil_sl 3 w M, trivial⟩
theorem s29_len (a0 a1 : ByteArray) (a2 : S45) (a3 : Int) : (s29 a0 a1 a2 a3).1.length * 40 ≤ 140737488351232 := by
  unfold s29
  by_cases h : s84 [(s87 a0), (s101 a1), (s102 a2), (s85 a3 0 1439)] = 0
  · rw [decide_eq_false (by simpa using h), cond_false]
    obtain ⟨h1, _, _⟩ := series_ok a0 a1 a2 a3 h
    obtain ⟨q1, q2, q3, q4, _, _⟩ := period_ok a2 h1
    have := dayL_len a2.Days (a2.fTo + 1 - a2.fFrom).toNat a2.fFrom
    simp only [slotsL, momL, List.length_map]
    omega
  · rw [decide_eq_true (by simpa using h), cond_true]
    show (0 : Nat) * 40 ≤ 140737488351232
    decide
theorem period_eq (p : S45) : s102 p = s40 p := by
  unfold s102 s40
  have e : ∀ l, s152 l = s89 l := fun l => by
    unfold s152 s89
    generalize 0 = k
    induction l generalizing k with
    | nil => rfl
    | cons x l ih => rw [s152_l1, s89_l1, ih]
  simp only [e, s89_cons, s89_nil, s153, s155, s109, s90, s154]
  by_cases h1 : p.fFrom < 0 <;> by_cases h1' : 99999 < p.fFrom <;> by_cases h2 : p.fTo < 0 <;> by_cases h2' : 99999 < p.fTo <;> simp only [h1, h1', h2, h2', decide_true, decide_false, Bool.or_true, Bool.true_or, Bool.or_false, cond_true, cond_false] <;> try rfl
  by_cases h3 : p.fTo < p.fFrom <;> by_cases h4 : 400 < IntKind.i64.wrap (p.fTo - p.fFrom) <;> by_cases h5 : p.Days < 1 <;> by_cases h6 : 127 < p.Days <;> simp [h3, h4, h5, h6]
theorem codes_eq (a0 a1 : ByteArray) (a2 : S45) (a3 : Int) : s84 [s87 a0, s101 a1, s102 a2, s85 a3 0 1439] = s30 a0 a1 a2 a3 := by
  unfold s30
  rw [s84_s89, s87_s95, s101_s97, period_eq]; rfl
set_option maxRecDepth 100000 in
theorem mask_all : ∀ m : Fin 128, ∀ w : Fin 7, s192 (m.1 : Int) (w.1 : Int) = decide (andI (shrI (m.1 : Int) (w.1 : Int)) 1 = 1) := by decide +kernel
theorem mask_eq {m d : Int} (h1 : 1 ≤ m) (h2 : m ≤ 127) (h3 : 0 ≤ d) (h4 : d ≤ 1000000) : s192 m (s180 d) = inM m d := by
  have hw : s180 d = (d + 5) % 7 := by
    unfold s180
    rw [wrap_i64 (by unfold I64; omega), Int.tmod_eq_emod_of_nonneg (by omega)]
  rw [hw]
  have := mask_all ⟨m.toNat, by omega⟩ ⟨((d + 5) % 7).toNat, by omega⟩
  simp only at this
  rw [Int.toNat_of_nonneg (by omega), Int.toNat_of_nonneg (by omega)] at this
  exact this
theorem s104_loop (p : S45) (h1 : 1 ≤ p.Days) (h2 : p.Days ≤ 127) (h3 : 0 ≤ p.fFrom) (h4 : p.fTo ≤ 99999) : ∀ (n : Nat) (x : List Int) (d : Int), p.fFrom ≤ d → n = (p.fTo + 1 - d).toNat → s104_l1 p n x d = x ++ dayL p.Days n d
  | 0, x, d, _, _ => by simp [s104_l1, dayL]
  | n + 1, x, d, hd, hn => by
    rw [s104_l1, dayL]
    have hs : s157 p d = inM p.Days d := by
      unfold s157
      rw [mask_eq h1 h2 (by omega) (by omega), decide_eq_true (by omega), decide_eq_true (by omega)]
      simp
    rw [hs]
    unfold s104_j1
    have ih := fun x => s104_loop p h1 h2 h3 h4 n x (d + 1) (by omega) (by omega)
    show (bif inM p.Days d then s104_l1 p n (x ++ [d]) (d + 1) else s104_l1 p n x (d + 1)) = _
    rw [ih, ih]
    cases inM p.Days d <;> simp
theorem days_eq (p : S45) (h : s102 p = 0) : s104 p = dayL p.Days (p.fTo + 1 - p.fFrom).toNat p.fFrom := by
  obtain ⟨q1, q2, q3, q4, q5, q6⟩ := period_ok p h
  unfold s104
  rw [s104_loop p q5 q6 q1 q3 _ _ _ (Int.le_refl _) rfl]; rfl
theorem ref_ok (a0 a1 : ByteArray) (a2 : S45) (a3 : Int) (h : s30 a0 a1 a2 a3 = 0) : 0 ≤ a2.fFrom ∧ a2.fTo ≤ 1000000 ∧ (s104 a2).length ≤ 1000001 := by
  rw [← codes_eq] at h
  obtain ⟨h1, _, _⟩ := series_ok a0 a1 a2 a3 h
  obtain ⟨q1, q2, q3, q4, _, _⟩ := period_ok a2 h1
  have := dayL_len a2.Days (a2.fTo + 1 - a2.fFrom).toNat a2.fFrom
  rw [days_eq a2 h1]
  omega
end Go.Sim

set_option linter.unusedSimpArgs false
set_option linter.unusedVariables false
set_option maxRecDepth 10000
namespace Go.Sim
open Go.Proofs


/-- turnroundlaw09.UseSeries -/
noncomputable def s4 (a0 : S47) : Option Bool :=
 (bif ((!s16) || (decide (60 < (ByteArray.size a0.Name : Int)))) || (decide (60 < (ByteArray.size a0.Kind : Int))) then some s16 else (bif decide ((s30 a0.Name a0.Kind (S45.mk a0.Period.fFrom a0.Period.fTo a0.Period.Days) a0.Minute) = 0) then bindO (s32 (s20 ((s29 a0.Name a0.Kind (S45.mk a0.Period.fFrom a0.Period.fTo a0.Period.Days) a0.Minute).1)) (s31 a0.Name a0.Kind (S45.mk a0.Period.fFrom a0.Period.fTo a0.Period.Days) a0.Minute)) fun r1 => some (r1 && (decide ((s29 a0.Name a0.Kind (S45.mk a0.Period.fFrom a0.Period.fTo a0.Period.Days) a0.Minute).2 = (s30 a0.Name a0.Kind (S45.mk a0.Period.fFrom a0.Period.fTo a0.Period.Days) a0.Minute)))) else bindO (s32 (s20 ((s29 a0.Name a0.Kind (S45.mk a0.Period.fFrom a0.Period.fTo a0.Period.Days) a0.Minute).1)) []) fun r2 => some (r2 && (decide ((s29 a0.Name a0.Kind (S45.mk a0.Period.fFrom a0.Period.fTo a0.Period.Days) a0.Minute).2 = (s30 a0.Name a0.Kind (S45.mk a0.Period.fFrom a0.Period.fTo a0.Period.Days) a0.Minute))))))
theorem c4 (a0 : S47) {R : Bool}   (hR : s4 a0 = some R) : Con (EG glT) 4 [G.agg [G.str a0.Name, G.str a0.Kind, G.int a0.Period.fFrom, G.int a0.Period.fTo, G.int a0.Period.Days, G.int a0.Minute]] (G.bool R) := by
 unfold s4 at hR
 refine con_of_aw Tryz.func4 rfl rfl fun w0 M0 => ?_
 refine aw_seq ?_
 refine aw_region [.p, .p] ?_
 refine st rfl rfl (eff_box rfl rfl) rfl ?_
 refine st rfl rfl (eff_assigng rfl rfl) rfl ?_
 refine st_nil ?_
 refine aw_seq ?_
 refine aw_seq ?_
 refine aw_region [.p, .p, .p, .p, .p, .p, .p, .p, .p, .p, .p, .p, .p, .p] ?_
 refine st rfl rfl (eff_call rfl K16 rfl (c16) ag_nil) rfl ?_
 refine st rfl rfl (eff_not rfl rfl) rfl ?_
 refine st rfl rfl (eff_moveg rfl rfl) rfl ?_
 refine st_g rfl rfl rfl (gb_bool _ _) (fun h => eff_fieldAddr rfl fl48_0 rfl) rfl ?_
 refine st_g rfl rfl rfl (gb_bool _ _) (fun h => eff_load rfl ty9 (gd h rfl)) rfl ?_
 refine st_g rfl rfl rfl (gb_bool _ _) (fun h => eff_lenS rfl Tryz.underlying9 (gd h rfl)) rfl ?_
 refine st_g rfl rfl rfl (gb_bool _ _) (fun h => eff_gtr rfl (gd h rfl) rfl) rfl ?_
 refine st rfl rfl (eff_or rfl rfl rfl rfl) rfl ?_
 refine st rfl rfl (eff_moveg rfl rfl) rfl ?_
 refine st_g rfl rfl rfl (gb_bool _ _) (fun h => eff_fieldAddr rfl fl48_1 rfl) rfl ?_
 refine st_g rfl rfl rfl (gb_bool _ _) (fun h => eff_load rfl ty9 (gd h rfl)) rfl ?_
 refine st_g rfl rfl rfl (gb_bool _ _) (fun h => eff_lenS rfl Tryz.underlying9 (gd h rfl)) rfl ?_
 refine st_g rfl rfl rfl (gb_bool _ _) (fun h => eff_gtr rfl (gd h rfl) rfl) rfl ?_
 refine st rfl rfl (eff_or rfl rfl rfl rfl) rfl ?_
 refine st_nil ?_
 refine aw_cond _ rfl (fun h1 => ?_) (fun h1 => ?_)
 ·replace h1 : (((!s16) || (decide (60 < (ByteArray.size a0.Name : Int)))) || (decide (60 < (ByteArray.size a0.Kind : Int)))) = true := h1
  replace hR := condT hR h1
  try simp only [Bool.or_eq_true, Bool.and_eq_true, Bool.or_eq_false_iff, Bool.and_eq_false_iff, Bool.not_eq_true', Bool.not_eq_false', decide_eq_true_eq, decide_eq_false_iff_not] at h1
  refine aw_seq ?_
  refine aw_region [.p, .p] ?_
  refine st rfl rfl (eff_call rfl K16 rfl (c16) ag_nil) rfl ?_
  refine st rfl rfl (eff_assigng rfl rfl) rfl ?_
  refine st_nil ?_
  refine aw_ret ?_
  obtain rfl := Option.some.inj hR
  exact res_c rfl (rv_g rfl)
 ·replace h1 : (((!s16) || (decide (60 < (ByteArray.size a0.Name : Int)))) || (decide (60 < (ByteArray.size a0.Kind : Int)))) = false := h1
  replace hR := condF hR h1
  try simp only [Bool.or_eq_true, Bool.and_eq_true, Bool.or_eq_false_iff, Bool.and_eq_false_iff, Bool.not_eq_true', Bool.not_eq_false', decide_eq_true_eq, decide_eq_false_iff_not] at h1
  refine aw_skip ?_
  refine aw_seq ?_
  refine aw_region [.p, .p, .p, .p, .p, .p, .p, .p, .p, .p, .p, .p, .p, .p] ?_
  refine st rfl rfl (eff_fieldAddr rfl fl48_0 rfl) rfl ?_
  refine st rfl rfl (eff_load rfl ty9 rfl) rfl ?_
  refine st rfl rfl (eff_fieldAddr rfl fl48_1 rfl) rfl ?_
  refine st rfl rfl (eff_load rfl ty9 rfl) rfl ?_
  refine st rfl rfl (eff_fieldAddr rfl fl48_2 rfl) rfl ?_
  refine st rfl rfl (eff_loadA rfl ty46 rfl rfl rfl) rfl ?_
  refine st rfl rfl (eff_fieldAddr rfl fl48_3 rfl) rfl ?_
  refine st rfl rfl (eff_load rfl ty3 rfl) rfl ?_
  refine st rfl rfl (eff_call rfl K29 rfl (c29' a0.Name a0.Kind (S45.mk a0.Period.fFrom a0.Period.fTo a0.Period.Days) a0.Minute) (ag_cons rfl (ag_cons rfl (ag_cons rfl (ag_cons rfl ag_nil))))) rfl ?_
  refine st rfl rfl (eff_moveg rfl rfl) rfl ?_
  refine st rfl rfl (eff_extract rfl rfl rfl) rfl ?_
  refine st rfl rfl (eff_extract rfl rfl rfl) rfl ?_
  refine st rfl rfl (eff_assigng rfl rfl) rfl ?_
  refine st rfl rfl (eff_assigng rfl rfl) rfl ?_
  refine st_nil ?_
  refine aw_seq ?_
  refine aw_region [.p, .p, .p, .p, .p, .p, .p, .p, .p, .p] ?_
  refine st rfl rfl (eff_fieldAddr rfl fl48_0 rfl) rfl ?_
  refine st rfl rfl (eff_load rfl ty9 rfl) rfl ?_
  refine st rfl rfl (eff_fieldAddr rfl fl48_1 rfl) rfl ?_
  refine st rfl rfl (eff_load rfl ty9 rfl) rfl ?_
  refine st rfl rfl (eff_fieldAddr rfl fl48_2 rfl) rfl ?_
  refine st rfl rfl (eff_loadA rfl ty46 rfl rfl rfl) rfl ?_
  refine st rfl rfl (eff_fieldAddr rfl fl48_3 rfl) rfl ?_
  refine st rfl rfl (eff_load rfl ty3 rfl) rfl ?_
  refine st rfl rfl (eff_call rfl K30 rfl (c30 a0.Name a0.Kind (S45.mk a0.Period.fFrom a0.Period.fTo a0.Period.Days) a0.Minute) (ag_cons rfl (ag_cons rfl (ag_cons rfl (ag_cons rfl ag_nil))))) rfl ?_
  refine st rfl rfl (eff_assigng rfl rfl) rfl ?_
  refine st_nil ?_
  refine aw_seq ?_
  refine aw_region [.p] ?_
  refine st rfl rfl (eff_assigng rfl rfl) rfl ?_
  refine st_nil ?_
  refine aw_seq ?_
  refine aw_seq ?_
  refine aw_region [.p, .p] ?_
  refine st rfl rfl (eff_moveg rfl rfl) rfl ?_
  refine st rfl rfl (eff_eql rfl rfl rfl) rfl ?_
  refine st_nil ?_
  refine aw_cond _ rfl (fun h2 => ?_) (fun h2 => ?_)
  ·replace h2 : (decide ((s30 a0.Name a0.Kind (S45.mk a0.Period.fFrom a0.Period.fTo a0.Period.Days) a0.Minute) = 0)) = true := h2
   replace hR := condT hR h2
   try simp only [decide_eq_true_eq] at h2
   obtain ⟨hq0, hq1, hq2⟩ := ref_ok _ _ _ _ h2
   refine aw_region [.p, .p, .p, .p, .p, .p, .p, .p, .p, .p] ?_
   refine st rfl rfl (eff_fieldAddr rfl fl48_0 rfl) rfl ?_
   refine st rfl rfl (eff_load rfl ty9 rfl) rfl ?_
   refine st rfl rfl (eff_fieldAddr rfl fl48_1 rfl) rfl ?_
   refine st rfl rfl (eff_load rfl ty9 rfl) rfl ?_
   refine st rfl rfl (eff_fieldAddr rfl fl48_2 rfl) rfl ?_
   refine st rfl rfl (eff_loadA rfl ty46 rfl rfl rfl) rfl ?_
   refine st rfl rfl (eff_fieldAddr rfl fl48_3 rfl) rfl ?_
   refine st rfl rfl (eff_load rfl ty3 rfl) rfl ?_
   refine st rfl rfl (eff_call rfl K31 rfl (c31 a0.Name a0.Kind (S45.mk a0.Period.fFrom a0.Period.fTo a0.Period.Days) a0.Minute (by first | assumption | omega | (simp [copyL_len]; omega)) (by first | assumption | omega | (simp [copyL_len]; omega)) (by first | assumption | omega | (simp [copyL_len]; omega))) (ag_cons rfl (ag_cons rfl (ag_cons rfl (ag_cons rfl ag_nil))))) rfl ?_
   refine st rfl rfl (eff_assigng rfl rfl) rfl ?_
   refine st_nil ?_
   refine aw_seq ?_
   obtain ⟨r1, br1, hR⟩ := bindO_inv hR
   refine aw_region [.p, .p, .p, .p, .p, .p, .p, .p, .p, .p] ?_
   refine st rfl rfl (eff_moveg rfl rfl) rfl ?_
   refine st rfl rfl (eff_call rfl K20 rfl (c20 ((s29 a0.Name a0.Kind (S45.mk a0.Period.fFrom a0.Period.fTo a0.Period.Days) a0.Minute).1) (s29_len _ _ _ _)) (ag_cons rfl ag_nil)) rfl ?_
   refine st rfl rfl (eff_moveg rfl rfl) rfl ?_
   refine st rfl rfl (eff_call rfl K32 rfl (c32 (s20 ((s29 a0.Name a0.Kind (S45.mk a0.Period.fFrom a0.Period.fTo a0.Period.Days) a0.Minute).1)) (s31 a0.Name a0.Kind (S45.mk a0.Period.fFrom a0.Period.fTo a0.Period.Days) a0.Minute) br1) (ag_cons rfl (ag_cons rfl ag_nil))) rfl ?_
   refine st rfl rfl (eff_moveg rfl rfl) rfl ?_
   refine st_g rfl rfl rfl (gb_bool _ _) (fun h => eff_moveg rfl rfl) rfl ?_
   refine st_g rfl rfl rfl (gb_bool _ _) (fun h => eff_moveg rfl rfl) rfl ?_
   refine st_g rfl rfl rfl (gb_bool _ _) (fun h => eff_eql rfl (gd h rfl) (gd h rfl)) rfl ?_
   refine st rfl rfl (eff_and rfl rfl rfl rfl) rfl ?_
   refine st rfl rfl (eff_assigng rfl rfl) rfl ?_
   refine st_nil ?_
   refine aw_ret ?_
   obtain rfl := Option.some.inj hR
   exact res_c rfl (rv_g rfl)
  ·replace h2 : (decide ((s30 a0.Name a0.Kind (S45.mk a0.Period.fFrom a0.Period.fTo a0.Period.Days) a0.Minute) = 0)) = false := h2
   replace hR := condF hR h2
   try simp only [decide_eq_false_iff_not] at h2
   refine aw_skip ?_
   refine aw_seq ?_
   obtain ⟨r2, br2, hR⟩ := bindO_inv hR
   refine aw_region [.p, .p, .p, .p, .p, .p, .p, .p, .p, .p] ?_
   refine st rfl rfl (eff_moveg rfl rfl) rfl ?_
   refine st rfl rfl (eff_call rfl K20 rfl (c20 ((s29 a0.Name a0.Kind (S45.mk a0.Period.fFrom a0.Period.fTo a0.Period.Days) a0.Minute).1) (s29_len _ _ _ _)) (ag_cons rfl ag_nil)) rfl ?_
   refine st rfl rfl (eff_moveg rfl rfl) rfl ?_
   refine st rfl rfl (eff_call rfl K32 rfl (c32n (s20 ((s29 a0.Name a0.Kind (S45.mk a0.Period.fFrom a0.Period.fTo a0.Period.Days) a0.Minute).1)) br2) (ag_cons rfl (ag_cons rfl ag_nil))) rfl ?_
   refine st rfl rfl (eff_moveg rfl rfl) rfl ?_
   refine st_g rfl rfl rfl (gb_bool _ _) (fun h => eff_moveg rfl rfl) rfl ?_
   refine st_g rfl rfl rfl (gb_bool _ _) (fun h => eff_moveg rfl rfl) rfl ?_
   refine st_g rfl rfl rfl (gb_bool _ _) (fun h => eff_eql rfl (gd h rfl) (gd h rfl)) rfl ?_
   refine st rfl rfl (eff_and rfl rfl rfl rfl) rfl ?_
   refine st rfl rfl (eff_assigng rfl rfl) rfl ?_
   refine st_nil ?_
   refine aw_ret ?_
   obtain rfl := Option.some.inj hR
   exact res_c rfl (rv_g rfl)
end Go.Sim

namespace Go.Sim
end Go.Sim

namespace Go.Sim
end Go.Sim

set_option linter.unusedSimpArgs false
set_option linter.unusedVariables false
set_option maxRecDepth 10000
namespace Go.Sim
open Go.Proofs


end Go.Sim

namespace Go.Sim
end Go.Sim

set_option linter.unusedSimpArgs false
set_option linter.unusedVariables false
set_option maxRecDepth 10000
namespace Go.Sim
open Go.Proofs


end Go.Sim

namespace Go.Sim
end Go.Sim

set_option linter.unusedSimpArgs false
set_option linter.unusedVariables false
set_option maxRecDepth 10000
namespace Go.Sim
open Go.Proofs


end Go.Sim

