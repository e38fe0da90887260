/-
  What is proved: lemmas and contracts of functions on the way to the law topBeaconTurns (part 7).
-/
import Derived.Test.YtkeegnagpekgmaaGreatVrA6
import Derived.Test.YtkeegnagpekgmaaGreatVrA5
import Derived.Test.YtkeegnagpekgmaaGreatVrA3
import Derived.Scope
import Derived.Test.YtkeegnagpekgmaaGreatVrA2
import Derived.Maps.RangeRun
set_option linter.unusedSectionVars false
set_option linter.unusedSimpArgs false
set_option linter.unusedVariables false
set_option linter.unnecessarySimpa false
set_option linter.deprecated false
set_option maxRecDepth 10000
namespace Go.Sim
open Go.Proofs
def s89_l1  : List Int → Nat → Int
 | [], k2 => 0
 | y3 :: t4, k2 => (bif decide (y3 ≠ 0) then y3 else s89_l1  t4 (k2 + 1))
def s89 (a0 : List Int) : Int :=
 s89_l1 a0 0
def s90 (a0 : Int) (a1 : Int) (a2 : Int) : Int :=
 (bif (decide (a0 < a1)) || (decide (a2 < a0)) then 3 else 0)
theorem c90 {g : List (Nat × List Value)} (a0 : Int) (a1 : Int) (a2 : Int)    : Con (EG g) 5 [G.int a0, G.int a1, G.int a2] (G.int (s90 a0 a1 a2)) := by
 generalize hR : s90 a0 a1 a2 = R;unfold s90 at hR;refine con_of_aw Tryz.func5 rfl rfl fun w0 M0 => ?_;refine aw_seq ?_;refine aw_region [.p] ?_;refine st rfl rfl (eff_assigng rfl rfl) rfl ?_;refine st_nil ?_;refine aw_seq ?_;refine aw_seq ?_;refine aw_region [.p, .p, .p, .p, .p, .p, .p, .p] ?_;refine st rfl rfl (eff_moveg rfl rfl) rfl ?_;refine st rfl rfl (eff_moveg rfl rfl) rfl ?_;refine st rfl rfl (eff_lss rfl rfl rfl) rfl ?_;refine st rfl rfl (eff_moveg rfl rfl) rfl ?_;refine st_g rfl rfl rfl (gb_bool _ _) (fun h => eff_moveg rfl rfl) rfl ?_;refine st_g rfl rfl rfl (gb_bool _ _) (fun h => eff_moveg rfl rfl) rfl ?_;refine st_g rfl rfl rfl (gb_bool _ _) (fun h => eff_gtr rfl (gd h rfl) (gd h rfl)) rfl ?_;refine st rfl rfl (eff_or rfl rfl rfl rfl) rfl ?_;refine st_nil ?_;refine aw_cond _ rfl (fun h1 => ?_) (fun h1 => ?_)
 ·replace h1 : ((decide (a0 < a1)) || (decide (a2 < a0))) = true := h1;replace hR := condT hR h1;(try simp only [Bool.or_eq_true, Bool.and_eq_true, Bool.or_eq_false_iff, Bool.and_eq_false_iff, Bool.not_eq_true', Bool.not_eq_false', decide_eq_true_eq, decide_eq_false_iff_not] at h1);refine aw_seq ?_;refine aw_region [.p] ?_;refine st rfl rfl (eff_assigng rfl rfl) rfl ?_;refine st_nil ?_;refine aw_ret ?_;subst hR;exact res_c rfl (rv_g rfl)
 ·replace h1 : ((decide (a0 < a1)) || (decide (a2 < a0))) = false := h1;replace hR := condF hR h1;(try simp only [Bool.or_eq_true, Bool.and_eq_true, Bool.or_eq_false_iff, Bool.and_eq_false_iff, Bool.not_eq_true', Bool.not_eq_false', decide_eq_true_eq, decide_eq_false_iff_not] at h1);refine aw_skip ?_;refine aw_seq ?_;refine aw_region [.p] ?_;refine st rfl rfl (eff_assigng rfl rfl) rfl ?_;refine st_nil ?_;refine aw_ret ?_;subst hR;exact res_c rfl (rv_g rfl)
def s96 (a0 : Int) : Int :=
 (s90 a0 0 143999999)
def s152_l1  : List Int → Nat → Int
 | [], k2 => 0
 | y3 :: t4, k2 => (bif decide (y3 ≠ 0) then y3 else s152_l1  t4 (k2 + 1))
def s152 (a0 : List Int) : Int :=
 s152_l1 a0 0
theorem c152 {g : List (Nat × List Value)} (a0 : List Int)    : Con (EG g) 119 [G.sl 1 (List.map cInt a0)] (G.int (s152 a0)) := by
 generalize hR : s152 a0 = R;unfold s152 at hR;refine con_of_aw Tryz.func119 rfl rfl fun w0 M0 => ?_;refine len_sl (f := cInt) (l := a0) 0 rfl fun hla0 => ?_;refine aw_seq ?_;refine aw_region [.p] ?_;refine st rfl rfl (eff_assigng rfl rfl) rfl ?_;refine st_nil ?_;refine aw_seq ?_;refine aw_seq ?_;refine aw_region [.p, .p, .p] ?_;refine st rfl rfl (eff_moveg rfl rfl) rfl ?_;refine st rfl rfl (eff_lenM (f := cInt) (l := a0) rfl Tryz.underlying131 rfl) rfl ?_;refine st rfl rfl (eff_moveg rfl rfl) rfl ?_;refine st_nil ?_;refine aw_block ?_;refine aw_loop_g (γ := Nat × (List Int)) (fun g => ([(5, .g (G.sl 1 (List.map cInt a0))), (6, .g (G.int (List.length a0 : Int))), (7, .g (G.int ((g.1 : Nat) : Int)))], [])) (fun g => a0.drop g.1 = g.2 ∧ s152_l1  g.2 g.1 = R) (fun g => List.length g.2) ⟨rfl, (0, a0), ⟨rfl, rfl, rfl, trivial⟩, trivial, rfl, ⟨rfl, hR⟩, trivial⟩ ?_
 ·rintro ⟨k2, t4⟩ ⟨hd, hR⟩;replace hd : a0.drop k2 = t4 := hd;replace hR : s152_l1  t4 k2 = R := hR;refine aw_seq ?_;refine aw_region [.p] ?_;refine st rfl rfl (eff_lss rfl rfl rfl) rfl ?_;refine st_nil ?_;refine len_sl (f := cInt) (l := a0) 5 rfl fun hlz1 => ?_;refine aw_seq ?_;refine aw_cond _ rfl (fun h1 => ?_) (fun h1 => ?_)
  ·replace h1 : (decide (((k2 : Nat) : Int) < (List.length a0 : Int))) = true := h1;obtain ⟨y3, t4, rfl, hx1, hd⟩ := drop_cons hd (decT h1);replace h1 := decT h1;rw [s152_l1] at hR;(try dsimp only at hR);refine aw_skip ?_;refine aw_seq ?_;refine aw_block ?_;refine aw_seq ?_;refine aw_region [.p, .p, .p] ?_;refine st rfl rfl (eff_ix (f := cInt) (l := a0) (a := y3) rfl Tryz.underlying131 ty37 rfl rfl (Int.natCast_nonneg _) hx1) rfl ?_;refine st rfl rfl (eff_load rfl ty37 rfl) rfl ?_;refine st rfl rfl (eff_assigng rfl rfl) rfl ?_;refine st_nil ?_;refine aw_seq ?_;refine aw_region [.p, .p] ?_;refine st rfl rfl (eff_moveg rfl rfl) rfl ?_;refine st rfl rfl (eff_neq rfl rfl rfl) rfl ?_;refine st_nil ?_;refine aw_cond _ rfl (fun h3 => ?_) (fun h3 => ?_)
   ·replace h3 : (decide (y3 ≠ 0)) = true := h3;replace hR := condT hR h3;(try simp only [Bool.or_eq_true, Bool.and_eq_true, Bool.or_eq_false_iff, Bool.and_eq_false_iff, Bool.not_eq_true', Bool.not_eq_false', decide_eq_true_eq, decide_eq_false_iff_not] at h3);refine aw_seq ?_;refine aw_region [.p, .p] ?_;refine st rfl rfl (eff_moveg rfl rfl) rfl ?_;refine st rfl rfl (eff_assigng rfl rfl) rfl ?_;refine st_nil ?_;refine aw_ret ?_;subst hR;exact res_c rfl (rv_g rfl)
   ·replace h3 : (decide (y3 ≠ 0)) = false := h3;replace hR := condF hR h3;(try simp only [Bool.or_eq_true, Bool.and_eq_true, Bool.or_eq_false_iff, Bool.and_eq_false_iff, Bool.not_eq_true', Bool.not_eq_false', decide_eq_true_eq, decide_eq_false_iff_not] at h3);refine aw_skip ?_;refine aw_region [.p, .p] ?_;refine st rfl rfl (eff_add rfl rfl rfl (by unfold I64; omega)) rfl ?_;refine st rfl rfl (eff_moveg rfl rfl) rfl ?_;refine st_nil ?_;exact ⟨rfl, (k2 + 1, t4), ⟨rfl, rfl, rfl, trivial⟩, trivial, rfl, ⟨hd, hR⟩, by simp⟩
  ·replace h1 : (decide (((k2 : Nat) : Int) < (List.length a0 : Int))) = false := h1;obtain rfl := drop_nil hd (decF h1);rw [s152_l1] at hR;refine aw_exit ?_;refine aw_seq ?_;refine aw_region [.p] ?_;refine st rfl rfl (eff_assigng rfl rfl) rfl ?_;refine st_nil ?_;refine aw_ret ?_;subst hR;exact res_c rfl (rv_g rfl)
def s154 (a0 : Bool) (a1 : Int) : Int :=
 (bif a0 then a1 else 0)
theorem c154 {g : List (Nat × List Value)} (a0 : Bool) (a1 : Int)    : Con (EG g) 121 [G.bool a0, G.int a1] (G.int (s154 a0 a1)) := by
 generalize hR : s154 a0 a1 = R;unfold s154 at hR;refine con_of_aw Tryz.func121 rfl rfl fun w0 M0 => ?_;refine aw_seq ?_;refine aw_region [.p] ?_;refine st rfl rfl (eff_assigng rfl rfl) rfl ?_;refine st_nil ?_;refine aw_seq ?_;refine aw_seq ?_;refine aw_region [.p] ?_;refine st rfl rfl (eff_moveg rfl rfl) rfl ?_;refine st_nil ?_;refine aw_cond _ rfl (fun h1 => ?_) (fun h1 => ?_)
 ·replace h1 : (a0) = true := h1;replace hR := condT hR h1;(try simp only [Bool.or_eq_true, Bool.and_eq_true, Bool.or_eq_false_iff, Bool.and_eq_false_iff, Bool.not_eq_true', Bool.not_eq_false', decide_eq_true_eq, decide_eq_false_iff_not] at h1);refine aw_seq ?_;refine aw_region [.p, .p] ?_;refine st rfl rfl (eff_moveg rfl rfl) rfl ?_;refine st rfl rfl (eff_assigng rfl rfl) rfl ?_;refine st_nil ?_;refine aw_ret ?_;subst hR;exact res_c rfl (rv_g rfl)
 ·replace h1 : (a0) = false := h1;replace hR := condF hR h1;(try simp only [Bool.or_eq_true, Bool.and_eq_true, Bool.or_eq_false_iff, Bool.and_eq_false_iff, Bool.not_eq_true', Bool.not_eq_false', decide_eq_true_eq, decide_eq_false_iff_not] at h1);refine aw_skip ?_;refine aw_seq ?_;refine aw_region [.p] ?_;refine st rfl rfl (eff_assigng rfl rfl) rfl ?_;refine st_nil ?_;refine aw_ret ?_;subst hR;exact res_c rfl (rv_g rfl)
def s155 (a0 : Int) (a1 : Int) (a2 : Int) : Int :=
 (s154 ((decide (a0 < a1)) || (decide (a2 < a0))) 3)
theorem c155 {g : List (Nat × List Value)} (a0 : Int) (a1 : Int) (a2 : Int)    : Con (EG g) 122 [G.int a0, G.int a1, G.int a2] (G.int (s155 a0 a1 a2)) := by
 generalize hR : s155 a0 a1 a2 = R;unfold s155 at hR;refine con_of_aw Tryz.func122 rfl rfl fun w0 M0 => ?_;refine aw_seq ?_;refine aw_region [.p] ?_;refine st rfl rfl (eff_assigng rfl rfl) rfl ?_;refine st_nil ?_;refine aw_seq ?_;refine aw_region [.p, .p, .p, .p, .p, .p, .p, .p, .p, .p] ?_;refine st rfl rfl (eff_moveg rfl rfl) rfl ?_;refine st rfl rfl (eff_moveg rfl rfl) rfl ?_;refine st rfl rfl (eff_lss rfl rfl rfl) rfl ?_;refine st rfl rfl (eff_moveg rfl rfl) rfl ?_;refine st_g rfl rfl rfl (gb_bool _ _) (fun h => eff_moveg rfl rfl) rfl ?_;refine st_g rfl rfl rfl (gb_bool _ _) (fun h => eff_moveg rfl rfl) rfl ?_;refine st_g rfl rfl rfl (gb_bool _ _) (fun h => eff_gtr rfl (gd h rfl) (gd h rfl)) rfl ?_;refine st rfl rfl (eff_or rfl rfl rfl rfl) rfl ?_;refine st rfl rfl (eff_call rfl K154 rfl (c154 ((decide (a0 < a1)) || (decide (a2 < a0))) 3) (ag_cons rfl (ag_cons rfl ag_nil))) rfl ?_;refine st rfl rfl (eff_assigng rfl rfl) rfl ?_;refine st_nil ?_;refine aw_ret ?_;subst hR;exact res_c rfl (rv_g rfl)
def s1085_l1  : List Int → Nat → Int
 | [], k2 => 0
 | y3 :: t4, k2 => (bif decide (y3 ≠ 0) then y3 else s1085_l1  t4 (k2 + 1))
def s1085 (a0 : List Int) : Int :=
 s1085_l1 a0 0
theorem c1085 {g : List (Nat × List Value)} (a0 : List Int)    : Con (EG g) 28 [G.sl 1 (List.map cInt a0)] (G.int (s1085 a0)) := by
 generalize hR : s1085 a0 = R;unfold s1085 at hR;refine con_of_aw Tryz.func28 rfl rfl fun w0 M0 => ?_;refine len_sl (f := cInt) (l := a0) 0 rfl fun hla0 => ?_;refine aw_seq ?_;refine aw_region [.p] ?_;refine st rfl rfl (eff_assigng rfl rfl) rfl ?_;refine st_nil ?_;refine aw_seq ?_;refine aw_seq ?_;refine aw_region [.p, .p, .p] ?_;refine st rfl rfl (eff_moveg rfl rfl) rfl ?_;refine st rfl rfl (eff_lenM (f := cInt) (l := a0) rfl Tryz.underlying131 rfl) rfl ?_;refine st rfl rfl (eff_moveg rfl rfl) rfl ?_;refine st_nil ?_;refine aw_block ?_;refine aw_loop_g (γ := Nat × (List Int)) (fun g => ([(5, .g (G.sl 1 (List.map cInt a0))), (6, .g (G.int (List.length a0 : Int))), (7, .g (G.int ((g.1 : Nat) : Int)))], [])) (fun g => a0.drop g.1 = g.2 ∧ s1085_l1  g.2 g.1 = R) (fun g => List.length g.2) ⟨rfl, (0, a0), ⟨rfl, rfl, rfl, trivial⟩, trivial, rfl, ⟨rfl, hR⟩, trivial⟩ ?_
 ·rintro ⟨k2, t4⟩ ⟨hd, hR⟩;replace hd : a0.drop k2 = t4 := hd;replace hR : s1085_l1  t4 k2 = R := hR;refine aw_seq ?_;refine aw_region [.p] ?_;refine st rfl rfl (eff_lss rfl rfl rfl) rfl ?_;refine st_nil ?_;refine len_sl (f := cInt) (l := a0) 5 rfl fun hlz1 => ?_;refine aw_seq ?_;refine aw_cond _ rfl (fun h1 => ?_) (fun h1 => ?_)
  ·replace h1 : (decide (((k2 : Nat) : Int) < (List.length a0 : Int))) = true := h1;obtain ⟨y3, t4, rfl, hx1, hd⟩ := drop_cons hd (decT h1);replace h1 := decT h1;rw [s1085_l1] at hR;(try dsimp only at hR);refine aw_skip ?_;refine aw_seq ?_;refine aw_block ?_;refine aw_seq ?_;refine aw_region [.p, .p, .p] ?_;refine st rfl rfl (eff_ix (f := cInt) (l := a0) (a := y3) rfl Tryz.underlying131 ty37 rfl rfl (Int.natCast_nonneg _) hx1) rfl ?_;refine st rfl rfl (eff_load rfl ty37 rfl) rfl ?_;refine st rfl rfl (eff_assigng rfl rfl) rfl ?_;refine st_nil ?_;refine aw_seq ?_;refine aw_region [.p, .p] ?_;refine st rfl rfl (eff_moveg rfl rfl) rfl ?_;refine st rfl rfl (eff_neq rfl rfl rfl) rfl ?_;refine st_nil ?_;refine aw_cond _ rfl (fun h3 => ?_) (fun h3 => ?_)
   ·replace h3 : (decide (y3 ≠ 0)) = true := h3;replace hR := condT hR h3;(try simp only [Bool.or_eq_true, Bool.and_eq_true, Bool.or_eq_false_iff, Bool.and_eq_false_iff, Bool.not_eq_true', Bool.not_eq_false', decide_eq_true_eq, decide_eq_false_iff_not] at h3);refine aw_seq ?_;refine aw_region [.p, .p] ?_;refine st rfl rfl (eff_moveg rfl rfl) rfl ?_;refine st rfl rfl (eff_assigng rfl rfl) rfl ?_;refine st_nil ?_;refine aw_ret ?_;subst hR;exact res_c rfl (rv_g rfl)
   ·replace h3 : (decide (y3 ≠ 0)) = false := h3;replace hR := condF hR h3;(try simp only [Bool.or_eq_true, Bool.and_eq_true, Bool.or_eq_false_iff, Bool.and_eq_false_iff, Bool.not_eq_true', Bool.not_eq_false', decide_eq_true_eq, decide_eq_false_iff_not] at h3);refine aw_skip ?_;refine aw_region [.p, .p] ?_;refine st rfl rfl (eff_add rfl rfl rfl (by unfold I64; omega)) rfl ?_;refine st rfl rfl (eff_moveg rfl rfl) rfl ?_;refine st_nil ?_;exact ⟨rfl, (k2 + 1, t4), ⟨rfl, rfl, rfl, trivial⟩, trivial, rfl, ⟨hd, hR⟩, by simp⟩
  ·replace h1 : (decide (((k2 : Nat) : Int) < (List.length a0 : Int))) = false := h1;obtain rfl := drop_nil hd (decF h1);rw [s1085_l1] at hR;refine aw_exit ?_;refine aw_seq ?_;refine aw_region [.p] ?_;refine st rfl rfl (eff_assigng rfl rfl) rfl ?_;refine st_nil ?_;refine aw_ret ?_;subst hR;exact res_c rfl (rv_g rfl)
def s1086 (a0 : Bool) (a1 : Int) : Int :=
 (bif a0 then a1 else 0)
theorem c1086 {g : List (Nat × List Value)} (a0 : Bool) (a1 : Int)    : Con (EG g) 30 [G.bool a0, G.int a1] (G.int (s1086 a0 a1)) := by
 generalize hR : s1086 a0 a1 = R;unfold s1086 at hR;refine con_of_aw Tryz.func30 rfl rfl fun w0 M0 => ?_;refine aw_seq ?_;refine aw_region [.p] ?_;refine st rfl rfl (eff_assigng rfl rfl) rfl ?_;refine st_nil ?_;refine aw_seq ?_;refine aw_seq ?_;refine aw_region [.p] ?_;refine st rfl rfl (eff_moveg rfl rfl) rfl ?_;refine st_nil ?_;refine aw_cond _ rfl (fun h1 => ?_) (fun h1 => ?_)
 ·replace h1 : (a0) = true := h1;replace hR := condT hR h1;(try simp only [Bool.or_eq_true, Bool.and_eq_true, Bool.or_eq_false_iff, Bool.and_eq_false_iff, Bool.not_eq_true', Bool.not_eq_false', decide_eq_true_eq, decide_eq_false_iff_not] at h1);refine aw_seq ?_;refine aw_region [.p, .p] ?_;refine st rfl rfl (eff_moveg rfl rfl) rfl ?_;refine st rfl rfl (eff_assigng rfl rfl) rfl ?_;refine st_nil ?_;refine aw_ret ?_;subst hR;exact res_c rfl (rv_g rfl)
 ·replace h1 : (a0) = false := h1;replace hR := condF hR h1;(try simp only [Bool.or_eq_true, Bool.and_eq_true, Bool.or_eq_false_iff, Bool.and_eq_false_iff, Bool.not_eq_true', Bool.not_eq_false', decide_eq_true_eq, decide_eq_false_iff_not] at h1);refine aw_skip ?_;refine aw_seq ?_;refine aw_region [.p] ?_;refine st rfl rfl (eff_assigng rfl rfl) rfl ?_;refine st_nil ?_;refine aw_ret ?_;subst hR;exact res_c rfl (rv_g rfl)
def s1088 (a0 : Int) (a1 : Int) (a2 : Int) : Int :=
 (s1086 ((decide (a0 < a1)) || (decide (a2 < a0))) 3)
theorem c1088 {g : List (Nat × List Value)} (a0 : Int) (a1 : Int) (a2 : Int)    : Con (EG g) 31 [G.int a0, G.int a1, G.int a2] (G.int (s1088 a0 a1 a2)) := by
 generalize hR : s1088 a0 a1 a2 = R;unfold s1088 at hR;refine con_of_aw Tryz.func31 rfl rfl fun w0 M0 => ?_;refine aw_seq ?_;refine aw_region [.p] ?_;refine st rfl rfl (eff_assigng rfl rfl) rfl ?_;refine st_nil ?_;refine aw_seq ?_;refine aw_region [.p, .p, .p, .p, .p, .p, .p, .p, .p, .p] ?_;refine st rfl rfl (eff_moveg rfl rfl) rfl ?_;refine st rfl rfl (eff_moveg rfl rfl) rfl ?_;refine st rfl rfl (eff_lss rfl rfl rfl) rfl ?_;refine st rfl rfl (eff_moveg rfl rfl) rfl ?_;refine st_g rfl rfl rfl (gb_bool _ _) (fun h => eff_moveg rfl rfl) rfl ?_;refine st_g rfl rfl rfl (gb_bool _ _) (fun h => eff_moveg rfl rfl) rfl ?_;refine st_g rfl rfl rfl (gb_bool _ _) (fun h => eff_gtr rfl (gd h rfl) (gd h rfl)) rfl ?_;refine st rfl rfl (eff_or rfl rfl rfl rfl) rfl ?_;refine st rfl rfl (eff_call rfl K1086 rfl (c1086 ((decide (a0 < a1)) || (decide (a2 < a0))) 3) (ag_cons rfl (ag_cons rfl ag_nil))) rfl ?_;refine st rfl rfl (eff_assigng rfl rfl) rfl ?_;refine st_nil ?_;refine aw_ret ?_;subst hR;exact res_c rfl (rv_g rfl)
def s1098 (a0 : Int) : Int :=
 (s1088 a0 0 143999999)
theorem c1098 {g : List (Nat × List Value)} (a0 : Int)    : Con (EG g) 63 [G.int a0] (G.int (s1098 a0)) := by
 generalize hR : s1098 a0 = R;unfold s1098 at hR;refine con_of_aw Tryz.func63 rfl rfl fun w0 M0 => ?_;refine aw_seq ?_;refine aw_region [.p] ?_;refine st rfl rfl (eff_assigng rfl rfl) rfl ?_;refine st_nil ?_;refine aw_seq ?_;refine aw_region [.p, .p, .p] ?_;refine st rfl rfl (eff_moveg rfl rfl) rfl ?_;refine st rfl rfl (eff_call rfl K1088 rfl (c1088 a0 0 143999999) (ag_cons rfl (ag_cons rfl (ag_cons rfl ag_nil)))) rfl ?_;refine st rfl rfl (eff_assigng rfl rfl) rfl ?_;refine st_nil ?_;refine aw_ret ?_;subst hR;exact res_c rfl (rv_g rfl)
end Go.Sim
set_option maxRecDepth 10000
namespace Go.Sim
open Go.Proofs
def s91_l1  : List UInt8 → Nat → Bool
 | [], k2 => true
 | y3 :: t4, k2 => (bif (!(((decide (97 ≤ (y3.toNat : Int))) && (decide ((y3.toNat : Int) ≤ 122))) || ((decide (65 ≤ (y3.toNat : Int))) && (decide ((y3.toNat : Int) ≤ 90))))) && ((decide (((k2 : Nat) : Int) = 0)) || ((decide ((y3.toNat : Int) ≠ 95)) && ((decide ((y3.toNat : Int) < 48)) || (decide (57 < (y3.toNat : Int)))))) then false else s91_l1  t4 (k2 + 1))
def s91 (a0 : ByteArray) : Bool :=
 (bif (decide ((ByteArray.size a0 : Int) = 0)) || (decide (24 < (ByteArray.size a0 : Int))) then false else s91_l1 ((ByteArray.data a0).toList) 0)
theorem c91 {g : List (Nat × List Value)} (a0 : ByteArray)    : Con (EG g) 49 [G.str a0] (G.bool (s91 a0)) := by
 generalize hR : s91 a0 = R;unfold s91 at hR;refine con_of_aw Tryz.func49 rfl rfl fun w0 M0 => ?_;refine aw_seq ?_;refine aw_region [.p] ?_;refine st rfl rfl (eff_assigng rfl rfl) rfl ?_;refine st_nil ?_;refine aw_seq ?_;refine aw_seq ?_;refine aw_region [.p, .p, .p, .p, .p, .p, .p, .p] ?_;refine st rfl rfl (eff_moveg rfl rfl) rfl ?_;refine st rfl rfl (eff_lenS rfl Tryz.underlying9 rfl) rfl ?_;refine st rfl rfl (eff_eql rfl rfl rfl) rfl ?_;refine st rfl rfl (eff_moveg rfl rfl) rfl ?_;refine st_g rfl rfl rfl (gb_bool _ _) (fun h => eff_moveg rfl rfl) rfl ?_;refine st_g rfl rfl rfl (gb_bool _ _) (fun h => eff_lenS rfl Tryz.underlying9 (gd h rfl)) rfl ?_;refine st_g rfl rfl rfl (gb_bool _ _) (fun h => eff_gtr rfl (gd h rfl) rfl) rfl ?_;refine st rfl rfl (eff_or rfl rfl rfl rfl) rfl ?_;refine st_nil ?_;refine aw_cond _ rfl (fun h1 => ?_) (fun h1 => ?_)
 ·replace h1 : ((decide ((ByteArray.size a0 : Int) = 0)) || (decide (24 < (ByteArray.size a0 : Int)))) = true := h1;replace hR := condT hR h1;(try simp only [Bool.or_eq_true, Bool.and_eq_true, Bool.or_eq_false_iff, Bool.and_eq_false_iff, Bool.not_eq_true', Bool.not_eq_false', decide_eq_true_eq, decide_eq_false_iff_not] at h1);refine aw_seq ?_;refine aw_region [.p] ?_;refine st rfl rfl (eff_assigng rfl rfl) rfl ?_;refine st_nil ?_;refine aw_ret ?_;subst hR;exact res_c rfl (rv_g rfl)
 ·replace h1 : ((decide ((ByteArray.size a0 : Int) = 0)) || (decide (24 < (ByteArray.size a0 : Int)))) = false := h1;replace hR := condF hR h1;(try simp only [Bool.or_eq_true, Bool.and_eq_true, Bool.or_eq_false_iff, Bool.and_eq_false_iff, Bool.not_eq_true', Bool.not_eq_false', decide_eq_true_eq, decide_eq_false_iff_not] at h1);refine aw_skip ?_;refine aw_seq ?_;refine aw_seq ?_;refine aw_region [.p] ?_;refine st rfl rfl (eff_assigng rfl rfl) rfl ?_;refine st_nil ?_;refine aw_block ?_;refine aw_loop_g (γ := Nat × (List UInt8)) (fun g => ([(0, .g (G.str a0)), (3, .g (G.int ((g.1 : Nat) : Int)))], [])) (fun g => ((ByteArray.data a0).toList).drop g.1 = g.2 ∧ s91_l1  g.2 g.1 = R) (fun g => List.length g.2) ⟨rfl, (0, ((ByteArray.data a0).toList)), ⟨rfl, rfl, trivial⟩, trivial, rfl, ⟨rfl, hR⟩, trivial⟩ ?_
  ·rintro ⟨k2, t4⟩ ⟨hd, hR⟩;replace hd : ((ByteArray.data a0).toList).drop k2 = t4 := hd;replace hR : s91_l1  t4 k2 = R := hR;refine aw_seq ?_;refine aw_seq ?_;refine aw_region [.p, .p, .p, .p] ?_;refine st rfl rfl (eff_moveg rfl rfl) rfl ?_;refine st rfl rfl (eff_moveg rfl rfl) rfl ?_;refine st rfl rfl (eff_lenS rfl Tryz.underlying9 rfl) rfl ?_;refine st rfl rfl (eff_lss rfl rfl rfl) rfl ?_;refine st_nil ?_;refine aw_cond _ rfl (fun h2 => ?_) (fun h2 => ?_)
   ·replace h2 : (decide (((k2 : Nat) : Int) < (ByteArray.size a0 : Int))) = true := h2;obtain ⟨y3, t4, rfl, hx1, hd⟩ := drop_consB hd (decT h2);replace h2 := decT h2;rw [s91_l1] at hR;(try dsimp only at hR);refine aw_skip ?_;refine aw_seq ?_;refine aw_block ?_;refine aw_seq ?_;refine aw_region [.p, .p, .p, .p] ?_;refine st rfl rfl (eff_moveg rfl rfl) rfl ?_;refine st rfl rfl (eff_moveg rfl rfl) rfl ?_;refine st rfl rfl (eff_indexS (b := y3) rfl Tryz.underlying9 rfl rfl (Int.natCast_nonneg _) hx1) rfl ?_;refine st rfl rfl (eff_assigng rfl rfl) rfl ?_;refine st_nil ?_;refine aw_seq ?_;refine aw_region [.p, .p, .p, .p, .p, .p, .p, .p, .p, .p, .p, .p, .p, .p, .p] ?_;refine st rfl rfl (eff_moveg rfl rfl) rfl ?_;refine st rfl rfl (eff_geq rfl rfl rfl) rfl ?_;refine st rfl rfl (eff_moveg rfl rfl) rfl ?_;refine st_g rfl rfl rfl (gb_bool _ _) (fun h => eff_moveg rfl rfl) rfl ?_;refine st_g rfl rfl rfl (gb_bool _ _) (fun h => eff_leq rfl (gd h rfl) rfl) rfl ?_;refine st rfl rfl (eff_and rfl rfl rfl rfl) rfl ?_;refine st rfl rfl (eff_moveg rfl rfl) rfl ?_;refine st_g rfl rfl rfl (gb_bool _ _) (fun h => eff_moveg rfl rfl) rfl ?_;refine st_g rfl rfl rfl (gb_bool _ _) (fun h => eff_geq rfl (gd h rfl) rfl) rfl ?_;refine st_g rfl rfl rfl (gb_bool _ _) (fun h => eff_moveg rfl (gd h rfl)) rfl ?_;refine st_g rfl rfl rfl (gb_if _ _ _) (fun h => eff_moveg rfl rfl) rfl ?_;refine st_g rfl rfl rfl (gb_if _ _ _) (fun h => eff_leq rfl (gd h rfl) rfl) rfl ?_;refine st_g rfl rfl rfl (gb_bool _ _) (fun h => eff_and rfl (gd h rfl) rfl (gd2 h rfl)) rfl ?_;refine st rfl rfl (eff_or rfl rfl rfl rfl) rfl ?_;refine st rfl rfl (eff_assigng rfl rfl) rfl ?_;refine st_nil ?_;refine aw_seq ?_;refine aw_region [.p, .p, .p, .p, .p, .p, .p, .p, .p, .p, .p, .p, .p, .p, .p, .p, .p, .p] ?_;refine st rfl rfl (eff_moveg rfl rfl) rfl ?_;refine st rfl rfl (eff_not rfl rfl) rfl ?_;refine st rfl rfl (eff_moveg rfl rfl) rfl ?_;refine st_g rfl rfl rfl (gb_bool _ _) (fun h => eff_moveg rfl rfl) rfl ?_;refine st_g rfl rfl rfl (gb_bool _ _) (fun h => eff_eql rfl (gd h rfl) rfl) rfl ?_;refine st_g rfl rfl rfl (gb_bool _ _) (fun h => eff_moveg rfl (gd h rfl)) rfl ?_;refine st_g rfl rfl rfl (gb_if _ _ _) (fun h => eff_moveg rfl rfl) rfl ?_;refine st_g rfl rfl rfl (gb_if _ _ _) (fun h => eff_neq rfl (gd h rfl) rfl) rfl ?_;refine st_g rfl rfl rfl (gb_if _ _ _) (fun h => eff_moveg rfl (gd h rfl)) rfl ?_;refine st_g rfl rfl rfl (gb_if _ _ _) (fun h => eff_moveg rfl rfl) rfl ?_;refine st_g rfl rfl rfl (gb_if _ _ _) (fun h => eff_lss rfl (gd h rfl) rfl) rfl ?_;refine st_g rfl rfl rfl (gb_if _ _ _) (fun h => eff_moveg rfl (gd h rfl)) rfl ?_;refine st_g rfl rfl rfl (gb_if _ _ _) (fun h => eff_moveg rfl rfl) rfl ?_;refine st_g rfl rfl rfl (gb_if _ _ _) (fun h => eff_gtr rfl (gd h rfl) rfl) rfl ?_;refine st_g rfl rfl rfl (gb_if _ _ _) (fun h => eff_or rfl (gd h rfl) rfl (gd2 h rfl)) rfl ?_;refine st_g rfl rfl rfl (gb_if _ _ _) (fun h => eff_and rfl (gd h rfl) rfl (gd2 h rfl)) rfl ?_;refine st_g rfl rfl rfl (gb_bool _ _) (fun h => eff_or rfl (gd h rfl) rfl (gd2 h rfl)) rfl ?_;refine st rfl rfl (eff_and rfl rfl rfl rfl) rfl ?_;refine st_nil ?_;refine aw_cond _ rfl (fun h4 => ?_) (fun h4 => ?_)
    ·replace h4 : ((!(((decide (97 ≤ (y3.toNat : Int))) && (decide ((y3.toNat : Int) ≤ 122))) || ((decide (65 ≤ (y3.toNat : Int))) && (decide ((y3.toNat : Int) ≤ 90))))) && ((decide (((k2 : Nat) : Int) = 0)) || ((decide ((y3.toNat : Int) ≠ 95)) && ((decide ((y3.toNat : Int) < 48)) || (decide (57 < (y3.toNat : Int))))))) = true := h4;replace hR := condT hR h4;(try simp only [Bool.or_eq_true, Bool.and_eq_true, Bool.or_eq_false_iff, Bool.and_eq_false_iff, Bool.not_eq_true', Bool.not_eq_false', decide_eq_true_eq, decide_eq_false_iff_not] at h4);refine aw_seq ?_;refine aw_region [.p] ?_;refine st rfl rfl (eff_assigng rfl rfl) rfl ?_;refine st_nil ?_;refine aw_ret ?_;subst hR;exact res_c rfl (rv_g rfl)
    ·replace h4 : ((!(((decide (97 ≤ (y3.toNat : Int))) && (decide ((y3.toNat : Int) ≤ 122))) || ((decide (65 ≤ (y3.toNat : Int))) && (decide ((y3.toNat : Int) ≤ 90))))) && ((decide (((k2 : Nat) : Int) = 0)) || ((decide ((y3.toNat : Int) ≠ 95)) && ((decide ((y3.toNat : Int) < 48)) || (decide (57 < (y3.toNat : Int))))))) = false := h4;replace hR := condF hR h4;(try simp only [Bool.or_eq_true, Bool.and_eq_true, Bool.or_eq_false_iff, Bool.and_eq_false_iff, Bool.not_eq_true', Bool.not_eq_false', decide_eq_true_eq, decide_eq_false_iff_not] at h4);refine aw_skip ?_;refine aw_region [.p, .p, .p] ?_;refine st rfl rfl (eff_moveg rfl rfl) rfl ?_;refine st rfl rfl (eff_add rfl rfl rfl (by unfold I64; omega)) rfl ?_;refine st rfl rfl (eff_assigng rfl rfl) rfl ?_;refine st_nil ?_;exact ⟨rfl, (k2 + 1, t4), ⟨rfl, rfl, trivial⟩, trivial, rfl, ⟨hd, hR⟩, by simp⟩
   ·replace h2 : (decide (((k2 : Nat) : Int) < (ByteArray.size a0 : Int))) = false := h2;obtain rfl := drop_nilB hd (decF h2);rw [s91_l1] at hR;refine aw_exit ?_;refine aw_seq ?_;refine aw_region [.p] ?_;refine st rfl rfl (eff_assigng rfl rfl) rfl ?_;refine st_nil ?_;refine aw_ret ?_;subst hR;exact res_c rfl (rv_g rfl)
def s147_l1  : List (Int × Int) → Bool
 | [] => true
 | y2 :: t3 => (bif (!(((decide (65 ≤ y2.2)) && (decide (y2.2 ≤ 90))) || ((decide (97 ≤ y2.2)) && (decide (y2.2 ≤ 122))))) && ((decide (y2.1 = 0)) || ((decide (y2.2 ≠ 95)) && ((decide (y2.2 < 48)) || (decide (57 < y2.2))))) then false else s147_l1 t3)
def s147 (a0 : ByteArray) : Bool :=
 (bif (decide ((ByteArray.size a0 : Int) = 0)) || (decide (24 < (ByteArray.size a0 : Int))) then false else s147_l1 (runes a0))
theorem c147 {g : List (Nat × List Value)} (a0 : ByteArray)    : Con (EG g) 68 [G.str a0] (G.bool (s147 a0)) := by
 generalize hR : s147 a0 = R;unfold s147 at hR;refine con_of_aw Tryz.func68 rfl rfl fun w0 M0 => ?_;refine aw_seq ?_;refine aw_region [.p] ?_;refine st rfl rfl (eff_assigng rfl rfl) rfl ?_;refine st_nil ?_;refine aw_seq ?_;refine aw_seq ?_;refine aw_region [.p, .p, .p, .p, .p, .p, .p, .p] ?_;refine st rfl rfl (eff_moveg rfl rfl) rfl ?_;refine st rfl rfl (eff_lenS rfl Tryz.underlying9 rfl) rfl ?_;refine st rfl rfl (eff_eql rfl rfl rfl) rfl ?_;refine st rfl rfl (eff_moveg rfl rfl) rfl ?_;refine st_g rfl rfl rfl (gb_bool _ _) (fun h => eff_moveg rfl rfl) rfl ?_;refine st_g rfl rfl rfl (gb_bool _ _) (fun h => eff_lenS rfl Tryz.underlying9 (gd h rfl)) rfl ?_;refine st_g rfl rfl rfl (gb_bool _ _) (fun h => eff_gtr rfl (gd h rfl) rfl) rfl ?_;refine st rfl rfl (eff_or rfl rfl rfl rfl) rfl ?_;refine st_nil ?_;refine aw_cond _ rfl (fun h1 => ?_) (fun h1 => ?_)
 ·replace h1 : ((decide ((ByteArray.size a0 : Int) = 0)) || (decide (24 < (ByteArray.size a0 : Int)))) = true := h1;replace hR := condT hR h1;(try simp only [Bool.or_eq_true, Bool.and_eq_true, Bool.or_eq_false_iff, Bool.and_eq_false_iff, Bool.not_eq_true', Bool.not_eq_false', decide_eq_true_eq, decide_eq_false_iff_not] at h1);refine aw_seq ?_;refine aw_region [.p] ?_;refine st rfl rfl (eff_assigng rfl rfl) rfl ?_;refine st_nil ?_;refine aw_ret ?_;subst hR;exact res_c rfl (rv_g rfl)
 ·replace h1 : ((decide ((ByteArray.size a0 : Int) = 0)) || (decide (24 < (ByteArray.size a0 : Int)))) = false := h1;replace hR := condF hR h1;(try simp only [Bool.or_eq_true, Bool.and_eq_true, Bool.or_eq_false_iff, Bool.and_eq_false_iff, Bool.not_eq_true', Bool.not_eq_false', decide_eq_true_eq, decide_eq_false_iff_not] at h1);refine aw_skip ?_;refine aw_seq ?_;refine aw_seq ?_;refine aw_region [.p, .w] ?_;refine st rfl rfl (eff_moveg rfl rfl) rfl ?_;refine st_w rfl rfl (eff_rangeS 15 rfl Tryz.underlying9 rfl rfl) rfl ?_;refine st_nil ?_;refine aw_block ?_;refine aw_loop_g (γ := Nat × (List (Int × Int))) (fun g => ([(15, .ptr 15 0)], [(15, .it a0 g.1)])) (fun g => RunesAt a0 g.1 g.2 ∧ s147_l1 g.2 = R) (fun g => List.length g.2) ⟨rfl, (0, runes a0), ⟨rfl, trivial⟩, ⟨rfl, trivial⟩, rfl, ⟨runesAt_start _, hR⟩, trivial⟩ ?_
  ·rintro ⟨p1, t3⟩ ⟨hP, hR⟩;replace hP : RunesAt a0 p1 t3 := hP;replace hR : s147_l1 t3 = R := hR
   cases t3 with
   | nil =>
    rw [s147_l1] at hR;refine aw_seq ?_;refine aw_region [.r, .p] ?_;refine st_r rfl rfl (eff_nextE rfl rfl rfl (runesAt_nil hP)) rfl ?_;refine st rfl rfl (eff_extract rfl rfl rfl) rfl ?_;refine st_nil ?_;refine aw_seq ?_;refine aw_cond _ rfl (fun h2 => ?_) (fun h2 => ?_)
    ·exact Bool.noConfusion h2
    ·refine aw_exit ?_;refine aw_seq ?_;refine aw_region [.p] ?_;refine st rfl rfl (eff_assigng rfl rfl) rfl ?_;refine st_nil ?_;refine aw_ret ?_;subst hR;exact res_c rfl (rv_g rfl)
   | cons y2 t3 =>
    obtain ⟨hlt, hy, hP⟩ := runesAt_cons hP;rw [s147_l1] at hR;refine aw_seq ?_;refine aw_region [.w, .p] ?_;refine st_w rfl rfl (eff_nextY (y := y2) rfl rfl rfl hlt hy) rfl ?_;refine st rfl rfl (eff_extract rfl rfl rfl) rfl ?_;refine st_nil ?_;refine aw_seq ?_;refine aw_cond _ rfl (fun h3 => ?_) (fun h3 => ?_)
    ·refine aw_skip ?_;refine aw_block ?_;refine aw_seq ?_;refine aw_region [.p, .p, .p, .p] ?_;refine st rfl rfl (eff_extract rfl rfl rfl) rfl ?_;refine st rfl rfl (eff_extract rfl rfl rfl) rfl ?_;refine st rfl rfl (eff_assigng rfl rfl) rfl ?_;refine st rfl rfl (eff_assigng rfl rfl) rfl ?_;refine st_nil ?_;refine aw_seq ?_;refine aw_region [.p, .p, .p, .p, .p, .p, .p, .p, .p, .p, .p, .p, .p, .p, .p] ?_;refine st rfl rfl (eff_moveg rfl rfl) rfl ?_;refine st rfl rfl (eff_geq rfl rfl rfl) rfl ?_;refine st rfl rfl (eff_moveg rfl rfl) rfl ?_;refine st_g rfl rfl rfl (gb_bool _ _) (fun h => eff_moveg rfl rfl) rfl ?_;refine st_g rfl rfl rfl (gb_bool _ _) (fun h => eff_leq rfl (gd h rfl) rfl) rfl ?_;refine st rfl rfl (eff_and rfl rfl rfl rfl) rfl ?_;refine st rfl rfl (eff_moveg rfl rfl) rfl ?_;refine st_g rfl rfl rfl (gb_bool _ _) (fun h => eff_moveg rfl rfl) rfl ?_;refine st_g rfl rfl rfl (gb_bool _ _) (fun h => eff_geq rfl (gd h rfl) rfl) rfl ?_;refine st_g rfl rfl rfl (gb_bool _ _) (fun h => eff_moveg rfl (gd h rfl)) rfl ?_;refine st_g rfl rfl rfl (gb_if _ _ _) (fun h => eff_moveg rfl rfl) rfl ?_;refine st_g rfl rfl rfl (gb_if _ _ _) (fun h => eff_leq rfl (gd h rfl) rfl) rfl ?_;refine st_g rfl rfl rfl (gb_bool _ _) (fun h => eff_and rfl (gd h rfl) rfl (gd2 h rfl)) rfl ?_;refine st rfl rfl (eff_or rfl rfl rfl rfl) rfl ?_;refine st rfl rfl (eff_assigng rfl rfl) rfl ?_;refine st_nil ?_;refine aw_seq ?_;refine aw_region [.p, .p, .p, .p, .p, .p, .p, .p, .p, .p, .p, .p, .p, .p, .p, .p, .p, .p] ?_;refine st rfl rfl (eff_moveg rfl rfl) rfl ?_;refine st rfl rfl (eff_not rfl rfl) rfl ?_;refine st rfl rfl (eff_moveg rfl rfl) rfl ?_;refine st_g rfl rfl rfl (gb_bool _ _) (fun h => eff_moveg rfl rfl) rfl ?_;refine st_g rfl rfl rfl (gb_bool _ _) (fun h => eff_eql rfl (gd h rfl) rfl) rfl ?_;refine st_g rfl rfl rfl (gb_bool _ _) (fun h => eff_moveg rfl (gd h rfl)) rfl ?_;refine st_g rfl rfl rfl (gb_if _ _ _) (fun h => eff_moveg rfl rfl) rfl ?_;refine st_g rfl rfl rfl (gb_if _ _ _) (fun h => eff_neq rfl (gd h rfl) rfl) rfl ?_;refine st_g rfl rfl rfl (gb_if _ _ _) (fun h => eff_moveg rfl (gd h rfl)) rfl ?_;refine st_g rfl rfl rfl (gb_if _ _ _) (fun h => eff_moveg rfl rfl) rfl ?_;refine st_g rfl rfl rfl (gb_if _ _ _) (fun h => eff_lss rfl (gd h rfl) rfl) rfl ?_;refine st_g rfl rfl rfl (gb_if _ _ _) (fun h => eff_moveg rfl (gd h rfl)) rfl ?_;refine st_g rfl rfl rfl (gb_if _ _ _) (fun h => eff_moveg rfl rfl) rfl ?_;refine st_g rfl rfl rfl (gb_if _ _ _) (fun h => eff_gtr rfl (gd h rfl) rfl) rfl ?_;refine st_g rfl rfl rfl (gb_if _ _ _) (fun h => eff_or rfl (gd h rfl) rfl (gd2 h rfl)) rfl ?_;refine st_g rfl rfl rfl (gb_if _ _ _) (fun h => eff_and rfl (gd h rfl) rfl (gd2 h rfl)) rfl ?_;refine st_g rfl rfl rfl (gb_bool _ _) (fun h => eff_or rfl (gd h rfl) rfl (gd2 h rfl)) rfl ?_;refine st rfl rfl (eff_and rfl rfl rfl rfl) rfl ?_;refine st_nil ?_;refine aw_cond _ rfl (fun h4 => ?_) (fun h4 => ?_)
     ·replace h4 : ((!(((decide (65 ≤ y2.2)) && (decide (y2.2 ≤ 90))) || ((decide (97 ≤ y2.2)) && (decide (y2.2 ≤ 122))))) && ((decide (y2.1 = 0)) || ((decide (y2.2 ≠ 95)) && ((decide (y2.2 < 48)) || (decide (57 < y2.2)))))) = true := h4;replace hR := condT hR h4;(try simp only [Bool.or_eq_true, Bool.and_eq_true, Bool.or_eq_false_iff, Bool.and_eq_false_iff, Bool.not_eq_true', Bool.not_eq_false', decide_eq_true_eq, decide_eq_false_iff_not] at h4);refine aw_seq ?_;refine aw_region [.p] ?_;refine st rfl rfl (eff_assigng rfl rfl) rfl ?_;refine st_nil ?_;refine aw_ret ?_;subst hR;exact res_c rfl (rv_g rfl)
     ·replace h4 : ((!(((decide (65 ≤ y2.2)) && (decide (y2.2 ≤ 90))) || ((decide (97 ≤ y2.2)) && (decide (y2.2 ≤ 122))))) && ((decide (y2.1 = 0)) || ((decide (y2.2 ≠ 95)) && ((decide (y2.2 < 48)) || (decide (57 < y2.2)))))) = false := h4;replace hR := condF hR h4;(try simp only [Bool.or_eq_true, Bool.and_eq_true, Bool.or_eq_false_iff, Bool.and_eq_false_iff, Bool.not_eq_true', Bool.not_eq_false', decide_eq_true_eq, decide_eq_false_iff_not] at h4);refine aw_skip ?_;exact ⟨rfl, ((p1 + (Utf8.decode a0 p1).2), t3), ⟨rfl, trivial⟩, ⟨rfl, trivial⟩, rfl, ⟨hP, hR⟩, by simp⟩
    ·exact Bool.noConfusion h3
def s1089 (a0 : ByteArray) : Int :=
 (s1086 ((!decide (a0 = (⟨#[]⟩))) && (!(s147 a0))) 1)
theorem c1089 {g : List (Nat × List Value)} (a0 : ByteArray)    : Con (EG g) 78 [G.str a0] (G.int (s1089 a0)) := by
 generalize hR : s1089 a0 = R;unfold s1089 at hR;refine con_of_aw Tryz.func78 rfl rfl fun w0 M0 => ?_;refine aw_seq ?_;refine aw_region [.p] ?_;refine st rfl rfl (eff_assigng rfl rfl) rfl ?_;refine st_nil ?_;refine aw_seq ?_;refine aw_region [.p, .p, .p, .p, .p, .p, .p, .p, .p] ?_;refine st rfl rfl (eff_moveg rfl rfl) rfl ?_;refine st rfl rfl (eff_sne rfl rfl rfl) rfl ?_;refine st rfl rfl (eff_moveg rfl rfl) rfl ?_;refine st_g rfl rfl rfl (gb_bool _ _) (fun h => eff_moveg rfl rfl) rfl ?_;refine st_g rfl rfl rfl (gb_bool _ _) (fun h => eff_call rfl K147 rfl (c147 a0) (ag_cons (gd h rfl) ag_nil)) rfl ?_;refine st_g rfl rfl rfl (gb_bool _ _) (fun h => eff_not rfl (gd h rfl)) rfl ?_;refine st rfl rfl (eff_and rfl rfl rfl rfl) rfl ?_;refine st rfl rfl (eff_call rfl K1086 rfl (c1086 ((!decide (a0 = (⟨#[]⟩))) && (!(s147 a0))) 1) (ag_cons rfl (ag_cons rfl ag_nil))) rfl ?_;refine st rfl rfl (eff_assigng rfl rfl) rfl ?_;refine st_nil ?_;refine aw_ret ?_;subst hR;exact res_c rfl (rv_g rfl)
def s1099_l1 (a0 : List S1079) (a2 : S1079 → (List S1079) → Int) : List S1079 → Nat → Int
 | [], k2 => 0
 | y3 :: t4, k2 => (bif decide ((a2 y3 (List.take (Int.toNat ((k2 : Nat) : Int)) a0)) ≠ 0) then (a2 y3 (List.take (Int.toNat ((k2 : Nat) : Int)) a0)) else s1099_l1 a0 a2 t4 (k2 + 1))
def s1099 (a0 : List S1079) (a1 : Int) (a2 : S1079 → (List S1079) → Int) : Int :=
 (bif decide (a1 < (List.length a0 : Int)) then 5 else s1099_l1 a0 a2 a0 0)
theorem c1099 {g : List (Nat × List Value)} (a0 : List S1079) (a1 : Int) (a2 : S1079 → (List S1079) → Int) {ca2 : G} {ia2 : FuncId} {ka2 : List G} (ha2 : FnIs ca2 ia2 ka2) (Ka2 : Known Tryz.prog ia2) (Ha2 : ∀ (x0 : S1079) (x1 : List S1079), Con (EG g) ia2 ([G.agg [G.int x0.Moment, G.str x0.Kind, G.str x0.Terminal, G.int x0.Seats, G.int x0.Size, G.int x0.Noise, G.str x0.Name], G.sl 7 (List.map S1079.c x1)] ++ ka2) (G.int (a2 x0 x1)))   : Con (EG g) 76 [G.sl 7 (List.map S1079.c a0), G.int a1, ca2] (G.int (s1099 a0 a1 a2)) := by
 generalize hR : s1099 a0 a1 a2 = R;unfold s1099 at hR;refine con_of_aw Tryz.func76 rfl rfl fun w0 M0 => ?_;refine len_sl (f := S1079.c) (l := a0) 0 rfl fun hla0 => ?_;refine aw_seq ?_;refine aw_region [.p] ?_;refine st rfl rfl (eff_assigng rfl rfl) rfl ?_;refine st_nil ?_;refine aw_seq ?_;refine aw_seq ?_;refine aw_region [.p, .p, .p, .p] ?_;refine st rfl rfl (eff_moveg rfl rfl) rfl ?_;refine st rfl rfl (eff_lenM (f := S1079.c) (l := a0) rfl Tryz.underlying25 rfl) rfl ?_;refine st rfl rfl (eff_moveg rfl rfl) rfl ?_;refine st rfl rfl (eff_gtr rfl rfl rfl) rfl ?_;refine st_nil ?_;refine aw_cond _ rfl (fun h1 => ?_) (fun h1 => ?_)
 ·replace h1 : (decide (a1 < (List.length a0 : Int))) = true := h1;replace hR := condT hR h1;(try simp only [Bool.or_eq_true, Bool.and_eq_true, Bool.or_eq_false_iff, Bool.and_eq_false_iff, Bool.not_eq_true', Bool.not_eq_false', decide_eq_true_eq, decide_eq_false_iff_not] at h1);refine aw_seq ?_;refine aw_region [.p] ?_;refine st rfl rfl (eff_assigng rfl rfl) rfl ?_;refine st_nil ?_;refine aw_ret ?_;subst hR;exact res_c rfl (rv_g rfl)
 ·replace h1 : (decide (a1 < (List.length a0 : Int))) = false := h1;replace hR := condF hR h1;(try simp only [Bool.or_eq_true, Bool.and_eq_true, Bool.or_eq_false_iff, Bool.and_eq_false_iff, Bool.not_eq_true', Bool.not_eq_false', decide_eq_true_eq, decide_eq_false_iff_not] at h1);refine aw_skip ?_;refine aw_seq ?_;refine aw_seq ?_;refine aw_region [.p, .p, .p] ?_;refine st rfl rfl (eff_moveg rfl rfl) rfl ?_;refine st rfl rfl (eff_lenM (f := S1079.c) (l := a0) rfl Tryz.underlying25 rfl) rfl ?_;refine st rfl rfl (eff_moveg rfl rfl) rfl ?_;refine st_nil ?_;refine aw_block ?_;refine aw_loop_g (γ := Nat × (List S1079)) (fun g => ([(0, .g (G.sl 7 (List.map S1079.c a0))), (2, .g (ca2)), (14, .g (G.sl 7 (List.map S1079.c a0))), (15, .g (G.int (List.length a0 : Int))), (16, .g (G.int ((g.1 : Nat) : Int)))], [])) (fun g => a0.drop g.1 = g.2 ∧ s1099_l1 a0 a2 g.2 g.1 = R) (fun g => List.length g.2) ⟨rfl, (0, a0), ⟨rfl, rfl, rfl, rfl, rfl, trivial⟩, trivial, rfl, ⟨rfl, hR⟩, trivial⟩ ?_
  ·rintro ⟨k2, t4⟩ ⟨hd, hR⟩;replace hd : a0.drop k2 = t4 := hd;replace hR : s1099_l1 a0 a2 t4 k2 = R := hR;refine aw_seq ?_;refine aw_region [.p] ?_;refine st rfl rfl (eff_lss rfl rfl rfl) rfl ?_;refine st_nil ?_;refine len_sl (f := S1079.c) (l := a0) 0 rfl fun hlz1 => ?_;refine aw_seq ?_;refine aw_cond _ rfl (fun h2 => ?_) (fun h2 => ?_)
   ·replace h2 : (decide (((k2 : Nat) : Int) < (List.length a0 : Int))) = true := h2;obtain ⟨y3, t4, rfl, hx1, hd⟩ := drop_cons hd (decT h2);replace h2 := decT h2;rw [s1099_l1] at hR;(try dsimp only at hR);refine aw_skip ?_;refine aw_seq ?_;refine aw_block ?_;refine aw_seq ?_;refine aw_region [.p, .p, .p, .w, .p, .w] ?_;refine st rfl rfl (eff_moveg rfl rfl) rfl ?_;refine st rfl rfl (eff_ix (f := S1079.c) (l := a0) (a := y3) rfl Tryz.underlying25 ty1080 rfl rfl (Int.natCast_nonneg _) hx1) rfl ?_;refine st rfl rfl (eff_loadA rfl ty1080 rfl rfl rfl) rfl ?_;refine st_w rfl rfl (eff_alloc 8 rfl z1080 rfl rfl) rfl ?_;refine st rfl rfl (eff_assigng rfl rfl) rfl ?_;refine st_wn rfl rfl (eff_store (tv := .g (G.agg [G.int y3.Moment, G.str y3.Kind, G.str y3.Terminal, G.int y3.Seats, G.int y3.Size, G.int y3.Noise, G.str y3.Name])) rfl ty1080 rfl rfl rfl rfl rfl) ?_;refine st_nil ?_;refine aw_seq ?_;refine aw_draw [.p, .r, .p, .p, .p, .p, .p] (by kernel_rfl) ?_;refine st rfl rfl (eff_moveg rfl rfl) rfl ?_;refine st_r rfl rfl (eff_loadOA rfl ty1080 rfl rfl rfl rfl) rfl ?_;refine st rfl rfl (eff_moveg rfl rfl) rfl ?_;refine st rfl rfl (eff_moveg rfl rfl) rfl ?_;refine st rfl rfl (eff_slG (f := S1079.c) (l := a0) rfl Tryz.underlying25 ty1080 rfl bnd_none (bnd_some rfl (Int.natCast_nonneg _)) (Nat.zero_le _) (le_get hx1)) rfl ?_;refine st rfl rfl (eff_callf rfl ha2 Ka2 rfl (Ha2 y3 (List.take (Int.toNat ((k2 : Nat) : Int)) a0)) (ag_cons rfl (ag_cons rfl ag_nil))) rfl ?_;refine st rfl rfl (eff_assigng rfl rfl) rfl ?_;refine st_nil ?_;refine aw_seq ?_;refine aw_region [.p, .p] ?_;refine st rfl rfl (eff_moveg rfl rfl) rfl ?_;refine st rfl rfl (eff_neq rfl rfl rfl) rfl ?_;refine st_nil ?_;refine aw_cond _ rfl (fun h4 => ?_) (fun h4 => ?_)
    ·replace h4 : (decide ((a2 y3 (List.take (Int.toNat ((k2 : Nat) : Int)) a0)) ≠ 0)) = true := h4;replace hR := condT hR h4;(try simp only [Bool.or_eq_true, Bool.and_eq_true, Bool.or_eq_false_iff, Bool.and_eq_false_iff, Bool.not_eq_true', Bool.not_eq_false', decide_eq_true_eq, decide_eq_false_iff_not] at h4);refine aw_seq ?_;refine aw_region [.p, .p] ?_;refine st rfl rfl (eff_moveg rfl rfl) rfl ?_;refine st rfl rfl (eff_assigng rfl rfl) rfl ?_;refine st_nil ?_;refine aw_ret ?_;subst hR;exact res_c rfl (rv_g rfl)
    ·replace h4 : (decide ((a2 y3 (List.take (Int.toNat ((k2 : Nat) : Int)) a0)) ≠ 0)) = false := h4;replace hR := condF hR h4;(try simp only [Bool.or_eq_true, Bool.and_eq_true, Bool.or_eq_false_iff, Bool.and_eq_false_iff, Bool.not_eq_true', Bool.not_eq_false', decide_eq_true_eq, decide_eq_false_iff_not] at h4);refine aw_skip ?_;refine aw_region [.p, .p] ?_;refine st rfl rfl (eff_add rfl rfl rfl (by unfold I64; omega)) rfl ?_;refine st rfl rfl (eff_moveg rfl rfl) rfl ?_;refine st_nil ?_;exact ⟨rfl, (k2 + 1, t4), ⟨rfl, rfl, rfl, rfl, rfl, trivial⟩, trivial, rfl, ⟨hd, hR⟩, by simp⟩
   ·replace h2 : (decide (((k2 : Nat) : Int) < (List.length a0 : Int))) = false := h2;obtain rfl := drop_nil hd (decF h2);rw [s1099_l1] at hR;refine aw_exit ?_;refine aw_seq ?_;refine aw_region [.p] ?_;refine st rfl rfl (eff_assigng rfl rfl) rfl ?_;refine st_nil ?_;refine aw_ret ?_;subst hR;exact res_c rfl (rv_g rfl)
def s1100 (a0 : S1079) (a1 : List S1079) : Int :=
 (s1085 [(s1098 a0.Moment), (s1086 ((!decide (a0.Kind = (⟨#[65]⟩))) && (!decide (a0.Kind = (⟨#[68]⟩)))) 13), (s1089 a0.Terminal), (s1088 a0.Seats 0 999), (s1088 a0.Size 1 9), (s1088 a0.Noise 0 99), (s1086 (!(s147 a0.Name)) 8)])
theorem c1100 {g : List (Nat × List Value)} (a0 : S1079) (a1 : List S1079)    : Con (EG g) 77 [G.agg [G.int a0.Moment, G.str a0.Kind, G.str a0.Terminal, G.int a0.Seats, G.int a0.Size, G.int a0.Noise, G.str a0.Name], G.sl 7 (List.map S1079.c a1)] (G.int (s1100 a0 a1)) := by
 generalize hR : s1100 a0 a1 = R;unfold s1100 at hR;refine con_of_aw Tryz.func77 rfl rfl fun w0 M0 => ?_;refine len_sl (f := S1079.c) (l := a1) 1 rfl fun hla1 => ?_;refine aw_seq ?_;refine aw_region [.p, .p] ?_;refine st rfl rfl (eff_box rfl rfl) rfl ?_;refine st rfl rfl (eff_assigng rfl rfl) rfl ?_;refine st_nil ?_;refine aw_seq ?_;refine aw_draw [.p, .p, .p, .p, .p, .p, .p, .p, .p, .p, .p, .p, .p, .p, .p, .p, .p, .p, .p, .p, .p, .p, .p, .p, .p, .p, .p, .p, .p, .p, .p, .p] (by kernel_rfl) ?_;refine st rfl rfl (eff_fieldAddr rfl fl1080_0 rfl) rfl ?_;refine st rfl rfl (eff_load rfl ty3 rfl) rfl ?_;refine st rfl rfl (eff_call rfl K1098 rfl (c1098 a0.Moment) (ag_cons rfl ag_nil)) rfl ?_;refine st rfl rfl (eff_fieldAddr rfl fl1080_1 rfl) rfl ?_;refine st rfl rfl (eff_load rfl ty9 rfl) rfl ?_;refine st rfl rfl (eff_sne rfl rfl rfl) rfl ?_;refine st rfl rfl (eff_moveg rfl rfl) rfl ?_;refine st_g rfl rfl rfl (gb_bool _ _) (fun h => eff_fieldAddr rfl fl1080_1 rfl) rfl ?_;refine st_g rfl rfl rfl (gb_bool _ _) (fun h => eff_load rfl ty9 (gd h rfl)) rfl ?_;refine st_g rfl rfl rfl (gb_bool _ _) (fun h => eff_sne rfl (gd h rfl) rfl) rfl ?_;refine st rfl rfl (eff_and rfl rfl rfl rfl) rfl ?_;refine st rfl rfl (eff_call rfl K1086 rfl (c1086 ((!decide (a0.Kind = (⟨#[65]⟩))) && (!decide (a0.Kind = (⟨#[68]⟩)))) 13) (ag_cons rfl (ag_cons rfl ag_nil))) rfl ?_;refine st rfl rfl (eff_fieldAddr rfl fl1080_2 rfl) rfl ?_;refine st rfl rfl (eff_load rfl ty9 rfl) rfl ?_;refine st rfl rfl (eff_call rfl K1089 rfl (c1089 a0.Terminal) (ag_cons rfl ag_nil)) rfl ?_;refine st rfl rfl (eff_fieldAddr rfl fl1080_3 rfl) rfl ?_;refine st rfl rfl (eff_load rfl ty3 rfl) rfl ?_;refine st rfl rfl (eff_call rfl K1088 rfl (c1088 a0.Seats 0 999) (ag_cons rfl (ag_cons rfl (ag_cons rfl ag_nil)))) rfl ?_;refine st rfl rfl (eff_fieldAddr rfl fl1080_4 rfl) rfl ?_;refine st rfl rfl (eff_load rfl ty3 rfl) rfl ?_;refine st rfl rfl (eff_call rfl K1088 rfl (c1088 a0.Size 1 9) (ag_cons rfl (ag_cons rfl (ag_cons rfl ag_nil)))) rfl ?_;refine st rfl rfl (eff_fieldAddr rfl fl1080_5 rfl) rfl ?_;refine st rfl rfl (eff_load rfl ty3 rfl) rfl ?_;refine st rfl rfl (eff_call rfl K1088 rfl (c1088 a0.Noise 0 99) (ag_cons rfl (ag_cons rfl (ag_cons rfl ag_nil)))) rfl ?_;refine st rfl rfl (eff_fieldAddr rfl fl1080_6 rfl) rfl ?_;refine st rfl rfl (eff_load rfl ty9 rfl) rfl ?_;refine st rfl rfl (eff_call rfl K147 rfl (c147 a0.Name) (ag_cons rfl ag_nil)) rfl ?_;refine st rfl rfl (eff_not rfl rfl) rfl ?_;refine st rfl rfl (eff_call rfl K1086 rfl (c1086 (!(s147 a0.Name)) 8) (ag_cons rfl (ag_cons rfl ag_nil))) rfl ?_;refine st rfl rfl (eff_buildSlice rfl Tryz.underlying131 ty37 z37 rfl (ps_cons rfl (ps_cons rfl (ps_cons rfl (ps_cons rfl (ps_cons rfl (ps_cons rfl (ps_cons rfl ps_nil))))))) rfl (by simp []) (by decide)) rfl ?_;refine st rfl rfl (eff_call rfl K1085 rfl (c1085 [(s1098 a0.Moment), (s1086 ((!decide (a0.Kind = (⟨#[65]⟩))) && (!decide (a0.Kind = (⟨#[68]⟩)))) 13), (s1089 a0.Terminal), (s1088 a0.Seats 0 999), (s1088 a0.Size 1 9), (s1088 a0.Noise 0 99), (s1086 (!(s147 a0.Name)) 8)]) (ag_cons rfl ag_nil)) rfl ?_;refine st rfl rfl (eff_assigng rfl rfl) rfl ?_;refine st_nil ?_;refine aw_ret ?_;subst hR;exact res_c rfl (rv_g rfl)
def s1027 (a0 : List S1079) : Int :=
 (s1099 a0 256 s1100)
theorem c1027 {g : List (Nat × List Value)} (a0 : List S1079)    : Con (EG g) 29 [G.sl 7 (List.map S1079.c a0)] (G.int (s1027 a0)) := by
 generalize hR : s1027 a0 = R;unfold s1027 at hR;refine con_of_aw Tryz.func29 rfl rfl fun w0 M0 => ?_;refine len_sl (f := S1079.c) (l := a0) 0 rfl fun hla0 => ?_;refine aw_seq ?_;refine aw_region [.p] ?_;refine st rfl rfl (eff_assigng rfl rfl) rfl ?_;refine st_nil ?_;refine aw_seq ?_;refine aw_region [.p, .p, .p] ?_;refine st rfl rfl (eff_moveg rfl rfl) rfl ?_;refine st rfl rfl (eff_call rfl K1099 rfl (c1099 a0 256 s1100 fnis_lit K1100 (fun x0 x1 => c1100 x0 x1)) (ag_cons rfl (ag_cons rfl (ag_cons rfl ag_nil)))) rfl ?_;refine st rfl rfl (eff_assigng rfl rfl) rfl ?_;refine st_nil ?_;refine aw_ret ?_;subst hR;exact res_c rfl (rv_g rfl)
def s1094_l1 (a0 : List S1124) (a2 : S1124 → (List S1124) → Int) : List S1124 → Nat → Int
 | [], k2 => 0
 | y3 :: t4, k2 => (bif decide ((a2 y3 (List.take (Int.toNat ((k2 : Nat) : Int)) a0)) ≠ 0) then (a2 y3 (List.take (Int.toNat ((k2 : Nat) : Int)) a0)) else s1094_l1 a0 a2 t4 (k2 + 1))
def s1094 (a0 : List S1124) (a1 : Int) (a2 : S1124 → (List S1124) → Int) : Int :=
 (bif decide (a1 < (List.length a0 : Int)) then 5 else s1094_l1 a0 a2 a0 0)
theorem c1094 {g : List (Nat × List Value)} (a0 : List S1124) (a1 : Int) (a2 : S1124 → (List S1124) → Int) {ca2 : G} {ia2 : FuncId} {ka2 : List G} (ha2 : FnIs ca2 ia2 ka2) (Ka2 : Known Tryz.prog ia2) (Ha2 : ∀ (x0 : S1124) (x1 : List S1124), Con (EG g) ia2 ([G.agg [G.str x0.Name, G.int x0.Start, G.int x0.End, G.int x0.Size, G.str x0.Terminal], G.sl 5 (List.map S1124.c x1)] ++ ka2) (G.int (a2 x0 x1)))   : Con (EG g) 79 [G.sl 5 (List.map S1124.c a0), G.int a1, ca2] (G.int (s1094 a0 a1 a2)) := by
 generalize hR : s1094 a0 a1 a2 = R;unfold s1094 at hR;refine con_of_aw Tryz.func79 rfl rfl fun w0 M0 => ?_;refine len_sl (f := S1124.c) (l := a0) 0 rfl fun hla0 => ?_;refine aw_seq ?_;refine aw_region [.p] ?_;refine st rfl rfl (eff_assigng rfl rfl) rfl ?_;refine st_nil ?_;refine aw_seq ?_;refine aw_seq ?_;refine aw_region [.p, .p, .p, .p] ?_;refine st rfl rfl (eff_moveg rfl rfl) rfl ?_;refine st rfl rfl (eff_lenM (f := S1124.c) (l := a0) rfl Tryz.underlying26 rfl) rfl ?_;refine st rfl rfl (eff_moveg rfl rfl) rfl ?_;refine st rfl rfl (eff_gtr rfl rfl rfl) rfl ?_;refine st_nil ?_;refine aw_cond _ rfl (fun h1 => ?_) (fun h1 => ?_)
 ·replace h1 : (decide (a1 < (List.length a0 : Int))) = true := h1;replace hR := condT hR h1;(try simp only [Bool.or_eq_true, Bool.and_eq_true, Bool.or_eq_false_iff, Bool.and_eq_false_iff, Bool.not_eq_true', Bool.not_eq_false', decide_eq_true_eq, decide_eq_false_iff_not] at h1);refine aw_seq ?_;refine aw_region [.p] ?_;refine st rfl rfl (eff_assigng rfl rfl) rfl ?_;refine st_nil ?_;refine aw_ret ?_;subst hR;exact res_c rfl (rv_g rfl)
 ·replace h1 : (decide (a1 < (List.length a0 : Int))) = false := h1;replace hR := condF hR h1;(try simp only [Bool.or_eq_true, Bool.and_eq_true, Bool.or_eq_false_iff, Bool.and_eq_false_iff, Bool.not_eq_true', Bool.not_eq_false', decide_eq_true_eq, decide_eq_false_iff_not] at h1);refine aw_skip ?_;refine aw_seq ?_;refine aw_seq ?_;refine aw_region [.p, .p, .p] ?_;refine st rfl rfl (eff_moveg rfl rfl) rfl ?_;refine st rfl rfl (eff_lenM (f := S1124.c) (l := a0) rfl Tryz.underlying26 rfl) rfl ?_;refine st rfl rfl (eff_moveg rfl rfl) rfl ?_;refine st_nil ?_;refine aw_block ?_;refine aw_loop_g (γ := Nat × (List S1124)) (fun g => ([(0, .g (G.sl 5 (List.map S1124.c a0))), (2, .g (ca2)), (14, .g (G.sl 5 (List.map S1124.c a0))), (15, .g (G.int (List.length a0 : Int))), (16, .g (G.int ((g.1 : Nat) : Int)))], [])) (fun g => a0.drop g.1 = g.2 ∧ s1094_l1 a0 a2 g.2 g.1 = R) (fun g => List.length g.2) ⟨rfl, (0, a0), ⟨rfl, rfl, rfl, rfl, rfl, trivial⟩, trivial, rfl, ⟨rfl, hR⟩, trivial⟩ ?_
  ·rintro ⟨k2, t4⟩ ⟨hd, hR⟩;replace hd : a0.drop k2 = t4 := hd;replace hR : s1094_l1 a0 a2 t4 k2 = R := hR;refine aw_seq ?_;refine aw_region [.p] ?_;refine st rfl rfl (eff_lss rfl rfl rfl) rfl ?_;refine st_nil ?_;refine len_sl (f := S1124.c) (l := a0) 0 rfl fun hlz1 => ?_;refine aw_seq ?_;refine aw_cond _ rfl (fun h2 => ?_) (fun h2 => ?_)
   ·replace h2 : (decide (((k2 : Nat) : Int) < (List.length a0 : Int))) = true := h2;obtain ⟨y3, t4, rfl, hx1, hd⟩ := drop_cons hd (decT h2);replace h2 := decT h2;rw [s1094_l1] at hR;(try dsimp only at hR);refine aw_skip ?_;refine aw_seq ?_;refine aw_block ?_;refine aw_seq ?_;refine aw_region [.p, .p, .p, .w, .p, .w] ?_;refine st rfl rfl (eff_moveg rfl rfl) rfl ?_;refine st rfl rfl (eff_ix (f := S1124.c) (l := a0) (a := y3) rfl Tryz.underlying26 ty1125 rfl rfl (Int.natCast_nonneg _) hx1) rfl ?_;refine st rfl rfl (eff_loadA rfl ty1125 rfl rfl rfl) rfl ?_;refine st_w rfl rfl (eff_alloc 8 rfl z1125 rfl rfl) rfl ?_;refine st rfl rfl (eff_assigng rfl rfl) rfl ?_;refine st_wn rfl rfl (eff_store (tv := .g (G.agg [G.str y3.Name, G.int y3.Start, G.int y3.End, G.int y3.Size, G.str y3.Terminal])) rfl ty1125 rfl rfl rfl rfl rfl) ?_;refine st_nil ?_;refine aw_seq ?_;refine aw_draw [.p, .r, .p, .p, .p, .p, .p] (by kernel_rfl) ?_;refine st rfl rfl (eff_moveg rfl rfl) rfl ?_;refine st_r rfl rfl (eff_loadOA rfl ty1125 rfl rfl rfl rfl) rfl ?_;refine st rfl rfl (eff_moveg rfl rfl) rfl ?_;refine st rfl rfl (eff_moveg rfl rfl) rfl ?_;refine st rfl rfl (eff_slG (f := S1124.c) (l := a0) rfl Tryz.underlying26 ty1125 rfl bnd_none (bnd_some rfl (Int.natCast_nonneg _)) (Nat.zero_le _) (le_get hx1)) rfl ?_;refine st rfl rfl (eff_callf rfl ha2 Ka2 rfl (Ha2 y3 (List.take (Int.toNat ((k2 : Nat) : Int)) a0)) (ag_cons rfl (ag_cons rfl ag_nil))) rfl ?_;refine st rfl rfl (eff_assigng rfl rfl) rfl ?_;refine st_nil ?_;refine aw_seq ?_;refine aw_region [.p, .p] ?_;refine st rfl rfl (eff_moveg rfl rfl) rfl ?_;refine st rfl rfl (eff_neq rfl rfl rfl) rfl ?_;refine st_nil ?_;refine aw_cond _ rfl (fun h4 => ?_) (fun h4 => ?_)
    ·replace h4 : (decide ((a2 y3 (List.take (Int.toNat ((k2 : Nat) : Int)) a0)) ≠ 0)) = true := h4;replace hR := condT hR h4;(try simp only [Bool.or_eq_true, Bool.and_eq_true, Bool.or_eq_false_iff, Bool.and_eq_false_iff, Bool.not_eq_true', Bool.not_eq_false', decide_eq_true_eq, decide_eq_false_iff_not] at h4);refine aw_seq ?_;refine aw_region [.p, .p] ?_;refine st rfl rfl (eff_moveg rfl rfl) rfl ?_;refine st rfl rfl (eff_assigng rfl rfl) rfl ?_;refine st_nil ?_;refine aw_ret ?_;subst hR;exact res_c rfl (rv_g rfl)
    ·replace h4 : (decide ((a2 y3 (List.take (Int.toNat ((k2 : Nat) : Int)) a0)) ≠ 0)) = false := h4;replace hR := condF hR h4;(try simp only [Bool.or_eq_true, Bool.and_eq_true, Bool.or_eq_false_iff, Bool.and_eq_false_iff, Bool.not_eq_true', Bool.not_eq_false', decide_eq_true_eq, decide_eq_false_iff_not] at h4);refine aw_skip ?_;refine aw_region [.p, .p] ?_;refine st rfl rfl (eff_add rfl rfl rfl (by unfold I64; omega)) rfl ?_;refine st rfl rfl (eff_moveg rfl rfl) rfl ?_;refine st_nil ?_;exact ⟨rfl, (k2 + 1, t4), ⟨rfl, rfl, rfl, rfl, rfl, trivial⟩, trivial, rfl, ⟨hd, hR⟩, by simp⟩
   ·replace h2 : (decide (((k2 : Nat) : Int) < (List.length a0 : Int))) = false := h2;obtain rfl := drop_nil hd (decF h2);rw [s1094_l1] at hR;refine aw_exit ?_;refine aw_seq ?_;refine aw_region [.p] ?_;refine st rfl rfl (eff_assigng rfl rfl) rfl ?_;refine st_nil ?_;refine aw_ret ?_;subst hR;exact res_c rfl (rv_g rfl)
def s1097 (a0 : S1124) (a1 : S1124) : Bool :=
 decide (a0.Name = a1.Name)
theorem c1097 {g : List (Nat × List Value)} (a0 : S1124) (a1 : S1124)    : Con (EG g) 82 [G.agg [G.str a0.Name, G.int a0.Start, G.int a0.End, G.int a0.Size, G.str a0.Terminal], G.ref [G.str a1.Name, G.int a1.Start, G.int a1.End, G.int a1.Size, G.str a1.Terminal]] (G.bool (s1097 a0 a1)) := by
 generalize hR : s1097 a0 a1 = R;unfold s1097 at hR;refine con_of_aw Tryz.func82 rfl rfl fun w0 M0 => ?_;refine aw_seq ?_;refine aw_region [.p, .p] ?_;refine st rfl rfl (eff_box rfl rfl) rfl ?_;refine st rfl rfl (eff_assigng rfl rfl) rfl ?_;refine st_nil ?_;refine aw_seq ?_;refine aw_region [.p, .p, .p, .p, .p, .p] ?_;refine st rfl rfl (eff_fieldAddr rfl fl1125_0 rfl) rfl ?_;refine st rfl rfl (eff_load rfl ty9 rfl) rfl ?_;refine st rfl rfl (eff_fieldAddr rfl fl1125_0 rfl) rfl ?_;refine st rfl rfl (eff_load rfl ty9 rfl) rfl ?_;refine st rfl rfl (eff_seq rfl rfl rfl) rfl ?_;refine st rfl rfl (eff_assigng rfl rfl) rfl ?_;refine st_nil ?_;refine aw_ret ?_;subst hR;exact res_c rfl (rv_g rfl)
def s1137_l1 (a1 : S1124 → Bool) : List S1124 → Nat → Int
 | [], k2 => (-1)
 | y3 :: t4, k2 => (bif (a1 y3) then ((k2 : Nat) : Int) else s1137_l1 a1 t4 (k2 + 1))
def s1137 (a0 : List S1124) (a1 : S1124 → Bool) : Int :=
 s1137_l1 a1 a0 0
theorem c1137 {g : List (Nat × List Value)} (a0 : List S1124) (a1 : S1124 → Bool) {ca1 : G} {ia1 : FuncId} {ka1 : List G} (ha1 : FnIs ca1 ia1 ka1) (Ka1 : Known Tryz.prog ia1) (Ha1 : ∀ (x0 : S1124), Con (EG g) ia1 ([G.agg [G.str x0.Name, G.int x0.Start, G.int x0.End, G.int x0.Size, G.str x0.Terminal]] ++ ka1) (G.bool (a1 x0)))   : Con (EG g) 126 [G.sl 5 (List.map S1124.c a0), ca1] (G.int (s1137 a0 a1)) := by
 generalize hR : s1137 a0 a1 = R;unfold s1137 at hR;refine con_of_aw Tryz.func126 rfl rfl fun w0 M0 => ?_;refine len_sl (f := S1124.c) (l := a0) 0 rfl fun hla0 => ?_;refine aw_seq ?_;refine aw_region [.p] ?_;refine st rfl rfl (eff_assigng rfl rfl) rfl ?_;refine st_nil ?_;refine aw_seq ?_;refine aw_seq ?_;refine aw_region [.p, .p, .p] ?_;refine st rfl rfl (eff_moveg rfl rfl) rfl ?_;refine st rfl rfl (eff_lenM (f := S1124.c) (l := a0) rfl Tryz.underlying26 rfl) rfl ?_;refine st rfl rfl (eff_moveg rfl rfl) rfl ?_;refine st_nil ?_;refine aw_block ?_;refine aw_loop_g (γ := Nat × (List S1124)) (fun g => ([(0, .g (G.sl 5 (List.map S1124.c a0))), (1, .g (ca1)), (7, .g (G.int (List.length a0 : Int))), (8, .g (G.int ((g.1 : Nat) : Int)))], [])) (fun g => a0.drop g.1 = g.2 ∧ s1137_l1 a1 g.2 g.1 = R) (fun g => List.length g.2) ⟨rfl, (0, a0), ⟨rfl, rfl, rfl, rfl, trivial⟩, trivial, rfl, ⟨rfl, hR⟩, trivial⟩ ?_
 ·rintro ⟨k2, t4⟩ ⟨hd, hR⟩;replace hd : a0.drop k2 = t4 := hd;replace hR : s1137_l1 a1 t4 k2 = R := hR;refine aw_seq ?_;refine aw_region [.p] ?_;refine st rfl rfl (eff_lss rfl rfl rfl) rfl ?_;refine st_nil ?_;refine len_sl (f := S1124.c) (l := a0) 0 rfl fun hlz1 => ?_;refine aw_seq ?_;refine aw_cond _ rfl (fun h1 => ?_) (fun h1 => ?_)
  ·replace h1 : (decide (((k2 : Nat) : Int) < (List.length a0 : Int))) = true := h1;obtain ⟨y3, t4, rfl, hx1, hd⟩ := drop_cons hd (decT h1);replace h1 := decT h1;rw [s1137_l1] at hR;(try dsimp only at hR);refine aw_skip ?_;refine aw_seq ?_;refine aw_block ?_;refine aw_seq ?_;refine aw_region [.p, .p] ?_;refine st rfl rfl (eff_moveg rfl rfl) rfl ?_;refine st rfl rfl (eff_assigng rfl rfl) rfl ?_;refine st_nil ?_;refine aw_seq ?_;refine aw_region [.p, .p, .p, .p, .p, .p] ?_;refine st rfl rfl (eff_moveg rfl rfl) rfl ?_;refine st rfl rfl (eff_moveg rfl rfl) rfl ?_;refine st rfl rfl (eff_moveg rfl rfl) rfl ?_;refine st rfl rfl (eff_ix (f := S1124.c) (l := a0) (a := y3) rfl Tryz.underlying26 ty1125 rfl rfl (Int.natCast_nonneg _) hx1) rfl ?_;refine st rfl rfl (eff_loadA rfl ty1125 rfl rfl rfl) rfl ?_;refine st rfl rfl (eff_callf rfl ha1 Ka1 rfl (Ha1 y3) (ag_cons rfl ag_nil)) rfl ?_;refine st_nil ?_;refine aw_cond _ rfl (fun h3 => ?_) (fun h3 => ?_)
   ·replace h3 : ((a1 y3)) = true := h3;replace hR := condT hR h3;(try simp only [Bool.or_eq_true, Bool.and_eq_true, Bool.or_eq_false_iff, Bool.and_eq_false_iff, Bool.not_eq_true', Bool.not_eq_false', decide_eq_true_eq, decide_eq_false_iff_not] at h3);refine aw_seq ?_;refine aw_region [.p, .p] ?_;refine st rfl rfl (eff_moveg rfl rfl) rfl ?_;refine st rfl rfl (eff_assigng rfl rfl) rfl ?_;refine st_nil ?_;refine aw_ret ?_;subst hR;exact res_c rfl (rv_g rfl)
   ·replace h3 : ((a1 y3)) = false := h3;replace hR := condF hR h3;(try simp only [Bool.or_eq_true, Bool.and_eq_true, Bool.or_eq_false_iff, Bool.and_eq_false_iff, Bool.not_eq_true', Bool.not_eq_false', decide_eq_true_eq, decide_eq_false_iff_not] at h3);refine aw_skip ?_;refine aw_region [.p, .p] ?_;refine st rfl rfl (eff_add rfl rfl rfl (by unfold I64; omega)) rfl ?_;refine st rfl rfl (eff_moveg rfl rfl) rfl ?_;refine st_nil ?_;exact ⟨rfl, (k2 + 1, t4), ⟨rfl, rfl, rfl, rfl, trivial⟩, trivial, rfl, ⟨hd, hR⟩, by simp⟩
  ·replace h1 : (decide (((k2 : Nat) : Int) < (List.length a0 : Int))) = false := h1;obtain rfl := drop_nil hd (decF h1);rw [s1137_l1] at hR;refine aw_exit ?_;refine aw_seq ?_;refine aw_region [.p] ?_;refine st rfl rfl (eff_assigng rfl rfl) rfl ?_;refine st_nil ?_;refine aw_ret ?_;subst hR;exact res_c rfl (rv_g rfl)
def s1096 (a0 : List S1124) (a1 : S1124 → Bool) : Bool :=
 decide (0 ≤ (s1137 a0 a1))
theorem c1096 {g : List (Nat × List Value)} (a0 : List S1124) (a1 : S1124 → Bool) {ca1 : G} {ia1 : FuncId} {ka1 : List G} (ha1 : FnIs ca1 ia1 ka1) (Ka1 : Known Tryz.prog ia1) (Ha1 : ∀ (x0 : S1124), Con (EG g) ia1 ([G.agg [G.str x0.Name, G.int x0.Start, G.int x0.End, G.int x0.Size, G.str x0.Terminal]] ++ ka1) (G.bool (a1 x0)))   : Con (EG g) 81 [G.sl 5 (List.map S1124.c a0), ca1] (G.bool (s1096 a0 a1)) := by
 generalize hR : s1096 a0 a1 = R;unfold s1096 at hR;refine con_of_aw Tryz.func81 rfl rfl fun w0 M0 => ?_;refine len_sl (f := S1124.c) (l := a0) 0 rfl fun hla0 => ?_;refine aw_seq ?_;refine aw_region [.p] ?_;refine st rfl rfl (eff_assigng rfl rfl) rfl ?_;refine st_nil ?_;refine aw_seq ?_;refine aw_region [.p, .p, .p, .p, .p] ?_;refine st rfl rfl (eff_moveg rfl rfl) rfl ?_;refine st rfl rfl (eff_moveg rfl rfl) rfl ?_;refine st rfl rfl (eff_call rfl K1137 rfl (c1137 a0 a1 ha1 Ka1 Ha1) (ag_cons rfl (ag_cons rfl ag_nil))) rfl ?_;refine st rfl rfl (eff_geq rfl rfl rfl) rfl ?_;refine st rfl rfl (eff_assigng rfl rfl) rfl ?_;refine st_nil ?_;refine aw_ret ?_;subst hR;exact res_c rfl (rv_g rfl)
def s1095 (a0 : S1124) (a1 : List S1124) : Int :=
 (s1085 [(s1086 (!(s147 a0.Name)) 8), (s1086 (s1096 a1 (fun x0 => s1097 x0 a0)) 9), (s1098 a0.Start), (s1098 a0.End), (s1086 (decide (a0.End < a0.Start)) 11), (s1088 a0.Size 1 9), (s1089 a0.Terminal)])
theorem c1095 {g : List (Nat × List Value)} (a0 : S1124) (a1 : List S1124)    : Con (EG g) 80 [G.agg [G.str a0.Name, G.int a0.Start, G.int a0.End, G.int a0.Size, G.str a0.Terminal], G.sl 5 (List.map S1124.c a1)] (G.int (s1095 a0 a1)) := by
 generalize hR : s1095 a0 a1 = R;unfold s1095 at hR;refine con_of_aw Tryz.func80 rfl rfl fun w0 M0 => ?_;refine len_sl (f := S1124.c) (l := a1) 1 rfl fun hla1 => ?_;refine aw_seq ?_;refine aw_region [.p, .p] ?_;refine st rfl rfl (eff_box rfl rfl) rfl ?_;refine st rfl rfl (eff_assigng rfl rfl) rfl ?_;refine st_nil ?_;refine aw_seq ?_;refine aw_region [.p, .p, .p, .p] ?_;refine st rfl rfl (eff_moveg rfl rfl) rfl ?_;refine st rfl rfl (eff_makeF rfl rfl rfl) rfl ?_;refine st rfl rfl (eff_call rfl K1096 rfl (c1096 a1 (fun x0 => s1097 x0 a0) fnis_fn K1097 (fun x0 => c1097 x0 a0)) (ag_cons rfl (ag_cons rfl ag_nil))) rfl ?_;refine st rfl rfl (eff_assigng rfl rfl) rfl ?_;refine st_nil ?_;refine aw_seq ?_;refine aw_draw [.p, .p, .p, .p, .p, .p, .p, .p, .p, .p, .p, .p, .p, .p, .p, .p, .p, .p, .p, .p, .p, .p, .p, .p, .p, .p, .p, .p] (by kernel_rfl) ?_;refine st rfl rfl (eff_fieldAddr rfl fl1125_0 rfl) rfl ?_;refine st rfl rfl (eff_load rfl ty9 rfl) rfl ?_;refine st rfl rfl (eff_call rfl K147 rfl (c147 a0.Name) (ag_cons rfl ag_nil)) rfl ?_;refine st rfl rfl (eff_not rfl rfl) rfl ?_;refine st rfl rfl (eff_call rfl K1086 rfl (c1086 (!(s147 a0.Name)) 8) (ag_cons rfl (ag_cons rfl ag_nil))) rfl ?_;refine st rfl rfl (eff_moveg rfl rfl) rfl ?_;refine st rfl rfl (eff_call rfl K1086 rfl (c1086 (s1096 a1 (fun x0 => s1097 x0 a0)) 9) (ag_cons rfl (ag_cons rfl ag_nil))) rfl ?_;refine st rfl rfl (eff_fieldAddr rfl fl1125_1 rfl) rfl ?_;refine st rfl rfl (eff_load rfl ty3 rfl) rfl ?_;refine st rfl rfl (eff_call rfl K1098 rfl (c1098 a0.Start) (ag_cons rfl ag_nil)) rfl ?_;refine st rfl rfl (eff_fieldAddr rfl fl1125_2 rfl) rfl ?_;refine st rfl rfl (eff_load rfl ty3 rfl) rfl ?_;refine st rfl rfl (eff_call rfl K1098 rfl (c1098 a0.End) (ag_cons rfl ag_nil)) rfl ?_;refine st rfl rfl (eff_fieldAddr rfl fl1125_2 rfl) rfl ?_;refine st rfl rfl (eff_load rfl ty3 rfl) rfl ?_;refine st rfl rfl (eff_fieldAddr rfl fl1125_1 rfl) rfl ?_;refine st rfl rfl (eff_load rfl ty3 rfl) rfl ?_;refine st rfl rfl (eff_lss rfl rfl rfl) rfl ?_;refine st rfl rfl (eff_call rfl K1086 rfl (c1086 (decide (a0.End < a0.Start)) 11) (ag_cons rfl (ag_cons rfl ag_nil))) rfl ?_;refine st rfl rfl (eff_fieldAddr rfl fl1125_3 rfl) rfl ?_;refine st rfl rfl (eff_load rfl ty3 rfl) rfl ?_;refine st rfl rfl (eff_call rfl K1088 rfl (c1088 a0.Size 1 9) (ag_cons rfl (ag_cons rfl (ag_cons rfl ag_nil)))) rfl ?_;refine st rfl rfl (eff_fieldAddr rfl fl1125_4 rfl) rfl ?_;refine st rfl rfl (eff_load rfl ty9 rfl) rfl ?_;refine st rfl rfl (eff_call rfl K1089 rfl (c1089 a0.Terminal) (ag_cons rfl ag_nil)) rfl ?_;refine st rfl rfl (eff_buildSlice rfl Tryz.underlying131 ty37 z37 rfl (ps_cons rfl (ps_cons rfl (ps_cons rfl (ps_cons rfl (ps_cons rfl (ps_cons rfl (ps_cons rfl ps_nil))))))) rfl (by simp []) (by decide)) rfl ?_;refine st rfl rfl (eff_call rfl K1085 rfl (c1085 [(s1086 (!(s147 a0.Name)) 8), (s1086 (s1096 a1 (fun x0 => s1097 x0 a0)) 9), (s1098 a0.Start), (s1098 a0.End), (s1086 (decide (a0.End < a0.Start)) 11), (s1088 a0.Size 1 9), (s1089 a0.Terminal)]) (ag_cons rfl ag_nil)) rfl ?_;refine st rfl rfl (eff_assigng rfl rfl) rfl ?_;refine st_nil ?_;refine aw_ret ?_;subst hR;exact res_c rfl (rv_g rfl)
def s1025 (a0 : List S1124) : Int :=
 (s1094 a0 256 s1095)
theorem c1025 {g : List (Nat × List Value)} (a0 : List S1124)    : Con (EG g) 33 [G.sl 5 (List.map S1124.c a0)] (G.int (s1025 a0)) := by
 generalize hR : s1025 a0 = R;unfold s1025 at hR;refine con_of_aw Tryz.func33 rfl rfl fun w0 M0 => ?_;refine len_sl (f := S1124.c) (l := a0) 0 rfl fun hla0 => ?_;refine aw_seq ?_;refine aw_region [.p] ?_;refine st rfl rfl (eff_assigng rfl rfl) rfl ?_;refine st_nil ?_;refine aw_seq ?_;refine aw_region [.p, .p, .p] ?_;refine st rfl rfl (eff_moveg rfl rfl) rfl ?_;refine st rfl rfl (eff_call rfl K1094 rfl (c1094 a0 256 s1095 fnis_lit K1095 (fun x0 x1 => c1095 x0 x1)) (ag_cons rfl (ag_cons rfl (ag_cons rfl ag_nil)))) rfl ?_;refine st rfl rfl (eff_assigng rfl rfl) rfl ?_;refine st_nil ?_;refine aw_ret ?_;subst hR;exact res_c rfl (rv_g rfl)
def s1081_l1 (a0 : List S1122) (a2 : S1122 → (List S1122) → Int) : List S1122 → Nat → Int
 | [], k2 => 0
 | y3 :: t4, k2 => (bif decide ((a2 y3 (List.take (Int.toNat ((k2 : Nat) : Int)) a0)) ≠ 0) then (a2 y3 (List.take (Int.toNat ((k2 : Nat) : Int)) a0)) else s1081_l1 a0 a2 t4 (k2 + 1))
def s1081 (a0 : List S1122) (a1 : Int) (a2 : S1122 → (List S1122) → Int) : Int :=
 (bif decide (a1 < (List.length a0 : Int)) then 5 else s1081_l1 a0 a2 a0 0)
theorem c1081 {g : List (Nat × List Value)} (a0 : List S1122) (a1 : Int) (a2 : S1122 → (List S1122) → Int) {ca2 : G} {ia2 : FuncId} {ka2 : List G} (ha2 : FnIs ca2 ia2 ka2) (Ka2 : Known Tryz.prog ia2) (Ha2 : ∀ (x0 : S1122) (x1 : List S1122), Con (EG g) ia2 ([G.agg [G.str x0.Name, G.int x0.Size, G.str x0.Terminal], G.sl 3 (List.map S1122.c x1)] ++ ka2) (G.int (a2 x0 x1)))   : Con (EG g) 129 [G.sl 3 (List.map S1122.c a0), G.int a1, ca2] (G.int (s1081 a0 a1 a2)) := by
 generalize hR : s1081 a0 a1 a2 = R;unfold s1081 at hR;refine con_of_aw Tryz.func129 rfl rfl fun w0 M0 => ?_;refine len_sl (f := S1122.c) (l := a0) 0 rfl fun hla0 => ?_;refine aw_seq ?_;refine aw_region [.p] ?_;refine st rfl rfl (eff_assigng rfl rfl) rfl ?_;refine st_nil ?_;refine aw_seq ?_;refine aw_seq ?_;refine aw_region [.p, .p, .p, .p] ?_;refine st rfl rfl (eff_moveg rfl rfl) rfl ?_;refine st rfl rfl (eff_lenM (f := S1122.c) (l := a0) rfl Tryz.underlying48 rfl) rfl ?_;refine st rfl rfl (eff_moveg rfl rfl) rfl ?_;refine st rfl rfl (eff_gtr rfl rfl rfl) rfl ?_;refine st_nil ?_;refine aw_cond _ rfl (fun h1 => ?_) (fun h1 => ?_)
 ·replace h1 : (decide (a1 < (List.length a0 : Int))) = true := h1;replace hR := condT hR h1;(try simp only [Bool.or_eq_true, Bool.and_eq_true, Bool.or_eq_false_iff, Bool.and_eq_false_iff, Bool.not_eq_true', Bool.not_eq_false', decide_eq_true_eq, decide_eq_false_iff_not] at h1);refine aw_seq ?_;refine aw_region [.p] ?_;refine st rfl rfl (eff_assigng rfl rfl) rfl ?_;refine st_nil ?_;refine aw_ret ?_;subst hR;exact res_c rfl (rv_g rfl)
 ·replace h1 : (decide (a1 < (List.length a0 : Int))) = false := h1;replace hR := condF hR h1;(try simp only [Bool.or_eq_true, Bool.and_eq_true, Bool.or_eq_false_iff, Bool.and_eq_false_iff, Bool.not_eq_true', Bool.not_eq_false', decide_eq_true_eq, decide_eq_false_iff_not] at h1);refine aw_skip ?_;refine aw_seq ?_;refine aw_seq ?_;refine aw_region [.p, .p, .p] ?_;refine st rfl rfl (eff_moveg rfl rfl) rfl ?_;refine st rfl rfl (eff_lenM (f := S1122.c) (l := a0) rfl Tryz.underlying48 rfl) rfl ?_;refine st rfl rfl (eff_moveg rfl rfl) rfl ?_;refine st_nil ?_;refine aw_block ?_;refine aw_loop_g (γ := Nat × (List S1122)) (fun g => ([(0, .g (G.sl 3 (List.map S1122.c a0))), (2, .g (ca2)), (14, .g (G.sl 3 (List.map S1122.c a0))), (15, .g (G.int (List.length a0 : Int))), (16, .g (G.int ((g.1 : Nat) : Int)))], [])) (fun g => a0.drop g.1 = g.2 ∧ s1081_l1 a0 a2 g.2 g.1 = R) (fun g => List.length g.2) ⟨rfl, (0, a0), ⟨rfl, rfl, rfl, rfl, rfl, trivial⟩, trivial, rfl, ⟨rfl, hR⟩, trivial⟩ ?_
  ·rintro ⟨k2, t4⟩ ⟨hd, hR⟩;replace hd : a0.drop k2 = t4 := hd;replace hR : s1081_l1 a0 a2 t4 k2 = R := hR;refine aw_seq ?_;refine aw_region [.p] ?_;refine st rfl rfl (eff_lss rfl rfl rfl) rfl ?_;refine st_nil ?_;refine len_sl (f := S1122.c) (l := a0) 0 rfl fun hlz1 => ?_;refine aw_seq ?_;refine aw_cond _ rfl (fun h2 => ?_) (fun h2 => ?_)
   ·replace h2 : (decide (((k2 : Nat) : Int) < (List.length a0 : Int))) = true := h2;obtain ⟨y3, t4, rfl, hx1, hd⟩ := drop_cons hd (decT h2);replace h2 := decT h2;rw [s1081_l1] at hR;(try dsimp only at hR);refine aw_skip ?_;refine aw_seq ?_;refine aw_block ?_;refine aw_seq ?_;refine aw_region [.p, .p, .p, .w, .p, .w] ?_;refine st rfl rfl (eff_moveg rfl rfl) rfl ?_;refine st rfl rfl (eff_ix (f := S1122.c) (l := a0) (a := y3) rfl Tryz.underlying48 ty1123 rfl rfl (Int.natCast_nonneg _) hx1) rfl ?_;refine st rfl rfl (eff_loadA rfl ty1123 rfl rfl rfl) rfl ?_;refine st_w rfl rfl (eff_alloc 8 rfl z1123 rfl rfl) rfl ?_;refine st rfl rfl (eff_assigng rfl rfl) rfl ?_;refine st_wn rfl rfl (eff_store (tv := .g (G.agg [G.str y3.Name, G.int y3.Size, G.str y3.Terminal])) rfl ty1123 rfl rfl rfl rfl rfl) ?_;refine st_nil ?_;refine aw_seq ?_;refine aw_draw [.p, .r, .p, .p, .p, .p, .p] (by kernel_rfl) ?_;refine st rfl rfl (eff_moveg rfl rfl) rfl ?_;refine st_r rfl rfl (eff_loadOA rfl ty1123 rfl rfl rfl rfl) rfl ?_;refine st rfl rfl (eff_moveg rfl rfl) rfl ?_;refine st rfl rfl (eff_moveg rfl rfl) rfl ?_;refine st rfl rfl (eff_slG (f := S1122.c) (l := a0) rfl Tryz.underlying48 ty1123 rfl bnd_none (bnd_some rfl (Int.natCast_nonneg _)) (Nat.zero_le _) (le_get hx1)) rfl ?_;refine st rfl rfl (eff_callf rfl ha2 Ka2 rfl (Ha2 y3 (List.take (Int.toNat ((k2 : Nat) : Int)) a0)) (ag_cons rfl (ag_cons rfl ag_nil))) rfl ?_;refine st rfl rfl (eff_assigng rfl rfl) rfl ?_;refine st_nil ?_;refine aw_seq ?_;refine aw_region [.p, .p] ?_;refine st rfl rfl (eff_moveg rfl rfl) rfl ?_;refine st rfl rfl (eff_neq rfl rfl rfl) rfl ?_;refine st_nil ?_;refine aw_cond _ rfl (fun h4 => ?_) (fun h4 => ?_)
    ·replace h4 : (decide ((a2 y3 (List.take (Int.toNat ((k2 : Nat) : Int)) a0)) ≠ 0)) = true := h4;replace hR := condT hR h4;(try simp only [Bool.or_eq_true, Bool.and_eq_true, Bool.or_eq_false_iff, Bool.and_eq_false_iff, Bool.not_eq_true', Bool.not_eq_false', decide_eq_true_eq, decide_eq_false_iff_not] at h4);refine aw_seq ?_;refine aw_region [.p, .p] ?_;refine st rfl rfl (eff_moveg rfl rfl) rfl ?_;refine st rfl rfl (eff_assigng rfl rfl) rfl ?_;refine st_nil ?_;refine aw_ret ?_;subst hR;exact res_c rfl (rv_g rfl)
    ·replace h4 : (decide ((a2 y3 (List.take (Int.toNat ((k2 : Nat) : Int)) a0)) ≠ 0)) = false := h4;replace hR := condF hR h4;(try simp only [Bool.or_eq_true, Bool.and_eq_true, Bool.or_eq_false_iff, Bool.and_eq_false_iff, Bool.not_eq_true', Bool.not_eq_false', decide_eq_true_eq, decide_eq_false_iff_not] at h4);refine aw_skip ?_;refine aw_region [.p, .p] ?_;refine st rfl rfl (eff_add rfl rfl rfl (by unfold I64; omega)) rfl ?_;refine st rfl rfl (eff_moveg rfl rfl) rfl ?_;refine st_nil ?_;exact ⟨rfl, (k2 + 1, t4), ⟨rfl, rfl, rfl, rfl, rfl, trivial⟩, trivial, rfl, ⟨hd, hR⟩, by simp⟩
   ·replace h2 : (decide (((k2 : Nat) : Int) < (List.length a0 : Int))) = false := h2;obtain rfl := drop_nil hd (decF h2);rw [s1081_l1] at hR;refine aw_exit ?_;refine aw_seq ?_;refine aw_region [.p] ?_;refine st rfl rfl (eff_assigng rfl rfl) rfl ?_;refine st_nil ?_;refine aw_ret ?_;subst hR;exact res_c rfl (rv_g rfl)
def s1084 (a0 : S1122) (a1 : S1122) : Bool :=
 decide (a0.Name = a1.Name)
theorem c1084 {g : List (Nat × List Value)} (a0 : S1122) (a1 : S1122)    : Con (EG g) 132 [G.agg [G.str a0.Name, G.int a0.Size, G.str a0.Terminal], G.ref [G.str a1.Name, G.int a1.Size, G.str a1.Terminal]] (G.bool (s1084 a0 a1)) := by
 generalize hR : s1084 a0 a1 = R;unfold s1084 at hR;refine con_of_aw Tryz.func132 rfl rfl fun w0 M0 => ?_;refine aw_seq ?_;refine aw_region [.p, .p] ?_;refine st rfl rfl (eff_box rfl rfl) rfl ?_;refine st rfl rfl (eff_assigng rfl rfl) rfl ?_;refine st_nil ?_;refine aw_seq ?_;refine aw_region [.p, .p, .p, .p, .p, .p] ?_;refine st rfl rfl (eff_fieldAddr rfl fl1123_0 rfl) rfl ?_;refine st rfl rfl (eff_load rfl ty9 rfl) rfl ?_;refine st rfl rfl (eff_fieldAddr rfl fl1123_0 rfl) rfl ?_;refine st rfl rfl (eff_load rfl ty9 rfl) rfl ?_;refine st rfl rfl (eff_seq rfl rfl rfl) rfl ?_;refine st rfl rfl (eff_assigng rfl rfl) rfl ?_;refine st_nil ?_;refine aw_ret ?_;subst hR;exact res_c rfl (rv_g rfl)
def s1136_l1 (a1 : S1122 → Bool) : List S1122 → Nat → Int
 | [], k2 => (-1)
 | y3 :: t4, k2 => (bif (a1 y3) then ((k2 : Nat) : Int) else s1136_l1 a1 t4 (k2 + 1))
def s1136 (a0 : List S1122) (a1 : S1122 → Bool) : Int :=
 s1136_l1 a1 a0 0
theorem c1136 {g : List (Nat × List Value)} (a0 : List S1122) (a1 : S1122 → Bool) {ca1 : G} {ia1 : FuncId} {ka1 : List G} (ha1 : FnIs ca1 ia1 ka1) (Ka1 : Known Tryz.prog ia1) (Ha1 : ∀ (x0 : S1122), Con (EG g) ia1 ([G.agg [G.str x0.Name, G.int x0.Size, G.str x0.Terminal]] ++ ka1) (G.bool (a1 x0)))   : Con (EG g) 165 [G.sl 3 (List.map S1122.c a0), ca1] (G.int (s1136 a0 a1)) := by
 generalize hR : s1136 a0 a1 = R;unfold s1136 at hR;refine con_of_aw Tryz.func165 rfl rfl fun w0 M0 => ?_;refine len_sl (f := S1122.c) (l := a0) 0 rfl fun hla0 => ?_;refine aw_seq ?_;refine aw_region [.p] ?_;refine st rfl rfl (eff_assigng rfl rfl) rfl ?_;refine st_nil ?_;refine aw_seq ?_;refine aw_seq ?_;refine aw_region [.p, .p, .p] ?_;refine st rfl rfl (eff_moveg rfl rfl) rfl ?_;refine st rfl rfl (eff_lenM (f := S1122.c) (l := a0) rfl Tryz.underlying48 rfl) rfl ?_;refine st rfl rfl (eff_moveg rfl rfl) rfl ?_;refine st_nil ?_;refine aw_block ?_;refine aw_loop_g (γ := Nat × (List S1122)) (fun g => ([(0, .g (G.sl 3 (List.map S1122.c a0))), (1, .g (ca1)), (7, .g (G.int (List.length a0 : Int))), (8, .g (G.int ((g.1 : Nat) : Int)))], [])) (fun g => a0.drop g.1 = g.2 ∧ s1136_l1 a1 g.2 g.1 = R) (fun g => List.length g.2) ⟨rfl, (0, a0), ⟨rfl, rfl, rfl, rfl, trivial⟩, trivial, rfl, ⟨rfl, hR⟩, trivial⟩ ?_
 ·rintro ⟨k2, t4⟩ ⟨hd, hR⟩;replace hd : a0.drop k2 = t4 := hd;replace hR : s1136_l1 a1 t4 k2 = R := hR;refine aw_seq ?_;refine aw_region [.p] ?_;refine st rfl rfl (eff_lss rfl rfl rfl) rfl ?_;refine st_nil ?_;refine len_sl (f := S1122.c) (l := a0) 0 rfl fun hlz1 => ?_;refine aw_seq ?_;refine aw_cond _ rfl (fun h1 => ?_) (fun h1 => ?_)
  ·replace h1 : (decide (((k2 : Nat) : Int) < (List.length a0 : Int))) = true := h1;obtain ⟨y3, t4, rfl, hx1, hd⟩ := drop_cons hd (decT h1);replace h1 := decT h1;rw [s1136_l1] at hR;(try dsimp only at hR);refine aw_skip ?_;refine aw_seq ?_;refine aw_block ?_;refine aw_seq ?_;refine aw_region [.p, .p] ?_;refine st rfl rfl (eff_moveg rfl rfl) rfl ?_;refine st rfl rfl (eff_assigng rfl rfl) rfl ?_;refine st_nil ?_;refine aw_seq ?_;refine aw_region [.p, .p, .p, .p, .p, .p] ?_;refine st rfl rfl (eff_moveg rfl rfl) rfl ?_;refine st rfl rfl (eff_moveg rfl rfl) rfl ?_;refine st rfl rfl (eff_moveg rfl rfl) rfl ?_;refine st rfl rfl (eff_ix (f := S1122.c) (l := a0) (a := y3) rfl Tryz.underlying48 ty1123 rfl rfl (Int.natCast_nonneg _) hx1) rfl ?_;refine st rfl rfl (eff_loadA rfl ty1123 rfl rfl rfl) rfl ?_;refine st rfl rfl (eff_callf rfl ha1 Ka1 rfl (Ha1 y3) (ag_cons rfl ag_nil)) rfl ?_;refine st_nil ?_;refine aw_cond _ rfl (fun h3 => ?_) (fun h3 => ?_)
   ·replace h3 : ((a1 y3)) = true := h3;replace hR := condT hR h3;(try simp only [Bool.or_eq_true, Bool.and_eq_true, Bool.or_eq_false_iff, Bool.and_eq_false_iff, Bool.not_eq_true', Bool.not_eq_false', decide_eq_true_eq, decide_eq_false_iff_not] at h3);refine aw_seq ?_;refine aw_region [.p, .p] ?_;refine st rfl rfl (eff_moveg rfl rfl) rfl ?_;refine st rfl rfl (eff_assigng rfl rfl) rfl ?_;refine st_nil ?_;refine aw_ret ?_;subst hR;exact res_c rfl (rv_g rfl)
   ·replace h3 : ((a1 y3)) = false := h3;replace hR := condF hR h3;(try simp only [Bool.or_eq_true, Bool.and_eq_true, Bool.or_eq_false_iff, Bool.and_eq_false_iff, Bool.not_eq_true', Bool.not_eq_false', decide_eq_true_eq, decide_eq_false_iff_not] at h3);refine aw_skip ?_;refine aw_region [.p, .p] ?_;refine st rfl rfl (eff_add rfl rfl rfl (by unfold I64; omega)) rfl ?_;refine st rfl rfl (eff_moveg rfl rfl) rfl ?_;refine st_nil ?_;exact ⟨rfl, (k2 + 1, t4), ⟨rfl, rfl, rfl, rfl, trivial⟩, trivial, rfl, ⟨hd, hR⟩, by simp⟩
  ·replace h1 : (decide (((k2 : Nat) : Int) < (List.length a0 : Int))) = false := h1;obtain rfl := drop_nil hd (decF h1);rw [s1136_l1] at hR;refine aw_exit ?_;refine aw_seq ?_;refine aw_region [.p] ?_;refine st rfl rfl (eff_assigng rfl rfl) rfl ?_;refine st_nil ?_;refine aw_ret ?_;subst hR;exact res_c rfl (rv_g rfl)
def s1083 (a0 : List S1122) (a1 : S1122 → Bool) : Bool :=
 decide (0 ≤ (s1136 a0 a1))
theorem c1083 {g : List (Nat × List Value)} (a0 : List S1122) (a1 : S1122 → Bool) {ca1 : G} {ia1 : FuncId} {ka1 : List G} (ha1 : FnIs ca1 ia1 ka1) (Ka1 : Known Tryz.prog ia1) (Ha1 : ∀ (x0 : S1122), Con (EG g) ia1 ([G.agg [G.str x0.Name, G.int x0.Size, G.str x0.Terminal]] ++ ka1) (G.bool (a1 x0)))   : Con (EG g) 131 [G.sl 3 (List.map S1122.c a0), ca1] (G.bool (s1083 a0 a1)) := by
 generalize hR : s1083 a0 a1 = R;unfold s1083 at hR;refine con_of_aw Tryz.func131 rfl rfl fun w0 M0 => ?_;refine len_sl (f := S1122.c) (l := a0) 0 rfl fun hla0 => ?_;refine aw_seq ?_;refine aw_region [.p] ?_;refine st rfl rfl (eff_assigng rfl rfl) rfl ?_;refine st_nil ?_;refine aw_seq ?_;refine aw_region [.p, .p, .p, .p, .p] ?_;refine st rfl rfl (eff_moveg rfl rfl) rfl ?_;refine st rfl rfl (eff_moveg rfl rfl) rfl ?_;refine st rfl rfl (eff_call rfl K1136 rfl (c1136 a0 a1 ha1 Ka1 Ha1) (ag_cons rfl (ag_cons rfl ag_nil))) rfl ?_;refine st rfl rfl (eff_geq rfl rfl rfl) rfl ?_;refine st rfl rfl (eff_assigng rfl rfl) rfl ?_;refine st_nil ?_;refine aw_ret ?_;subst hR;exact res_c rfl (rv_g rfl)
def s1082 (a0 : S1122) (a1 : List S1122) : Int :=
 (s1085 [(s1086 (!(s147 a0.Name)) 8), (s1086 (s1083 a1 (fun x0 => s1084 x0 a0)) 9), (s1088 a0.Size 1 9), (s1089 a0.Terminal)])
theorem c1082 {g : List (Nat × List Value)} (a0 : S1122) (a1 : List S1122)    : Con (EG g) 130 [G.agg [G.str a0.Name, G.int a0.Size, G.str a0.Terminal], G.sl 3 (List.map S1122.c a1)] (G.int (s1082 a0 a1)) := by
 generalize hR : s1082 a0 a1 = R;unfold s1082 at hR;refine con_of_aw Tryz.func130 rfl rfl fun w0 M0 => ?_;refine len_sl (f := S1122.c) (l := a1) 1 rfl fun hla1 => ?_;refine aw_seq ?_;refine aw_region [.p, .p] ?_;refine st rfl rfl (eff_box rfl rfl) rfl ?_;refine st rfl rfl (eff_assigng rfl rfl) rfl ?_;refine st_nil ?_;refine aw_seq ?_;refine aw_region [.p, .p, .p, .p] ?_;refine st rfl rfl (eff_moveg rfl rfl) rfl ?_;refine st rfl rfl (eff_makeF rfl rfl rfl) rfl ?_;refine st rfl rfl (eff_call rfl K1083 rfl (c1083 a1 (fun x0 => s1084 x0 a0) fnis_fn K1084 (fun x0 => c1084 x0 a0)) (ag_cons rfl (ag_cons rfl ag_nil))) rfl ?_;refine st rfl rfl (eff_assigng rfl rfl) rfl ?_;refine st_nil ?_;refine aw_seq ?_;refine aw_draw [.p, .p, .p, .p, .p, .p, .p, .p, .p, .p, .p, .p, .p, .p, .p, .p] (by kernel_rfl) ?_;refine st rfl rfl (eff_fieldAddr rfl fl1123_0 rfl) rfl ?_;refine st rfl rfl (eff_load rfl ty9 rfl) rfl ?_;refine st rfl rfl (eff_call rfl K147 rfl (c147 a0.Name) (ag_cons rfl ag_nil)) rfl ?_;refine st rfl rfl (eff_not rfl rfl) rfl ?_;refine st rfl rfl (eff_call rfl K1086 rfl (c1086 (!(s147 a0.Name)) 8) (ag_cons rfl (ag_cons rfl ag_nil))) rfl ?_;refine st rfl rfl (eff_moveg rfl rfl) rfl ?_;refine st rfl rfl (eff_call rfl K1086 rfl (c1086 (s1083 a1 (fun x0 => s1084 x0 a0)) 9) (ag_cons rfl (ag_cons rfl ag_nil))) rfl ?_;refine st rfl rfl (eff_fieldAddr rfl fl1123_1 rfl) rfl ?_;refine st rfl rfl (eff_load rfl ty3 rfl) rfl ?_;refine st rfl rfl (eff_call rfl K1088 rfl (c1088 a0.Size 1 9) (ag_cons rfl (ag_cons rfl (ag_cons rfl ag_nil)))) rfl ?_;refine st rfl rfl (eff_fieldAddr rfl fl1123_2 rfl) rfl ?_;refine st rfl rfl (eff_load rfl ty9 rfl) rfl ?_;refine st rfl rfl (eff_call rfl K1089 rfl (c1089 a0.Terminal) (ag_cons rfl ag_nil)) rfl ?_;refine st rfl rfl (eff_buildSlice rfl Tryz.underlying131 ty37 z37 rfl (ps_cons rfl (ps_cons rfl (ps_cons rfl (ps_cons rfl ps_nil)))) rfl (by simp []) (by decide)) rfl ?_;refine st rfl rfl (eff_call rfl K1085 rfl (c1085 [(s1086 (!(s147 a0.Name)) 8), (s1086 (s1083 a1 (fun x0 => s1084 x0 a0)) 9), (s1088 a0.Size 1 9), (s1089 a0.Terminal)]) (ag_cons rfl ag_nil)) rfl ?_;refine st rfl rfl (eff_assigng rfl rfl) rfl ?_;refine st_nil ?_;refine aw_ret ?_;subst hR;exact res_c rfl (rv_g rfl)
def s1023 (a0 : List S1122) : Int :=
 (s1081 a0 32 s1082)
theorem c1023 {g : List (Nat × List Value)} (a0 : List S1122)    : Con (EG g) 86 [G.sl 3 (List.map S1122.c a0)] (G.int (s1023 a0)) := by
 generalize hR : s1023 a0 = R;unfold s1023 at hR;refine con_of_aw Tryz.func86 rfl rfl fun w0 M0 => ?_;refine len_sl (f := S1122.c) (l := a0) 0 rfl fun hla0 => ?_;refine aw_seq ?_;refine aw_region [.p] ?_;refine st rfl rfl (eff_assigng rfl rfl) rfl ?_;refine st_nil ?_;refine aw_seq ?_;refine aw_region [.p, .p, .p] ?_;refine st rfl rfl (eff_moveg rfl rfl) rfl ?_;refine st rfl rfl (eff_call rfl K1081 rfl (c1081 a0 32 s1082 fnis_lit K1082 (fun x0 x1 => c1082 x0 x1)) (ag_cons rfl (ag_cons rfl (ag_cons rfl ag_nil)))) rfl ?_;refine st rfl rfl (eff_assigng rfl rfl) rfl ?_;refine st_nil ?_;refine aw_ret ?_;subst hR;exact res_c rfl (rv_g rfl)
end Go.Sim
set_option maxRecDepth 10000
namespace Go.Sim
open Go.Proofs
def s1123 (a0 : Int) : Int :=
 (s1088 a0 0 240)
theorem c1123 {g : List (Nat × List Value)} (a0 : Int)    : Con (EG g) 34 [G.int a0] (G.int (s1123 a0)) := by
 generalize hR : s1123 a0 = R;unfold s1123 at hR;refine con_of_aw Tryz.func34 rfl rfl fun w0 M0 => ?_;refine aw_seq ?_;refine aw_region [.p] ?_;refine st rfl rfl (eff_assigng rfl rfl) rfl ?_;refine st_nil ?_;refine aw_seq ?_;refine aw_region [.p, .p, .p] ?_;refine st rfl rfl (eff_moveg rfl rfl) rfl ?_;refine st rfl rfl (eff_call rfl K1088 rfl (c1088 a0 0 240) (ag_cons rfl (ag_cons rfl (ag_cons rfl ag_nil)))) rfl ?_;refine st rfl rfl (eff_assigng rfl rfl) rfl ?_;refine st_nil ?_;refine aw_ret ?_;subst hR;exact res_c rfl (rv_g rfl)
def s1129 (a0 : S1124) (a1 : Int) (a2 : Int) : Bool :=
 (decide (a0.Start ≤ a1)) && (decide (a1 < IntKind.i64.wrap (a0.End + a2)))
theorem c1129 {g : List (Nat × List Value)} (a0 : S1124) (a1 : Int) (a2 : Int)    : Con (EG g) 85 [G.agg [G.str a0.Name, G.int a0.Start, G.int a0.End, G.int a0.Size, G.str a0.Terminal], G.int a1, G.int a2] (G.bool (s1129 a0 a1 a2)) := by
 generalize hR : s1129 a0 a1 a2 = R;unfold s1129 at hR;refine con_of_aw Tryz.func85 rfl rfl fun w0 M0 => ?_;refine aw_seq ?_;refine aw_region [.p, .p] ?_;refine st rfl rfl (eff_box rfl rfl) rfl ?_;refine st rfl rfl (eff_assigng rfl rfl) rfl ?_;refine st_nil ?_;refine aw_seq ?_;refine aw_region [.p, .p, .p, .p, .p, .p, .p, .p, .p, .p, .p, .p, .p] ?_;refine st rfl rfl (eff_fieldAddr rfl fl1125_1 rfl) rfl ?_;refine st rfl rfl (eff_load rfl ty3 rfl) rfl ?_;refine st rfl rfl (eff_moveg rfl rfl) rfl ?_;refine st rfl rfl (eff_leq rfl rfl rfl) rfl ?_;refine st rfl rfl (eff_moveg rfl rfl) rfl ?_;refine st_g rfl rfl rfl (gb_bool _ _) (fun h => eff_moveg rfl rfl) rfl ?_;refine st_g rfl rfl rfl (gb_bool _ _) (fun h => eff_fieldAddr rfl fl1125_2 rfl) rfl ?_;refine st_g rfl rfl rfl (gb_bool _ _) (fun h => eff_load rfl ty3 (gd h rfl)) rfl ?_;refine st_g rfl rfl rfl (gb_bool _ _) (fun h => eff_moveg rfl rfl) rfl ?_;refine st_g rfl rfl rfl (gb_bool _ _) (fun h => eff_addw rfl (gd h rfl) (gd h rfl)) rfl ?_;refine st_g rfl rfl rfl (gb_bool _ _) (fun h => eff_lss rfl (gd h rfl) (gd h rfl)) rfl ?_;refine st rfl rfl (eff_and rfl rfl rfl rfl) rfl ?_;refine st rfl rfl (eff_assigng rfl rfl) rfl ?_;refine st_nil ?_;refine aw_ret ?_;subst hR;exact res_c rfl (rv_g rfl)
def s1130 (a0 : S1124) (a1 : S1124) (a2 : Int) : Bool :=
 decide (max a0.Start a1.Start < IntKind.i64.wrap ((min a0.End a1.End) + a2))
theorem c1130 {g : List (Nat × List Value)} (a0 : S1124) (a1 : S1124) (a2 : Int)    : Con (EG g) 136 [G.agg [G.str a0.Name, G.int a0.Start, G.int a0.End, G.int a0.Size, G.str a0.Terminal], G.agg [G.str a1.Name, G.int a1.Start, G.int a1.End, G.int a1.Size, G.str a1.Terminal], G.int a2] (G.bool (s1130 a0 a1 a2)) := by
 generalize hR : s1130 a0 a1 a2 = R;unfold s1130 at hR;refine con_of_aw Tryz.func136 rfl rfl fun w0 M0 => ?_;refine aw_seq ?_;refine aw_region [.p, .p, .p] ?_;refine st rfl rfl (eff_box rfl rfl) rfl ?_;refine st rfl rfl (eff_box rfl rfl) rfl ?_;refine st rfl rfl (eff_assigng rfl rfl) rfl ?_;refine st_nil ?_;refine aw_seq ?_;refine aw_region [.p, .p, .p, .p, .p, .p, .p, .p, .p, .p, .p, .p, .p, .p] ?_;refine st rfl rfl (eff_fieldAddr rfl fl1125_1 rfl) rfl ?_;refine st rfl rfl (eff_load rfl ty3 rfl) rfl ?_;refine st rfl rfl (eff_fieldAddr rfl fl1125_1 rfl) rfl ?_;refine st rfl rfl (eff_load rfl ty3 rfl) rfl ?_;refine st rfl rfl (eff_max rfl rfl rfl) rfl ?_;refine st rfl rfl (eff_fieldAddr rfl fl1125_2 rfl) rfl ?_;refine st rfl rfl (eff_load rfl ty3 rfl) rfl ?_;refine st rfl rfl (eff_fieldAddr rfl fl1125_2 rfl) rfl ?_;refine st rfl rfl (eff_load rfl ty3 rfl) rfl ?_;refine st rfl rfl (eff_min rfl rfl rfl) rfl ?_;refine st rfl rfl (eff_moveg rfl rfl) rfl ?_;refine st rfl rfl (eff_addw rfl rfl rfl) rfl ?_;refine st rfl rfl (eff_lss rfl rfl rfl) rfl ?_;refine st rfl rfl (eff_assigng rfl rfl) rfl ?_;refine st_nil ?_;refine aw_ret ?_;subst hR;exact res_c rfl (rv_g rfl)
def s1126 (a0 : ByteArray) (a1 : ByteArray) : Bool :=
 ((decide (a0 = a1)) || (decide (a0 = (⟨#[]⟩)))) || (decide (a1 = (⟨#[]⟩)))
theorem c1126 {g : List (Nat × List Value)} (a0 : ByteArray) (a1 : ByteArray)    : Con (EG g) 32 [G.str a0, G.str a1] (G.bool (s1126 a0 a1)) := by
 generalize hR : s1126 a0 a1 = R;unfold s1126 at hR;refine con_of_aw Tryz.func32 rfl rfl fun w0 M0 => ?_;refine aw_seq ?_;refine aw_region [.p] ?_;refine st rfl rfl (eff_assigng rfl rfl) rfl ?_;refine st_nil ?_;refine aw_seq ?_;refine aw_region [.p, .p, .p, .p, .p, .p, .p, .p, .p, .p, .p, .p] ?_;refine st rfl rfl (eff_moveg rfl rfl) rfl ?_;refine st rfl rfl (eff_moveg rfl rfl) rfl ?_;refine st rfl rfl (eff_seq rfl rfl rfl) rfl ?_;refine st rfl rfl (eff_moveg rfl rfl) rfl ?_;refine st_g rfl rfl rfl (gb_bool _ _) (fun h => eff_moveg rfl rfl) rfl ?_;refine st_g rfl rfl rfl (gb_bool _ _) (fun h => eff_seq rfl (gd h rfl) rfl) rfl ?_;refine st rfl rfl (eff_or rfl rfl rfl rfl) rfl ?_;refine st rfl rfl (eff_moveg rfl rfl) rfl ?_;refine st_g rfl rfl rfl (gb_bool _ _) (fun h => eff_moveg rfl rfl) rfl ?_;refine st_g rfl rfl rfl (gb_bool _ _) (fun h => eff_seq rfl (gd h rfl) rfl) rfl ?_;refine st rfl rfl (eff_or rfl rfl rfl rfl) rfl ?_;refine st rfl rfl (eff_assigng rfl rfl) rfl ?_;refine st_nil ?_;refine aw_ret ?_;subst hR;exact res_c rfl (rv_g rfl)
def s1128 (a0 : S1124) (a1 : S1122) : Bool :=
 (decide (a0.Size ≤ a1.Size)) && (s1126 a0.Terminal a1.Terminal)
theorem c1128 {g : List (Nat × List Value)} (a0 : S1124) (a1 : S1122)    : Con (EG g) 91 [G.agg [G.str a0.Name, G.int a0.Start, G.int a0.End, G.int a0.Size, G.str a0.Terminal], G.agg [G.str a1.Name, G.int a1.Size, G.str a1.Terminal]] (G.bool (s1128 a0 a1)) := by
 generalize hR : s1128 a0 a1 = R;unfold s1128 at hR;refine con_of_aw Tryz.func91 rfl rfl fun w0 M0 => ?_;refine aw_seq ?_;refine aw_region [.p, .p, .p] ?_;refine st rfl rfl (eff_box rfl rfl) rfl ?_;refine st rfl rfl (eff_box rfl rfl) rfl ?_;refine st rfl rfl (eff_assigng rfl rfl) rfl ?_;refine st_nil ?_;refine aw_seq ?_;refine aw_region [.p, .p, .p, .p, .p, .p, .p, .p, .p, .p, .p, .p, .p] ?_;refine st rfl rfl (eff_fieldAddr rfl fl1125_3 rfl) rfl ?_;refine st rfl rfl (eff_load rfl ty3 rfl) rfl ?_;refine st rfl rfl (eff_fieldAddr rfl fl1123_1 rfl) rfl ?_;refine st rfl rfl (eff_load rfl ty3 rfl) rfl ?_;refine st rfl rfl (eff_leq rfl rfl rfl) rfl ?_;refine st rfl rfl (eff_moveg rfl rfl) rfl ?_;refine st_g rfl rfl rfl (gb_bool _ _) (fun h => eff_fieldAddr rfl fl1125_4 rfl) rfl ?_;refine st_g rfl rfl rfl (gb_bool _ _) (fun h => eff_load rfl ty9 (gd h rfl)) rfl ?_;refine st_g rfl rfl rfl (gb_bool _ _) (fun h => eff_fieldAddr rfl fl1123_2 rfl) rfl ?_;refine st_g rfl rfl rfl (gb_bool _ _) (fun h => eff_load rfl ty9 (gd h rfl)) rfl ?_;refine st_g rfl rfl rfl (gb_bool _ _) (fun h => eff_call rfl K1126 rfl (c1126 a0.Terminal a1.Terminal) (ag_cons (gd h rfl) (ag_cons (gd h rfl) ag_nil))) rfl ?_;refine st rfl rfl (eff_and rfl rfl rfl rfl) rfl ?_;refine st rfl rfl (eff_assigng rfl rfl) rfl ?_;refine st_nil ?_;refine aw_ret ?_;subst hR;exact res_c rfl (rv_g rfl)
def s1064_j1 (a0 : S1079) (a1 : S1079) (x1 : ByteArray) : S1124 × Int :=
 ((S1124.mk a0.Name a0.Moment a1.Moment a0.Size x1), 0)
def s1064 (a0 : S1079) (a1 : S1079) (a2 : Int) (a3 : Int) : S1124 × Int :=
 (bif decide ((s1085 [(s1027 [a0]), (s1086 (!decide (a0.Kind = (⟨#[65]⟩))) 13), (s1027 [a1]), (s1086 (!decide (a1.Kind = (⟨#[68]⟩))) 13), (s1088 a2 0 10080), (s1088 a3 0 10080), (s1086 (decide (a3 < a2)) 11)]) ≠ 0) then ((S1124.mk ByteArray.empty 0 0 0 ByteArray.empty), (s1085 [(s1027 [a0]), (s1086 (!decide (a0.Kind = (⟨#[65]⟩))) 13), (s1027 [a1]), (s1086 (!decide (a1.Kind = (⟨#[68]⟩))) 13), (s1088 a2 0 10080), (s1088 a3 0 10080), (s1086 (decide (a3 < a2)) 11)])) else (bif (((decide (IntKind.i64.wrap (a1.Moment - a0.Moment) < a2)) || (decide (a3 < IntKind.i64.wrap (a1.Moment - a0.Moment)))) || (decide (a0.Size ≠ a1.Size))) || (!(s1126 a0.Terminal a1.Terminal)) then ((S1124.mk ByteArray.empty 0 0 0 ByteArray.empty), 32) else (bif decide (a0.Terminal = (⟨#[]⟩)) then s1064_j1 a0 a1 a1.Terminal else s1064_j1 a0 a1 a0.Terminal)))
theorem c1064 {g : List (Nat × List Value)} (a0 : S1079) (a1 : S1079) (a2 : Int) (a3 : Int)    : Con (EG g) 10 [G.agg [G.int a0.Moment, G.str a0.Kind, G.str a0.Terminal, G.int a0.Seats, G.int a0.Size, G.int a0.Noise, G.str a0.Name], G.agg [G.int a1.Moment, G.str a1.Kind, G.str a1.Terminal, G.int a1.Seats, G.int a1.Size, G.int a1.Noise, G.str a1.Name], G.int a2, G.int a3] (G.tup [G.agg [G.str ((s1064 a0 a1 a2 a3).1.Name), G.int ((s1064 a0 a1 a2 a3).1.Start), G.int ((s1064 a0 a1 a2 a3).1.End), G.int ((s1064 a0 a1 a2 a3).1.Size), G.str ((s1064 a0 a1 a2 a3).1.Terminal)], G.int ((s1064 a0 a1 a2 a3).2)]) := by
 generalize hR : s1064 a0 a1 a2 a3 = R;unfold s1064 at hR;refine con_of_aw Tryz.func10 rfl rfl fun w0 M0 => ?_;refine aw_seq ?_;refine aw_region [.p, .p, .w, .p] ?_;refine st rfl rfl (eff_box rfl rfl) rfl ?_;refine st rfl rfl (eff_box rfl rfl) rfl ?_;refine st_w rfl rfl (eff_alloc 8 rfl z1125 rfl rfl) rfl ?_;refine st rfl rfl (eff_assigng rfl rfl) rfl ?_;refine st_nil ?_;refine aw_seq ?_;refine aw_draw [.p, .p, .p, .p, .p, .p, .p, .p, .p, .p, .p, .p, .p, .p, .p, .p, .p, .p, .p, .p, .p, .p, .p, .p, .p] (by kernel_rfl) ?_;refine st rfl rfl (eff_loadA rfl ty1080 rfl rfl rfl) rfl ?_;refine st rfl rfl (eff_buildSlice rfl Tryz.underlying25 ty1080 z1080 rfl (ps_cons rfl ps_nil) rfl (by simp [S1079.c]) (by decide)) rfl ?_;refine st rfl rfl (eff_call rfl K1027 rfl (c1027 [a0]) (ag_cons rfl ag_nil)) rfl ?_;refine st rfl rfl (eff_fieldAddr rfl fl1080_1 rfl) rfl ?_;refine st rfl rfl (eff_load rfl ty9 rfl) rfl ?_;refine st rfl rfl (eff_sne rfl rfl rfl) rfl ?_;refine st rfl rfl (eff_call rfl K1086 rfl (c1086 (!decide (a0.Kind = (⟨#[65]⟩))) 13) (ag_cons rfl (ag_cons rfl ag_nil))) rfl ?_;refine st rfl rfl (eff_loadA rfl ty1080 rfl rfl rfl) rfl ?_;refine st rfl rfl (eff_buildSlice rfl Tryz.underlying25 ty1080 z1080 rfl (ps_cons rfl ps_nil) rfl (by simp [S1079.c]) (by decide)) rfl ?_;refine st rfl rfl (eff_call rfl K1027 rfl (c1027 [a1]) (ag_cons rfl ag_nil)) rfl ?_;refine st rfl rfl (eff_fieldAddr rfl fl1080_1 rfl) rfl ?_;refine st rfl rfl (eff_load rfl ty9 rfl) rfl ?_;refine st rfl rfl (eff_sne rfl rfl rfl) rfl ?_;refine st rfl rfl (eff_call rfl K1086 rfl (c1086 (!decide (a1.Kind = (⟨#[68]⟩))) 13) (ag_cons rfl (ag_cons rfl ag_nil))) rfl ?_;refine st rfl rfl (eff_moveg rfl rfl) rfl ?_;refine st rfl rfl (eff_call rfl K1088 rfl (c1088 a2 0 10080) (ag_cons rfl (ag_cons rfl (ag_cons rfl ag_nil)))) rfl ?_;refine st rfl rfl (eff_moveg rfl rfl) rfl ?_;refine st rfl rfl (eff_call rfl K1088 rfl (c1088 a3 0 10080) (ag_cons rfl (ag_cons rfl (ag_cons rfl ag_nil)))) rfl ?_;refine st rfl rfl (eff_moveg rfl rfl) rfl ?_;refine st rfl rfl (eff_moveg rfl rfl) rfl ?_;refine st rfl rfl (eff_lss rfl rfl rfl) rfl ?_;refine st rfl rfl (eff_call rfl K1086 rfl (c1086 (decide (a3 < a2)) 11) (ag_cons rfl (ag_cons rfl ag_nil))) rfl ?_;refine st rfl rfl (eff_buildSlice rfl Tryz.underlying131 ty37 z37 rfl (ps_cons rfl (ps_cons rfl (ps_cons rfl (ps_cons rfl (ps_cons rfl (ps_cons rfl (ps_cons rfl ps_nil))))))) rfl (by simp []) (by decide)) rfl ?_;refine st rfl rfl (eff_call rfl K1085 rfl (c1085 [(s1027 [a0]), (s1086 (!decide (a0.Kind = (⟨#[65]⟩))) 13), (s1027 [a1]), (s1086 (!decide (a1.Kind = (⟨#[68]⟩))) 13), (s1088 a2 0 10080), (s1088 a3 0 10080), (s1086 (decide (a3 < a2)) 11)]) (ag_cons rfl ag_nil)) rfl ?_;refine st rfl rfl (eff_assigng rfl rfl) rfl ?_;refine st_nil ?_;refine aw_seq ?_;refine aw_seq ?_;refine aw_region [.p, .p] ?_;refine st rfl rfl (eff_moveg rfl rfl) rfl ?_;refine st rfl rfl (eff_neq rfl rfl rfl) rfl ?_;refine st_nil ?_;refine aw_cond _ rfl (fun h1 => ?_) (fun h1 => ?_)
 ·replace h1 : (decide ((s1085 [(s1027 [a0]), (s1086 (!decide (a0.Kind = (⟨#[65]⟩))) 13), (s1027 [a1]), (s1086 (!decide (a1.Kind = (⟨#[68]⟩))) 13), (s1088 a2 0 10080), (s1088 a3 0 10080), (s1086 (decide (a3 < a2)) 11)]) ≠ 0)) = true := h1;replace hR := condT hR h1;(try simp only [Bool.or_eq_true, Bool.and_eq_true, Bool.or_eq_false_iff, Bool.and_eq_false_iff, Bool.not_eq_true', Bool.not_eq_false', decide_eq_true_eq, decide_eq_false_iff_not] at h1);refine aw_seq ?_;refine aw_region [.p, .p, .w, .p] ?_;refine st rfl rfl (eff_build rfl z1125 rfl pl1125 pb_nil rfl) rfl ?_;refine st rfl rfl (eff_moveg rfl rfl) rfl ?_;refine st_wn rfl rfl (eff_store (tv := .g (G.agg [G.str ByteArray.empty, G.int 0, G.int 0, G.int 0, G.str ByteArray.empty])) rfl ty1125 rfl rfl rfl rfl rfl) ?_;refine st rfl rfl (eff_assigng rfl rfl) rfl ?_;refine st_nil ?_;refine aw_ret ?_;subst hR;exact resN rfl ⟨rv_cell rfl rfl ty1125 rfl rfl, rv_g rfl, trivial⟩ (by simp)
 ·replace h1 : (decide ((s1085 [(s1027 [a0]), (s1086 (!decide (a0.Kind = (⟨#[65]⟩))) 13), (s1027 [a1]), (s1086 (!decide (a1.Kind = (⟨#[68]⟩))) 13), (s1088 a2 0 10080), (s1088 a3 0 10080), (s1086 (decide (a3 < a2)) 11)]) ≠ 0)) = false := h1;replace hR := condF hR h1;(try simp only [Bool.or_eq_true, Bool.and_eq_true, Bool.or_eq_false_iff, Bool.and_eq_false_iff, Bool.not_eq_true', Bool.not_eq_false', decide_eq_true_eq, decide_eq_false_iff_not] at h1);refine aw_skip ?_;refine aw_seq ?_;refine aw_region [.p, .p, .p, .p, .p, .p] ?_;refine st rfl rfl (eff_fieldAddr rfl fl1080_0 rfl) rfl ?_;refine st rfl rfl (eff_load rfl ty3 rfl) rfl ?_;refine st rfl rfl (eff_fieldAddr rfl fl1080_0 rfl) rfl ?_;refine st rfl rfl (eff_load rfl ty3 rfl) rfl ?_;refine st rfl rfl (eff_subw rfl rfl rfl) rfl ?_;refine st rfl rfl (eff_assigng rfl rfl) rfl ?_;refine st_nil ?_;refine aw_seq ?_;refine aw_seq ?_;refine aw_region [.p, .p, .p, .p, .p, .p, .p, .p, .p, .p, .p, .p, .p, .p, .p, .p, .p, .p, .p, .p, .p, .p, .p] ?_;refine st rfl rfl (eff_moveg rfl rfl) rfl ?_;refine st rfl rfl (eff_moveg rfl rfl) rfl ?_;refine st rfl rfl (eff_lss rfl rfl rfl) rfl ?_;refine st rfl rfl (eff_moveg rfl rfl) rfl ?_;refine st_g rfl rfl rfl (gb_bool _ _) (fun h => eff_moveg rfl rfl) rfl ?_;refine st_g rfl rfl rfl (gb_bool _ _) (fun h => eff_moveg rfl rfl) rfl ?_;refine st_g rfl rfl rfl (gb_bool _ _) (fun h => eff_gtr rfl (gd h rfl) (gd h rfl)) rfl ?_;refine st rfl rfl (eff_or rfl rfl rfl rfl) rfl ?_;refine st rfl rfl (eff_moveg rfl rfl) rfl ?_;refine st_g rfl rfl rfl (gb_bool _ _) (fun h => eff_fieldAddr rfl fl1080_4 rfl) rfl ?_;refine st_g rfl rfl rfl (gb_bool _ _) (fun h => eff_load rfl ty3 (gd h rfl)) rfl ?_;refine st_g rfl rfl rfl (gb_bool _ _) (fun h => eff_fieldAddr rfl fl1080_4 rfl) rfl ?_;refine st_g rfl rfl rfl (gb_bool _ _) (fun h => eff_load rfl ty3 (gd h rfl)) rfl ?_;refine st_g rfl rfl rfl (gb_bool _ _) (fun h => eff_neq rfl (gd h rfl) (gd h rfl)) rfl ?_;refine st rfl rfl (eff_or rfl rfl rfl rfl) rfl ?_;refine st rfl rfl (eff_moveg rfl rfl) rfl ?_;refine st_g rfl rfl rfl (gb_bool _ _) (fun h => eff_fieldAddr rfl fl1080_2 rfl) rfl ?_;refine st_g rfl rfl rfl (gb_bool _ _) (fun h => eff_load rfl ty9 (gd h rfl)) rfl ?_;refine st_g rfl rfl rfl (gb_bool _ _) (fun h => eff_fieldAddr rfl fl1080_2 rfl) rfl ?_;refine st_g rfl rfl rfl (gb_bool _ _) (fun h => eff_load rfl ty9 (gd h rfl)) rfl ?_;refine st_g rfl rfl rfl (gb_bool _ _) (fun h => eff_call rfl K1126 rfl (c1126 a0.Terminal a1.Terminal) (ag_cons (gd h rfl) (ag_cons (gd h rfl) ag_nil))) rfl ?_;refine st_g rfl rfl rfl (gb_bool _ _) (fun h => eff_not rfl (gd h rfl)) rfl ?_;refine st rfl rfl (eff_or rfl rfl rfl rfl) rfl ?_;refine st_nil ?_;refine aw_cond _ rfl (fun h2 => ?_) (fun h2 => ?_)
  ·replace h2 : ((((decide (IntKind.i64.wrap (a1.Moment - a0.Moment) < a2)) || (decide (a3 < IntKind.i64.wrap (a1.Moment - a0.Moment)))) || (decide (a0.Size ≠ a1.Size))) || (!(s1126 a0.Terminal a1.Terminal))) = true := h2;replace hR := condT hR h2;(try simp only [Bool.or_eq_true, Bool.and_eq_true, Bool.or_eq_false_iff, Bool.and_eq_false_iff, Bool.not_eq_true', Bool.not_eq_false', decide_eq_true_eq, decide_eq_false_iff_not] at h2);refine aw_seq ?_;refine aw_region [.p, .w, .p] ?_;refine st rfl rfl (eff_build rfl z1125 rfl pl1125 pb_nil rfl) rfl ?_;refine st_wn rfl rfl (eff_store (tv := .g (G.agg [G.str ByteArray.empty, G.int 0, G.int 0, G.int 0, G.str ByteArray.empty])) rfl ty1125 rfl rfl rfl rfl rfl) ?_;refine st rfl rfl (eff_assigng rfl rfl) rfl ?_;refine st_nil ?_;refine aw_ret ?_;subst hR;exact resN rfl ⟨rv_cell rfl rfl ty1125 rfl rfl, rv_g rfl, trivial⟩ (by simp)
  ·replace h2 : ((((decide (IntKind.i64.wrap (a1.Moment - a0.Moment) < a2)) || (decide (a3 < IntKind.i64.wrap (a1.Moment - a0.Moment)))) || (decide (a0.Size ≠ a1.Size))) || (!(s1126 a0.Terminal a1.Terminal))) = false := h2;replace hR := condF hR h2;(try simp only [Bool.or_eq_true, Bool.and_eq_true, Bool.or_eq_false_iff, Bool.and_eq_false_iff, Bool.not_eq_true', Bool.not_eq_false', decide_eq_true_eq, decide_eq_false_iff_not] at h2);refine aw_skip ?_;refine aw_seq ?_;refine aw_region [.p, .p, .p, .p, .p, .p, .p, .p, .p, .p, .p, .w, .w] ?_;refine st rfl rfl (eff_fieldAddr rfl fl1080_6 rfl) rfl ?_;refine st rfl rfl (eff_load rfl ty9 rfl) rfl ?_;refine st rfl rfl (eff_fieldAddr rfl fl1080_0 rfl) rfl ?_;refine st rfl rfl (eff_load rfl ty3 rfl) rfl ?_;refine st rfl rfl (eff_fieldAddr rfl fl1080_0 rfl) rfl ?_;refine st rfl rfl (eff_load rfl ty3 rfl) rfl ?_;refine st rfl rfl (eff_fieldAddr rfl fl1080_4 rfl) rfl ?_;refine st rfl rfl (eff_load rfl ty3 rfl) rfl ?_;refine st rfl rfl (eff_fieldAddr rfl fl1080_2 rfl) rfl ?_;refine st rfl rfl (eff_load rfl ty9 rfl) rfl ?_;refine st rfl rfl (eff_build rfl z1125 rfl pl1125 (pb_cons rfl (pb_cons rfl (pb_cons rfl (pb_cons rfl (pb_cons rfl pb_nil))))) rfl) rfl ?_;refine st_w rfl rfl (eff_alloc 12 rfl z1125 rfl rfl) rfl ?_;refine st_wn rfl rfl (eff_store (tv := .g (G.agg [G.str a0.Name, G.int a0.Moment, G.int a1.Moment, G.int a0.Size, G.str a0.Terminal])) rfl ty1125 rfl rfl rfl rfl rfl) ?_;refine st_nil ?_;refine aw_cut_g (γ := ByteArray) (fun g => ([(8, .ptr 8 0), (12, .ptr 12 0)], [(8, .box [.g (G.str ByteArray.empty), .g (G.int 0), .g (G.int 0), .g (G.int 0), .g (G.str ByteArray.empty)]), (12, .box [.g (G.str a0.Name), .g (G.int a0.Moment), .g (G.int a1.Moment), .g (G.int a0.Size), .g (G.str g)])])) (fun g => s1064_j1 a0 a1 g = R) ?_ ?_
   ·refine aw_seq ?_;refine aw_region [.p, .r, .p] ?_;refine st rfl rfl (eff_fieldO rfl fl1125_4 rfl) rfl ?_;refine st_r rfl rfl (eff_loadO rfl ty9 rfl rfl rfl) rfl ?_;refine st rfl rfl (eff_seq rfl rfl rfl) rfl ?_;refine st_nil ?_;refine aw_cond _ rfl (fun h3 => ?_) (fun h3 => ?_)
    ·replace h3 : (decide (a0.Terminal = (⟨#[]⟩))) = true := h3;replace hR := condT hR h3;(try simp only [Bool.or_eq_true, Bool.and_eq_true, Bool.or_eq_false_iff, Bool.and_eq_false_iff, Bool.not_eq_true', Bool.not_eq_false', decide_eq_true_eq, decide_eq_false_iff_not] at h3);refine aw_region [.p, .p, .p, .w] ?_;refine st rfl rfl (eff_fieldAddr rfl fl1080_2 rfl) rfl ?_;refine st rfl rfl (eff_load rfl ty9 rfl) rfl ?_;refine st rfl rfl (eff_fieldO rfl fl1125_4 rfl) rfl ?_;refine st_wn rfl rfl (eff_store (tv := .g (G.str a1.Terminal)) rfl ty9 rfl rfl rfl rfl rfl) ?_;refine st_nil ?_;exact ⟨rfl, a1.Terminal, ⟨rfl, rfl, trivial⟩, ⟨rfl, rfl, trivial⟩, rfl, hR, trivial⟩
    ·replace h3 : (decide (a0.Terminal = (⟨#[]⟩))) = false := h3;replace hR := condF hR h3;(try simp only [Bool.or_eq_true, Bool.and_eq_true, Bool.or_eq_false_iff, Bool.and_eq_false_iff, Bool.not_eq_true', Bool.not_eq_false', decide_eq_true_eq, decide_eq_false_iff_not] at h3);refine aw_skip ?_;exact ⟨rfl, a0.Terminal, ⟨rfl, rfl, trivial⟩, ⟨rfl, rfl, trivial⟩, rfl, hR, trivial⟩
   ·rintro x1 hR;replace hR : s1064_j1 a0 a1 x1 = R := hR;unfold s1064_j1 at hR;refine aw_seq ?_;refine aw_region [.r, .w, .p] ?_;refine st_r rfl rfl (eff_loadOA rfl ty1125 rfl rfl rfl rfl) rfl ?_;refine st_wn rfl rfl (eff_store (tv := .g (G.agg [G.str a0.Name, G.int a0.Moment, G.int a1.Moment, G.int a0.Size, G.str x1])) rfl ty1125 rfl rfl rfl rfl rfl) ?_;refine st rfl rfl (eff_assigng rfl rfl) rfl ?_;refine st_nil ?_;refine aw_ret ?_;subst hR;exact resN rfl ⟨rv_cell rfl rfl ty1125 rfl rfl, rv_g rfl, trivial⟩ (by simp)
section
variable {E : Env}
end
section
variable {E : Env} {w0 : World} {M0 : Nat → Prop} {ops : Array Oper} {md : Region.Mode} {cl : Nat → Cls}
theorem anyA_first2 {K : ASt → Prop} {i : Nat} {oi : Oper} (hi : ops[i]? = some oi) (D : Nat → Bool) (hD : ∀ j, D j = true → ∃ oj, ops[j]? = some oj ∧ ∃ e ∈ oj.after, Region.binds md e = true ∧ (e.on = i ∨ D e.on = true)) : ∀ (fuel : Nat) (listed : Array Bool) (s u : ASt),
  (∀ j, D j = true → listed.getD j true = false) →
  (∀ j oj, ops[j]? = some oj → j ≠ i → listed.getD j true = false → D j = false → oi.apart ops oj = true ∧ okC oi oj (cl i) (cl j) = true) →
  i ∈ Region.ready md ops listed → AStep E ops oi (cl i) s u → anyA E md ops cl K fuel (listed.setIfInBounds i true) u → anyA E md ops cl K (fuel + 1) listed s := by
 intro fuel
 induction fuel with
 | zero =>
  intro listed s u _ _ hr hy H;refine ⟨fun h => (by rw [h] at hr; cases hr), fun j hj => ?_⟩
  by_cases hji : j = i
  ·subst hji; unfold aOp; simp only [hi]; exact ⟨u, hy, H⟩
  ·have := ready_mono hj hji;rw [H.1] at this
   cases this
 | succ fuel ih =>
  intro listed s u hL hfree hr hy H;refine ⟨fun h => (by rw [h] at hr; cases hr), fun j hj => ?_⟩
  by_cases hji : j = i
  ·subst hji; unfold aOp; simp only [hi]; exact ⟨u, hy, H⟩
  ·have h1 := H.2 j (ready_mono hj hji);obtain ⟨hjun, oj, hoj, hall⟩ := mem_ready.1 hj
   have hnD : D j = false := by
    cases hd : D j with
    | false => rfl
    | true =>
     exfalso
     obtain ⟨oj', ho', e, he, hb, hon⟩ := hD j hd
     have : oj' = oj := by rw [hoj] at ho'; exact (Option.some.inj ho').symm
     subst this;have h2 := hall e he hb
     rcases hon with heq | hDe
     ·have h0 := (mem_ready.1 hr).1;rw [heq] at h2
      rcases Nat.lt_or_ge i listed.size with h' | h'
      ·simp [h'] at h0 h2; rw [h0] at h2; cases h2
      ·simp [Array.getElem?_eq_none h'] at h2
     ·have h0 := hL e.on hDe
      rcases Nat.lt_or_ge e.on listed.size with h' | h'
      ·simp [h'] at h0 h2; rw [h0] at h2; cases h2
      ·simp [Array.getElem?_eq_none h'] at h2
   unfold aOp at h1 ⊢;simp only [hoj] at h1 ⊢;obtain ⟨t, h2, h3⟩ := h1;obtain ⟨hap, hok⟩ := hfree j oj hoj hji hjun hnD;obtain ⟨s2, h4, h5⟩ := AStep.swap hap hok hy h2;refine ⟨s2, h4, ih (listed.setIfInBounds j true) s2 t (fun k hk => ?_) (fun k ok hk hki hun hno => ?_) (ready_mono hr (Ne.symm hji)) h5 ?_⟩
   ·by_cases hjk : j = k
    ·subst hjk; rw [hk] at hnD; cases hnD
    ·rw [getD_set_ne true hjk]; exact hL k hk
   ·refine hfree k ok hk hki ?_ hno
    by_cases hjk : j = k
    ·subst hjk; exact hjun
    ·rw [getD_set_ne true hjk] at hun; exact hun
   ·rw [Array.setIfInBounds_comm _ _ hji];exact h3
def descs (md : Region.Mode) (ops : Array Oper) (i : Nat) : List Nat :=
 (List.range ops.size).foldl (fun acc j => match ops[j]? with
  | some oj => bif oj.after.any (fun e => Region.binds md e && (e.on == i || acc.contains e.on)) then j :: acc else acc
  | none => acc) []
def freeC2 (md : Region.Mode) (ops : Array Oper) (cl : Nat → Cls) (listed : Array Bool) (i : Nat) (L : List Nat) : Bool :=
 match ops[i]? with
 | none => false
 | some oi => ((List.range ops.size).all fun j => j == i || listed.getD j true || L.contains j || match ops[j]? with
   | some oj => oi.apart ops oj && okC oi oj (cl i) (cl j)
   | none => true) && L.all fun j => !listed.getD j true && match ops[j]? with
   | some oj => oj.after.any (fun e => Region.binds md e && (e.on == i || L.contains e.on))
   | none => false
def lexC2 (md : Region.Mode) (ops : Array Oper) (cl : Nat → Cls) : Nat → Nat → Array Bool → Bool
 | 0, _, listed => (Region.ready md ops listed).isEmpty
 | fuel + 1, k, listed => (Region.ready md ops listed).contains k && freeC2 md ops cl listed k (descs md ops k) && lexC2 md ops cl fuel (k + 1) (listed.setIfInBounds k true)
theorem anyA_lex2 {K : ASt → Prop} : ∀ (l : List Oper) (cs : List Cls) (k : Nat) (listed : Array Bool) (s : ASt), (∀ j, l[j]? = ops[k + j]?) → (∀ j c, cs[j]? = some c → cl (k + j) = c) →
  lexC2 md ops cl l.length k listed = true → AOps E ops l cs s K → anyA E md ops cl K l.length listed s
 | [], [], _, _, _, _, _, hB, h => ⟨by simpa [lexC2] using hB, h⟩
 | o :: l, c :: cs, k, listed, s, hl, hc, hB, h => by
  have h0 : ops[k]? = some o := by simpa using (hl 0).symm
  have hc0 : cl k = c := by simpa using hc 0 c (by simp)
  simp only [List.length_cons, lexC2, Bool.and_eq_true] at hB;obtain ⟨⟨hr, hf⟩, hB'⟩ := hB;obtain ⟨s', h1, h2⟩ := h;subst hc0;simp only [freeC2, h0, Bool.and_eq_true, List.all_eq_true, List.mem_range] at hf;obtain ⟨hf1, hf2⟩ := hf;refine anyA_first2 h0 (fun j => (descs md ops k).contains j) (fun j hj => ?_) l.length listed s s' (fun j hj => ?_) (fun j oj hoj hne hun hnD => ?_) (by simpa using hr) h1
   (anyA_lex2 l cs (k + 1) _ _ (fun j => by have := hl (j + 1); simpa [Nat.add_assoc, Nat.add_comm 1 j] using this)
    (fun j c hj => by have := hc (j + 1) c (by simpa using hj); simpa [Nat.add_assoc, Nat.add_comm 1 j] using this) hB' h2)
  ·have h3 := (hf2 j (List.contains_iff_mem.1 hj)).2
   cases ho : ops[j]? with
   | none => rw [ho] at h3; cases h3
   | some oj =>
    rw [ho] at h3;obtain ⟨e, he, hb⟩ := Array.any_eq_true'.1 h3;simp only [Bool.and_eq_true, Bool.or_eq_true, beq_iff_eq] at hb;exact ⟨oj, rfl, e, he, hb.1, hb.2⟩
  ·have h3 := (hf2 j (List.contains_iff_mem.1 hj)).1
   simpa using h3
  ·have h3 := hf1 j (Array.getElem?_eq_some_iff.1 hoj).1;simp only [Bool.or_eq_true, beq_iff_eq] at h3
   rcases h3 with ((h3 | h3) | h3) | h3
   ·exact absurd h3 hne
   ·rw [hun] at h3; cases h3
   ·rw [h3] at hnD; cases hnD
   ·rw [hoj] at h3
    simpa using h3
 | [], _ :: _, _, _, _, _, _, _, h => h.elim
 | _ :: _, [], _, _, _, _, _, _, h => h.elim
def lexOk2 (ops : Array Oper) (cs : List Cls) : Bool := lexC2 .any ops (fun i => cs.getD i .k) ops.size 0 (Array.replicate ops.size false)
theorem aw_draw2 {id : Nat} {ops : Array Oper} {Q : Exit → ASt → Prop} {s : ASt} (cs : List Cls) (hB : lexOk2 ops cs = true) (h : AOps E ops ops.toList cs s (Q .normal)) : AWp E w0 M0 (.region id ops true) Q s := by
 intro a w ha;refine wpIn_region_any E.orders ?_;have h1 := anyA_lex2 (md := .any) (cl := fun i => cs.getD i .k) ops.toList cs 0 (Array.replicate ops.size false) s (by simp) (fun j c hj => by simp [hj]) (by simpa [lexOk2] using hB) h;have h2 := anyA.sound (w0 := w0) (M0 := M0) (Q := Q) _ _ s h1 a _ ha.draw
 simpa using h2
end
section
variable {E : Env} {w0 : World} {M0 : Nat → Prop}
theorem eff_nilS {o : Oper} {ev : Operand → TV} {x : Operand} (k : Nat) (ho : o.op = .assign x) (h : ev x = .g (.lit (.slice none 0 0))) (mem : Mem) : Eff E o mem ev (.g (.sl k [])) :=
 eff_same (fun w M ρ e hx => ⟨e x, by simp [execOp, ho], by
  have h1 := hx x (by rw [ho]; simp [Op.operands]);rw [h] at h1;have h2 : e x = .slice none 0 0 := h1;rw [h2]
  exact nil_sl k w M⟩) mem
end
section
variable {E : Env} {w0 : World} {M0 : Nat → Prop}
def ConT (E : Env) (f : FuncId) (args : List TV) (e : TypeId) (k : Nat) (xs xs' : List (List G)) (n : Nat) : Prop :=
 ∀ w M ρ (vs : List Value), (∀ b, M b → b < w.heap.size) → GlOk E w (owned M ρ) → (∀ id x, ρ id = some x → ∃ blk, lookO [(0, Blk.arr e k xs)] id = some blk) →
  (∀ id ow, ρ id = some (some ow) → ow.b < w.heap.size ∧ ¬ M ow.b) → (∀ id id' ow ow', ρ id = some (some ow) → ρ id' = some (some ow') → ow.b = ow'.b → id = id') →
  (∀ id blk, lookO [(0, Blk.arr e k xs)] id = some blk → BRel w (owned M ρ) ρ id blk) → ArgsT w (owned M ρ) ρ args vs →
  Calls E.P f vs.toArray w fun ex w' => ∃ v, ex = .returned v ∧ BelowX (fun b => ∃ id ow, ρ id = some (some ow) ∧ ow.b = b) w w' ∧ BRel w' (owned M ρ) ρ 0 (.arr e k xs') ∧ TRel w' (owned M ρ) ρ (.osl 0 k 0 n) v
theorem ConT.lend {f : FuncId} {args : List TV} {e : TypeId} {k n : Nat} {xs xs' : List (List G)} {mem : Mem} {x : Nat → Option Own} (h : ConT E f args e k xs xs' n) : ConT (E.lend mem x) f args e k xs xs' n := h
def DoneT (fn : Func) (e : TypeId) (k : Nat) (xs' : List (List G)) (n : Nat) : Exit → ASt → Prop
 | .ret, s | .normal, s => (∃ t, fn.results = #[.tmp t] ∧ s.get t = .osl 0 k 0 n) ∧ MemL s [(0, .arr e k xs')]
 | _, _ => False
theorem conT_of_aw {f : FuncId} {fn : Func} {c : Code} {args : List TV} {e : TypeId} {k n : Nat} {xs xs' : List (List G)} (hf : E.P.funcs[f]? = some fn) (hb : fn.body = some c) (hn0 : Nat.ble args.length fn.ntmps = true)
  (h : ∀ w0 M0 x, AWp (E.lend [(0, .arr e k xs)] x) w0 M0 c (DoneT fn e k xs' n) ⟨fn.ntmps, initTV args, [(0, .arr e k xs)]⟩) (hrn : E.rnd = none := by rfl) (hdf : E.mks = false := by rfl) : ConT E f args e k xs xs' n := by
 intro w M ρ vs hM hgl hdom hown hinj hblk hv;have hn := Nat.le_of_ble_eq_true hn0;have hlen := hv.length
 let x : Nat → Option Own := fun id => (ρ id).getD none
 have hx : ∀ id y, ρ id = some y → x id = y := fun id y h => by simp only [x, h, Option.getD_some]
 have hlive : ∀ p ∈ [((0 : Nat), Blk.arr e k xs)], p.2.live = true := by
  intro p hp; rw [List.mem_singleton.1 hp]; rfl
 have hkeep : ∀ id y, lookO (E.lend [(0, .arr e k xs)] x).bow id = some y → ρ id = some y := by
  intro id y h;obtain ⟨⟨b, h1⟩, rfl⟩ := (lookO_mapk x).1 h;obtain ⟨z, hz⟩ := (hblk id b h1).has (hlive _ (lookO_mem _ h1));rw [hx id z hz]; exact hz
 have hback : ∀ id y, ρ id = some y → lookO (E.lend [(0, .arr e k xs)] x).bow id = some y := fun id y h => (lookO_mapk x).2 ⟨hdom id y h, (hx id y h).symm⟩;refine calls_of_wp hf hb ?_
 have ha : ARel (E.lend [(0, .arr e k xs)] x) w M ⟨fn.ntmps, initTV args, [(0, .arr e k xs)]⟩ { tmps := vs.toArray ++ Array.replicate (fn.ntmps - vs.toArray.size) undef, defers := [] } w := by
  refine ⟨fun _ => rfl, ?_, ρ, ?_, Marks.nil, ?_⟩
  ·simp; omega
  ·exact ⟨BelowX.refl _ w, hM, hgl, hdom, fun id ow ho => ⟨.inr ⟨id, ow, hback id _ ho, rfl⟩, (hown id ow ho).1⟩, hinj, hkeep, fun b ⟨id, ow, h1, h2⟩ => h2 ▸ (hown id ow (hkeep id _ h1)).2, hblk⟩
  ·intro i;have := initTV_rel (fn.ntmps - vs.length) hv i;show TRel _ _ _ (initTV args i) _;rw [Array.getD_eq_getD_getElem?];rw [show (vs.toArray ++ Array.replicate (fn.ntmps - vs.toArray.size) undef) = (vs ++ List.replicate (fn.ntmps - vs.length) undef).toArray by simp];rw [List.getElem?_toArray];exact this
 refine wp_mono (wp_env (E := E.lend [(0, .arr e k xs)] x) (h w M x _ w ha) hrn) ?_;rintro ex a' w' ⟨s', ha', hq⟩
 have fin : ((∃ t, fn.results = #[.tmp t] ∧ s'.get t = .osl 0 k 0 n) ∧ MemL s' [(0, .arr e k xs')]) → a'.defers = [] ∧ ∃ v, (results fn a'.tmps).run E.P w' = .ok v w' ∧ (∃ u, Ending.returned v = .returned u ∧ BelowX (fun b => ∃ id ow, ρ id = some (some ow) ∧ ow.b = b) w w' ∧ BRel w' (owned M ρ) ρ 0 (.arr e k xs') ∧ TRel w' (owned M ρ) ρ (.osl 0 k 0 n) u) := by
  rintro ⟨⟨t, hr, hq⟩, hm'⟩;obtain ⟨ρf, hm, _, ht⟩ := ha'.ex
  have hres : (results fn a'.tmps).run E.P w' = .ok (a'.tmps.getD t undef) w' := by
   rw [results_eq, hr]
   simp [rvSem]
  have hsub : ∀ b, owned M ρ b → owned M ρf b := by
   rintro b (h | ⟨id, o, h, rfl⟩)
   ·exact .inl h
   ·exact .inr ⟨id, o, hm.keep id _ (hback id _ h), rfl⟩
  obtain ⟨z, hz⟩ := (hblk 0 (.arr e k xs) rfl).has rfl
  have hρ0 : ρ 0 = ρf 0 := by rw [hz, hm.keep 0 z (hback 0 z hz)]
  refine ⟨ha'.defers hdf, _, hres, _, rfl, hm.below.mono (fun b ⟨id, ow, h3, h4⟩ => ⟨id, ow, hkeep id _ h3, h4⟩), BRel.ground rfl hρ0 ((hm.blk 0 _ (memL_mem hm' List.mem_cons_self)).sub hsub), ?_⟩;have h1 := ht t;rw [hq] at h1
  rcases h1 with ⟨g1, g2⟩ | ⟨ow, g1, g2⟩
  ·exact .inl ⟨hρ0.trans g1, g2⟩
  ·exact .inr ⟨ow, hρ0.trans g1, g2⟩
 cases ex with
 | ret => exact fin hq
 | normal => exact fin hq
 | _ => exact hq.elim
theorem eff_give {o : Oper} {mem : Mem} {ev : Operand → TV} {f : FuncId} {aps : Array Operand} {ts : Array TypeId} {args : List TV} {e : TypeId} {k n : Nat} {xs xs' : List (List G)} (c : Nat) (ho : o.op = .call ⟨.value (.func f), aps, ts⟩)
  (hk : Known E.P f) (hev : ev (.func f) = .g (.lit (.func (.func f) #[] #[]))) (hc : ConT E f args e k xs xs' n) (ha : aps.toList.map (fun x => some (ev x)) = args.map (renT [(0, c)])) (hl : lookO mem c = some (.arr e k xs))
  (hrefs : ∀ i blk, lookO mem i = some blk → i ≠ c → blk.noref (some c) = true) (hn : n ≤ xs'.length) (hbw : lookO E.bow c = none := by rfl) :
  EffW E o mem ev (.g (.sl k (xs'.take n))) ((c, .gone) :: mem) (some c) := by
 intro w0 M0 ρ w e' hm hx;obtain ⟨fn, h1, h2, h3⟩ := hk
 have hef : e' (.func f) = .func (.func f) #[] #[] := by
  have := hx (.func f) (by rw [ho]; simp [Op.operands, Call.operands]);rw [hev] at this;exact this
 have hres : (execOp e' o).run E.P w = .ok (.enter f (aps.toList.map e').toArray) w := by
  simp [execOp, ho, resolve, hef, Deferred.ofValue, invoke, run_callFunc h1 h2 h3, ← Array.toList_map]
 rw [hres]
 let ρc : Rho := fun p => if p = 0 then ρ c else none
 have hρ0 : ρc 0 = ρ c := by simp [ρc]
 have hρc' : ∀ p x, ρc p = some x → p = 0 ∧ ρ c = some x := by
  intro p x h;simp only [ρc] at h
  split at h
  ·exact ⟨by assumption, h⟩
  ·cases h
 let M : Nat → Prop := fun b => owned M0 ρ b ∧ ¬ ∃ ow, ρ c = some (some ow) ∧ ow.b = b
 have hown : owned M ρc = owned M0 ρ := by
  funext b
  apply propext
  constructor
  ·rintro (h | ⟨p, o, h, rfl⟩)
   ·exact h.1
   ·exact .inr ⟨c, o, (hρc' p _ h).2, rfl⟩
  ·intro h
   by_cases hb : ∃ ow, ρ c = some (some ow) ∧ ow.b = b
   ·obtain ⟨ow, h1, h2⟩ := hb; exact .inr ⟨0, ow, hρ0.trans h1, h2⟩
   ·exact .inl ⟨h, hb⟩
 have hcall := hc w M ρc (aps.toList.map e') (fun b h => hm.lt b h.1) (by rw [hown]; exact hm.glob)
  (fun p x h => by
   have := (hρc' p x h).1;subst this
   exact ⟨_, rfl⟩)
  (fun p ow h => by
   have c2 := (hρc' p _ h).2
   exact ⟨(hm.fresh c ow c2).2, fun hM => hM.2 ⟨ow, c2, rfl⟩⟩)
  (fun p q ow ow' h1 h2 _ => (hρc' p _ h1).1.trans (hρc' q _ h2).1.symm)
  (fun p blk h => by
   have hp : p = 0 := by
    by_cases hp : p = 0
    ·exact hp
    ·have : lookO [((0 : Nat), Blk.arr e k xs)] p = none := by
      simp only [lookO];rw [show Nat.beq 0 p = false from by cases p with | zero => exact absurd rfl hp | succ _ => rfl]
      rfl
     rw [this] at h; cases h
   subst hp
   have hb : blk = .arr e k xs := by simpa [lookO] using h.symm
   subst hb;rw [hown]
   exact BRel.ground rfl hρ0 (hm.blk c _ hl))
  (by
   rw [hown];refine args_ren (σ := [(0, c)]) (ρc := ρc) (fun p q hpq => ?_) (fun x hx' => hx x (by rw [ho]; simp [Op.operands, Call.operands]; exact .inr (by simpa using hx'))) ha
   by_cases hp : p = 0
   ·subst hp
    have : c = q := by simpa [lookO] using hpq
    rw [← this]; exact hρ0
   ·have : lookO [((0 : Nat), c)] p = none := by
     simp only [lookO];rw [show Nat.beq 0 p = false from by cases p with | zero => exact absurd rfl hp | succ _ => rfl]
     rfl
    rw [this] at hpq; cases hpq)
 rw [hown] at hcall;refine hcall.mono ?_;rintro ex w' ⟨v, rfl, hb, hblk, hr⟩
 have hlow : ∀ b, b < w.heap.size → ¬ owned M0 ρ b → w'.heap[b]? = w.heap[b]? := fun b hlt hno => hb.block b hlt (by
  rintro ⟨p, ow, h1, rfl⟩
  exact hno (.inr ⟨c, ow, (hρc' p _ h1).2, rfl⟩))
 let ρ' : Rho := fun id => if id = c then none else ρ id
 have hρn : ∀ id, id ≠ c → ρ' id = ρ id := fun id h => by simp only [ρ', if_neg h]
 have hρ' : ∀ id x, ρ' id = some x → ρ id = some x ∧ id ≠ c := by
  intro id x h;simp only [ρ'] at h
  split at h
  ·cases h
  ·exact ⟨h, by assumption⟩
 have hM : ∀ b, owned M0 ρ' b → owned M0 ρ b := by
  rintro b (hb | ⟨id, o, ho, rfl⟩)
  ·exact .inl hb
  ·exact .inr ⟨id, o, (hρ' id _ ho).1, rfl⟩
 have hno : ∀ ow, ρ c = some (some ow) → ¬ owned M0 ρ' ow.b := by
  rintro ow ho (hM0 | ⟨i, o, hi, he⟩)
  ·exact not_lent hm ho hbw (.inl hM0)
  ·exact (hρ' i _ hi).2 (hm.inj i c o ow (hρ' i _ hi).1 ho he)
 have hkl : ∀ id, some id ≠ some c → ρ id ≠ none → ρ' id = ρ id := fun id h _ => hρn id fun e => h (by rw [e])
 have hne : ∀ id b, lookO ((c, Blk.gone) :: mem) id = some b → (id = c ∧ b = .gone) ∨ (id ≠ c ∧ lookO mem id = some b) := by
  intro id b h;simp only [lookO] at h
  cases hbq : Nat.beq c id with
  | true =>
   rw [hbq] at h;exact .inl ⟨(Nat.eq_of_beq_eq_true hbq).symm, by simpa using h.symm⟩
  | false =>
   rw [hbq] at h;refine .inr ⟨fun e => ?_, h⟩;rw [e, Nat.beq_refl] at hbq; cases hbq
 refine ⟨v, rfl, ρ', ⟨?_, hm.m0, ?_, ?_, ?_, ?_, ?_, hm.lentM, ?_⟩, fun tv u hn' h => h.mono (some c) hn' hlow (fun b _ => hM b) hkl, ?_⟩
 ·refine ⟨hb.os.trans hm.below.os, hb.tape.trans hm.below.tape, hb.output.trans hm.below.output, Nat.le_trans hm.below.size hb.size, fun kk hkk hlk => ?_⟩;refine (hb.block kk (Nat.lt_of_lt_of_le hkk hm.below.size) ?_).trans (hm.below.block kk hkk hlk);rintro ⟨p, ow, h1, rfl⟩
  rcases (hm.fresh c ow (hρc' p _ h1).2).1 with h | h
  ·omega
  ·exact hlk h
 ·intro g vs hg;have := (hm.glob.grow hb.size hlow) g vs hg;exact ⟨⟨fun hb => this.1.1 (hM _ hb), this.1.2⟩, this.2.mono (fun _ _ _ => rfl) (fun b _ => hM b) this.1.1⟩
 ·intro id x h;obtain ⟨h1, h2⟩ := hρ' id x h;obtain ⟨b, hb⟩ := hm.dom id x h1;refine ⟨b, ?_⟩;simp only [lookO]
  rw [show Nat.beq c id = false from by
   cases hbq : Nat.beq c id with
   | true => exact absurd (Nat.eq_of_beq_eq_true hbq).symm h2
   | false => rfl]
  exact hb
 ·exact fun id ow h => ⟨(hm.fresh id ow (hρ' id _ h).1).1, Nat.lt_of_lt_of_le (hm.fresh id ow (hρ' id _ h).1).2 hb.size⟩
 ·exact fun id id' ow ow' h1 h2 => hm.inj id id' ow ow' (hρ' id _ h1).1 (hρ' id' _ h2).1
 ·intro id x h;rw [hρn id (fun e => by rw [e, hbw] at h; cases h)];exact hm.keep id x h
 ·intro id blk h
  rcases hne id blk h with ⟨_, rfl⟩ | ⟨h1, h2⟩
  ·trivial
  ·refine (hm.blk id blk h2).mono (some c) (fun e => h1 (Option.some.inj e)) (hrefs id blk h2 h1) (fun ow ho => ?_) hlow (fun b _ => hM b) hkl;refine hb.block ow.b (hm.fresh id ow ho).2 ?_;rintro ⟨p, ow2, g1, g2⟩;exact h1 (hm.inj c id ow2 ow (hρc' p _ g1).2 ho g2).symm
 ·-- what came back
  have hlen : (xs'.take n).length = n := by rw [List.length_take]; omega
  rcases hr with ⟨g1, _, g2, g3⟩ | ⟨ow, g1, _, g2, p, g3, g4⟩
  ·subst g2;rw [g3];exact ⟨none, 0, by simp, by simp, Nat.zero_le _, by simp, .inl ⟨by simp, fun _ => rfl⟩⟩
  ·rcases hblk with ⟨k1, k2⟩ | ⟨ow', vs', k1, k2, k3, k4, k5, k6, k7⟩
   ·rw [g1] at k1; cases k1
   ·have : ow' = ow := by rw [g1] at k1; simpa using k1.symm
    subst this;have hg := (hρc' 0 _ g1).2;refine ⟨some ⟨ow'.b, p, none⟩, ow'.cap, by rw [g3, hlen]; rfl, by rw [hlen]; exact g2, k4, fun cc hcc => k6 cc (List.mem_of_mem_take hcc), ?_⟩
    by_cases hz : n = 0
    ·subst hz; exact .inl ⟨by simp, fun h => by cases h⟩
    ·have hp := g4 (by omega);simp only [Nat.zero_mul, Nat.add_zero] at hp;subst hp;have hfl : (xs'.take n).flatten = xs'.flatten.take (n * k) := (flatten_take (k := k) n k6).symm
     have hfit : Fits w' (owned M0 ρ) (xs'.take n).flatten ((vs'.toList.drop ow'.o).take (n * k)) := by
      rw [hfl];have h5 := k7.take (n * k);rw [List.take_take, Nat.min_eq_left (Nat.mul_le_mul_right k hn)] at h5;exact h5
     refine .inr ⟨ow'.b, ow'.o, rfl, hno ow' hg, cells_of_fits k2 (hfit.mono (fun _ _ _ => rfl) (fun b _ => hM b)) ?_⟩;intro j u hj;rw [List.getElem?_take] at hj
     split at hj
     ·rw [List.getElem?_drop] at hj; simpa using hj
     ·cases hj
theorem eff_giveL {α : Type} {f0 : α → List G} {l l' : List α} {o : Oper} {mem : Mem} {ev : Operand → TV} {f : FuncId} {aps : Array Operand} {ts : Array TypeId} {args : List TV} {e : TypeId} {k n : Nat} (c : Nat) (ho : o.op = .call ⟨.value (.func f), aps, ts⟩)
  (hk : Known E.P f) (hev : ev (.func f) = .g (.lit (.func (.func f) #[] #[]))) (hc : ConT E f args e k (l.map f0) (l'.map f0) n) (ha : aps.toList.map (fun x => some (ev x)) = args.map (renT [(0, c)])) (hl : lookO mem c = some (.arr e k (l.map f0)))
  (hrefs : ∀ i blk, lookO mem i = some blk → i ≠ c → blk.noref (some c) = true) (hn : n ≤ l'.length) (hbw : lookO E.bow c = none := by rfl) :
  EffW E o mem ev (.g (.sl k ((l'.take n).map f0))) ((c, .gone) :: mem) (some c) := by
 rw [List.map_take];exact eff_give c ho hk hev hc ha hl hrefs (by rw [List.length_map]; exact hn) hbw
end
section
variable {E : Env} {w0 : World} {M0 : Nat → Prop}
theorem eff_clearO {α : Type} {f0 : α → List G} {l : List α} {o : Oper} {mem : Mem} {ev : Operand → TV} {t el e : TypeId} {x : Operand} {k id N a : Nat} {zs : List Value} (ho : o.op = .call ⟨.builtin .clear, #[x], #[t]⟩) (ht : E.P.underlying t = some (.slice el)) (hz : zeroK E.P el = some zs)
  (hx : ev x = .osl id k a N) (hN : l.length = N) (hb : lookO mem id = some (.arr e k (l.map f0))) (hk : zs.length = k) (h1 : zs.all Value.oneCell' = true) : EffW E o mem ev (.g (.tup [])) ((id, .arr e k ((l.take a).map f0)) :: mem) none := by
 intro w0 M0 ρ w e' hm he;have hv := he x (by rw [ho]; simp [Op.operands, Call.operands]);rw [hx] at hv;obtain ⟨i, z, hi, hz', hzs⟩ := Go.Ex.zeroK_spec hz
 rcases hm.blk id _ hb with ⟨g1, g2⟩ | ⟨ow, cur, g1, g2, g3, g4, g5, g6, g7⟩
 ·have hl0 : l = [] := by simpa using g2
  subst hl0
  have hex : e' x = .slice none 0 0 := by
   rcases hv with ⟨_, _, _, h⟩ | ⟨ow, h, _⟩
   ·exact h
   ·rw [g1] at h; cases h
  have hrun : (execOp e' o).run E.P w = .ok (.value (.tuple #[])) w := by
   simp [execOp, ho, resolve, invoke, builtin, Builtin.clear_, hex, run_underlying ht]
  rw [hrun];obtain ⟨k1, k2⟩ := mrel_upd (id := id) (x := none) (blk' := .arr e k ((([] : List α).take a).map f0)) none hm ⟨rfl, rfl, rfl, Nat.le_refl _, fun _ _ _ => rfl⟩ (fun _ h => by cases h) (.inr ⟨rfl, .inr g1⟩) (fun _ b _ _ => noref_none b) (.inl rfl) (.inl ⟨rhoSet_same _ _ _, by simp⟩);exact ⟨_, k1, k2, ⟨[], rfl, trivial⟩⟩
 ·rw [List.length_map] at g3 g7
  have hcv : ∃ p, e' x = .slice (some ⟨ow.b, p, none⟩) (N - a) (ow.cap - a) ∧ a ≤ N ∧ N ≤ ow.cap ∧ (a < ow.cap → p = ow.o + a * k) := by
   rcases hv with ⟨h, _⟩ | ⟨ow', h, h2, h3, p, h4, h5⟩
   ·rw [g1] at h; cases h
   ·have : ow' = ow := by rw [g1] at h; simpa using h.symm
    subst this;exact ⟨p, h4, h2, h3, h5⟩
  obtain ⟨p, hex, haN, hNc, hp⟩ := hcv
  have hstore : ∃ w' cur', (execOp e' o).run E.P w = .ok (.value (.tuple #[])) w' ∧ w'.heap[ow.b]? = some (.cells cur' e (0, 0)) ∧ cur'.size = cur.size ∧ ((cur'.toList.drop ow.o).take (a * k) = (cur.toList.drop ow.o).take (a * k)) ∧ (∀ b, b ≠ ow.b → w'.heap[b]? = w.heap[b]?) ∧ w'.heap.size = w.heap.size ∧ w'.os = w.os ∧ w'.tape = w.tape ∧ w'.output = w.output := by
   by_cases hz0 : N - a = 0
   ·refine ⟨w, cur, ?_, g2, rfl, rfl, fun _ _ => rfl, rfl, rfl, rfl, rfl⟩;rw [hz0] at hex
    simp [execOp, ho, resolve, invoke, builtin, Builtin.clear_, hex, run_underlying ht]
   ·have hp := hp (by omega);subst hp;have hcap := g5.resolve_left (by omega)
    have hzsz : z.cells.size = k := by rw [← Array.length_toList, hzs, hk]
    let cs := (Builtin.zeroCells z.cells (N - a)).toList
    have hcs : cs = (List.replicate (N - a) zs).flatten := by
     show (Builtin.zeroCells z.cells (N - a)).toList = _;rw [← hzs, ← Go.Ex.zeros_list hzsz (N - a)]
     simp [Builtin.zeroCells, hzsz]
    have hclen : cs.length = (N - a) * k := by rw [hcs]; simp [hk]
    have hone : ∀ u ∈ cs, u.oneCell' = true := by
     intro u hu;rw [hcs] at hu;obtain ⟨c, hc, hu⟩ := List.mem_flatten.1 hu;rw [(List.mem_replicate.1 hc).2] at hu;exact List.all_eq_true.1 h1 u hu
    have hmul : a * k + (N - a) * k = N * k := by rw [← Nat.add_mul]; congr 1; omega
    have hNk : N * k ≤ ow.cap * k := Nat.mul_le_mul_right _ hNc;obtain ⟨w', cur', r1, r2, r3, r4, r5, r6, r7, r8⟩ := run_storeCells (P := E.P) ow.b (ow.o + a * k) e cs 0 cur w g2 (by omega) hone;refine ⟨w', cur', ?_, r2, ?_, ?_, r4, r5, r6, r7, r8⟩
    ·obtain ⟨m, hm0⟩ : ∃ m, N - a = m + 1 := ⟨N - a - 1, by omega⟩;have hrz := Go.Ex.run_zeroValue (P := E.P) (w := w) hi hz';rw [hm0] at hex
     have hcs2 : (Builtin.zeroCells z.cells (m + 1)).toList = cs := by simp only [cs, hm0]
     simp [execOp, ho, resolve, invoke, builtin, Builtin.clear_, hex, run_underlying ht, hrz, hcs2, r1]
    ·rw [← Array.length_toList, r3, ← Array.length_toList (xs := cur)];simp only [setAt, List.length_append, List.length_take, List.length_drop, Array.length_toList]
     omega
    ·rw [r3, Nat.add_zero];simp only [setAt];rw [List.append_assoc, List.drop_append_of_le_length (by simp; omega), List.take_append_of_le_length (by simp; omega), List.drop_take, List.take_take]
     congr 1; omega
  obtain ⟨w', cur', hrun, r2, rsz, r3, r4, r5, r6, r7, r8⟩ := hstore;rw [hrun];have hdf : Diff ρ id w w' := ⟨r6, r7, r8, by omega, fun b _ hne => r4 b (hne ow g1)⟩
  have hM : ∀ b, b < w.heap.size → owned M0 (rhoSet ρ id (some ow)) b → owned M0 ρ b := by
   rintro b hb (h | ⟨i, o, h, rfl⟩)
   ·exact .inl h
   ·by_cases hi : i = id
    ·subst hi; rw [rhoSet_same] at h; cases h; exact .inr ⟨i, ow, g1, rfl⟩
    ·exact .inr ⟨i, o, by simpa [rhoSet, hi] using h, rfl⟩
  have hh : ∀ b, b < w.heap.size → ¬ owned M0 ρ b → w'.heap[b]? = w.heap[b]? := fun b _ hno => r4 b fun he => hno (.inr ⟨id, ow, g1, he.symm⟩);have hkm : ∀ c ∈ l.map f0, c.length = k := g6
  have hta : (l.take a).length = a := by rw [List.length_take]; omega
  have hfl : ((l.take a).map f0).flatten = (l.map f0).flatten.take (a * k) := by rw [List.map_take]; exact (flatten_take (k := k) a hkm).symm
  obtain ⟨k1, k2⟩ := mrel_upd (id := id) (x := some ow) (blk' := .arr e k ((l.take a).map f0)) none hm hdf (fun o ho => by cases ho; exact ⟨.inr ⟨ow, g1, rfl⟩, by rw [r5]; exact (hm.fresh id ow g1).2⟩) (.inr ⟨rfl, .inr g1⟩) (fun _ b _ _ => noref_none b) (.inl rfl)
   (.inr ⟨ow, cur', rhoSet_same _ _ _, r2, by rw [List.length_map, hta]; omega, g4, g5.imp (fun h => h) (fun h => by rw [rsz]; exact h), fun c hc => by
     rw [List.map_take] at hc; exact hkm c (List.mem_of_mem_take hc), by
     rw [List.length_map, hta, r3, hfl];have h5 := g7.take (a * k);rw [List.take_take, Nat.min_eq_left (Nat.mul_le_mul_right k (by omega))] at h5
     exact h5.mono hh hM⟩)
  exact ⟨_, k1, k2, ⟨[], rfl, trivial⟩⟩
end
section
variable {E : Env}
theorem eff_ixAO {o : Oper} {ev : Operand → TV} {t el : TypeId} {x ix : Operand} {k N id p : Nat} {b : Bool} {kk : IntKind} {n : Int} (ho : o.op = .indexAddr t x ix) (ht : E.P.underlying t = some (.array N el)) (he : tyK E.P el = some (k + 1, b))
  (hx : ev x = .ptr id p) (hi : ev ix = .g (.lit (.int kk n))) (h0 : 0 ≤ n) (hn : n < (N : Int)) (mem : Mem) : Eff E o mem ev (.ptr id (p + n.toNat * (k + 1))) :=
 eff_same (fun w M ρ e hev => by
  have h1 := hev x (by rw [ho]; simp [Op.operands]);rw [hx] at h1;have h2 := hev ix (by rw [ho]; simp [Op.operands]);rw [hi] at h2;have h2' : e ix = .int kk n := h2;obtain ⟨ow, h3, h4⟩ := h1;refine ⟨.pointer (some ⟨ow.b, ow.o + p + n.toNat * (k + 1), none⟩), ?_, ow, h3, by rw [Nat.add_assoc]⟩
  simp [execOp, ho, h4, h2', Instr.indexAt, asIntOf, underlying, ht, Instr.sureAddr, run_sizeOf he, h0, hn, Addr.add_lit]) mem
end
section
variable {E : Env} {o : Oper} {ev : Operand → TV}
theorem eff_slStr {t : TypeId} {x lo hi : Operand} {s : ByteArray} {ka kc : IntKind} {a c : Int} (ho : o.op = .slice t x (some lo) (some hi) none) (ht : E.P.underlying t = some .string) (hx : ev x = .g (.str s)) (hlo : ev lo = .g (.lit (.int ka a))) (hhi : ev hi = .g (.lit (.int kc c)))
  (h0 : 0 ≤ a) (hac : a ≤ c) (hcl : c ≤ (s.size : Int)) (mem : Mem) : Eff E o mem ev (.g (.str (s.extract a.toNat c.toNat))) :=
 eff_same (fun w M ρ e' he => by
  have h1 := he x (by rw [ho]; simp [Op.operands]);rw [hx] at h1;have h1' : e' x = .string s := h1
  have hb := run_slBounds (P := E.P) (isS := false) (w := w) (e' := e') (ρ := ρ) (M := M) (lo := some lo) (hi := some hi) (len := s.size) (cap := s.size) (bnd_some hlo h0) (bnd_some hhi (by omega)) (by omega) (by omega) (Nat.le_refl _) (fun y hy => he y (by
   rw [ho]
   rcases hy with h | h <;> cases h <;> simp [Op.operands]))
  refine ⟨.string (s.extract a.toNat c.toNat), ?_, rfl⟩;simp only [Option.map_some] at hb
  simp [execOp, ho, h1', Instr.sliceAt, Instr.slice, underlying, ht, hb]) mem
def ascope (Q : Exit → ASt → Prop) : Exit → ASt → Prop
 | .goto _, _ => False
 | e, s => Q e s
theorem env_wp {E : Env} {c : Code} {Q : Exit → Act → World → Prop} {a : Act} {w : World} (h : c.wp E.P Q a w) (hr : E.rnd = none) : c.wpIn E.F 0 E.P Q a w := by
 obtain ⟨P, gl, ord, bow, rnd, mk⟩ := E
 cases hr
 exact wpIn_wide.2 h
theorem aw_scope {w0 : World} {M0 : Nat → Prop} {c : Code} {Q : Exit → ASt → Prop} {s : ASt} (h : AWp E w0 M0 c (ascope Q) s) (hr : E.rnd = none := by rfl) : AWp E w0 M0 (.scope c) Q s :=
 fun a w ha => env_wp (hr := hr) <| wp_scope_straight (wp_mono (wp_env (h a w ha) hr) fun e a' w' ⟨s', h1, h2⟩ => by
  cases e <;> first | exact h2.elim | exact ⟨s', h1, h2⟩)
end
section
variable {E : Env} {ops : Array Oper} {o : Oper} {os : List Oper} {cs : List Cls} {s : ASt} {r : TV} {K : ASt → Prop}
theorem st_rq {d i : Nat} {b : Blk} (hd : o.dst = some d) (hg : o.guard = none) (hb : lookO s.mem i = some b) (he : ∀ m, lookO m i = some b → Eff E o m (s.eval E) r) (hn : Nat.blt d s.n = true) (hk : AOps E ops os cs (s.put (some d) r) K) : AOps E ops (o :: os) (.rq i :: cs) s K :=
 ⟨s.put (some d) r, ⟨fun d' h => by rw [hd] at h; cases h; exact Nat.le_of_ble_eq_true hn, true, r, s.mem, none, by unfold Wanted; rw [hg], fun _ => ⟨rfl, rfl, b, hb, he⟩, (by intro h; cases h), by rw [hd]; rfl⟩, hk⟩
theorem st_al {d i : Nat} {blk : Blk} (hd : o.dst = some d) (hg : o.guard = none) (hb : lookO s.mem i = none) (he : ∀ m, lookO m i = none → EffW E o m (s.eval E) r ((i, blk) :: m) none) (hn : Nat.blt d s.n = true) (hk : AOps E ops os cs ⟨s.n, upd d r s.tmps, (i, blk) :: s.mem⟩ K) : AOps E ops (o :: os) (.al i :: cs) s K :=
 ⟨⟨s.n, upd d r s.tmps, (i, blk) :: s.mem⟩, ⟨fun d' h => by rw [hd] at h; cases h; exact Nat.le_of_ble_eq_true hn, true, r, (i, blk) :: s.mem, none, by unfold Wanted; rw [hg], fun _ => ⟨rfl, blk, rfl, hb, he⟩, (by intro h; cases h), by rw [hd]; rfl⟩, hk⟩
end
section
variable {E : Env} {w0 : World} {M0 : Nat → Prop}
theorem MFits.get {w : World} {M : Nat → Prop} : ∀ {es : List (Value × G)} {l : List MapEntry} {j : Nat} {e : MapEntry}, MFits w M es l → l[j]? = some e → ∃ k g, es[j]? = some (k, g) ∧ e.key = k ∧ g.p w M e.val
 | [], [], _, _, _, h => by simp at h
 | (k, g) :: _, e' :: _, 0, e, h, he => by
  simp at he; subst he
  exact ⟨k, g, rfl, h.1.1, h.1.2⟩
 | _ :: _, _ :: _, j + 1, e, h, he => by
  obtain ⟨k, g, h1, h2⟩ := MFits.get h.2 (by simpa using he);exact ⟨k, g, by simpa using h1, h2⟩
 | [], _ :: _, _, _, h, _ => h.elim
 | _ :: _, [], _, _, h, _ => h.elim
theorem MFits.length {w : World} {M : Nat → Prop} : ∀ {es : List (Value × G)} {l : List MapEntry}, MFits w M es l → l.length = es.length
 | [], [], _ => rfl
 | (_, _) :: _, _ :: _, h => by simp [MFits.length h.2]
 | [], _ :: _, h => h.elim
 | _ :: _, [], h => h.elim
theorem eff_slD {α : Type} {f : α → List G} {l : List α} {o : Oper} {ev : Operand → TV} {t el : TypeId} {x : Operand} {lo : Option Operand} {k a : Nat} {b : Bool} (ho : o.op = .slice t x lo none none) (ht : E.P.underlying t = some (.slice el)) (hk : tyK E.P el = some (k, b)) (hx : ev x = .g (.sl k (l.map f)))
  (hlo : BndV ev lo a 0) (hac : a ≤ l.length) (mem : Mem) : Eff E o mem ev (.g (.sl k ((l.drop a).map f))) := by
 have := eff_slG (f := f) (l := l) ho ht hk hx hlo bnd_none hac (Nat.le_refl _) mem
 rwa [List.take_length] at this
end
section
variable {α : Type}
def MOrd (m : List α) (sn : List Nat) (l : List α) : Prop := sn.Nodup ∧ l.map some = sn.reverse.map (fun j => m[j]?)
theorem MOrd.lt {m : List α} {sn : List Nat} {l : List α} (h : MOrd m sn l) {j : Nat} (hj : j ∈ sn) : j < m.length := by
 have h1 : m[j]? ∈ sn.reverse.map (fun j => m[j]?) := List.mem_map.2 ⟨j, List.mem_reverse.2 hj, rfl⟩;rw [← h.2] at h1;obtain ⟨x, _, hx⟩ := List.mem_map.1 h1;exact (List.getElem?_eq_some_iff.1 hx.symm).1
theorem nodup_sub_len {α : Type} [DecidableEq α] : ∀ {a b : List α}, a.Nodup → (∀ x ∈ a, x ∈ b) → a.length ≤ b.length
 | [], _, _, _ => Nat.zero_le _
 | x :: a, b, hn, hs => by
  obtain ⟨h1, h2⟩ := List.nodup_cons.1 hn;have hx := hs x List.mem_cons_self;have := nodup_sub_len (b := b.erase x) h2 fun y hy => (List.mem_erase_of_ne (fun e => h1 (by rw [← e]; exact hy))).2 (hs y (List.mem_cons_of_mem _ hy));rw [List.length_erase_of_mem hx] at this;have : 0 < b.length := List.length_pos_of_mem hx
  simp; omega
theorem MOrd.len {m : List α} {sn : List Nat} {l : List α} (h : MOrd m sn l) : l.length ≤ m.length := by
 have h1 : l.length = sn.length := by have := congrArg List.length h.2; simpa using this
 have := nodup_sub_len h.1 (b := List.range m.length) fun x hx => List.mem_range.2 (h.lt hx)
 simp at this
 omega
end
end Go.Sim
set_option maxRecDepth 10000
namespace Go.Sim
open Go.Proofs
def s1170_l1 (a1 : Int → Bool) : List Int → Nat → Int
 | [], k2 => (-1)
 | y3 :: t4, k2 => (bif (a1 y3) then ((k2 : Nat) : Int) else s1170_l1 a1 t4 (k2 + 1))
def s1170 (a0 : List Int) (a1 : Int → Bool) : Int :=
 s1170_l1 a1 a0 0
theorem c1170 {g : List (Nat × List Value)} (a0 : List Int) (a1 : Int → Bool) {ca1 : G} {ia1 : FuncId} {ka1 : List G} (ha1 : FnIs ca1 ia1 ka1) (Ka1 : Known Tryz.prog ia1) (Ha1 : ∀ (x0 : Int), Con (EG g) ia1 ([G.int x0] ++ ka1) (G.bool (a1 x0)))   : Con (EG g) 135 [G.sl 1 (List.map cInt a0), ca1] (G.int (s1170 a0 a1)) := by
 generalize hR : s1170 a0 a1 = R;unfold s1170 at hR;refine con_of_aw Tryz.func135 rfl rfl fun w0 M0 => ?_;refine len_sl (f := cInt) (l := a0) 0 rfl fun hla0 => ?_;refine aw_seq ?_;refine aw_region [.p] ?_;refine st rfl rfl (eff_assigng rfl rfl) rfl ?_;refine st_nil ?_;refine aw_seq ?_;refine aw_seq ?_;refine aw_region [.p, .p, .p] ?_;refine st rfl rfl (eff_moveg rfl rfl) rfl ?_;refine st rfl rfl (eff_lenM (f := cInt) (l := a0) rfl Tryz.underlying51 rfl) rfl ?_;refine st rfl rfl (eff_moveg rfl rfl) rfl ?_;refine st_nil ?_;refine aw_block ?_;refine aw_loop_g (γ := Nat × (List Int)) (fun g => ([(0, .g (G.sl 1 (List.map cInt a0))), (1, .g (ca1)), (7, .g (G.int (List.length a0 : Int))), (8, .g (G.int ((g.1 : Nat) : Int)))], [])) (fun g => a0.drop g.1 = g.2 ∧ s1170_l1 a1 g.2 g.1 = R) (fun g => List.length g.2) ⟨rfl, (0, a0), ⟨rfl, rfl, rfl, rfl, trivial⟩, trivial, rfl, ⟨rfl, hR⟩, trivial⟩ ?_
 ·rintro ⟨k2, t4⟩ ⟨hd, hR⟩;replace hd : a0.drop k2 = t4 := hd;replace hR : s1170_l1 a1 t4 k2 = R := hR;refine aw_seq ?_;refine aw_region [.p] ?_;refine st rfl rfl (eff_lss rfl rfl rfl) rfl ?_;refine st_nil ?_;refine len_sl (f := cInt) (l := a0) 0 rfl fun hlz1 => ?_;refine aw_seq ?_;refine aw_cond _ rfl (fun h1 => ?_) (fun h1 => ?_)
  ·replace h1 : (decide (((k2 : Nat) : Int) < (List.length a0 : Int))) = true := h1;obtain ⟨y3, t4, rfl, hx1, hd⟩ := drop_cons hd (decT h1);replace h1 := decT h1;rw [s1170_l1] at hR;(try dsimp only at hR);refine aw_skip ?_;refine aw_seq ?_;refine aw_block ?_;refine aw_seq ?_;refine aw_region [.p, .p] ?_;refine st rfl rfl (eff_moveg rfl rfl) rfl ?_;refine st rfl rfl (eff_assigng rfl rfl) rfl ?_;refine st_nil ?_;refine aw_seq ?_;refine aw_region [.p, .p, .p, .p, .p, .p] ?_;refine st rfl rfl (eff_moveg rfl rfl) rfl ?_;refine st rfl rfl (eff_moveg rfl rfl) rfl ?_;refine st rfl rfl (eff_moveg rfl rfl) rfl ?_;refine st rfl rfl (eff_ix (f := cInt) (l := a0) (a := y3) rfl Tryz.underlying51 ty3 rfl rfl (Int.natCast_nonneg _) hx1) rfl ?_;refine st rfl rfl (eff_load rfl ty3 rfl) rfl ?_;refine st rfl rfl (eff_callf rfl ha1 Ka1 rfl (Ha1 y3) (ag_cons rfl ag_nil)) rfl ?_;refine st_nil ?_;refine aw_cond _ rfl (fun h3 => ?_) (fun h3 => ?_)
   ·replace h3 : ((a1 y3)) = true := h3;replace hR := condT hR h3;(try simp only [Bool.or_eq_true, Bool.and_eq_true, Bool.or_eq_false_iff, Bool.and_eq_false_iff, Bool.not_eq_true', Bool.not_eq_false', decide_eq_true_eq, decide_eq_false_iff_not] at h3);refine aw_seq ?_;refine aw_region [.p, .p] ?_;refine st rfl rfl (eff_moveg rfl rfl) rfl ?_;refine st rfl rfl (eff_assigng rfl rfl) rfl ?_;refine st_nil ?_;refine aw_ret ?_;subst hR;exact res_c rfl (rv_g rfl)
   ·replace h3 : ((a1 y3)) = false := h3;replace hR := condF hR h3;(try simp only [Bool.or_eq_true, Bool.and_eq_true, Bool.or_eq_false_iff, Bool.and_eq_false_iff, Bool.not_eq_true', Bool.not_eq_false', decide_eq_true_eq, decide_eq_false_iff_not] at h3);refine aw_skip ?_;refine aw_region [.p, .p] ?_;refine st rfl rfl (eff_add rfl rfl rfl (by unfold I64; omega)) rfl ?_;refine st rfl rfl (eff_moveg rfl rfl) rfl ?_;refine st_nil ?_;exact ⟨rfl, (k2 + 1, t4), ⟨rfl, rfl, rfl, rfl, trivial⟩, trivial, rfl, ⟨hd, hR⟩, by simp⟩
  ·replace h1 : (decide (((k2 : Nat) : Int) < (List.length a0 : Int))) = false := h1;obtain rfl := drop_nil hd (decF h1);rw [s1170_l1] at hR;refine aw_exit ?_;refine aw_seq ?_;refine aw_region [.p] ?_;refine st rfl rfl (eff_assigng rfl rfl) rfl ?_;refine st_nil ?_;refine aw_ret ?_;subst hR;exact res_c rfl (rv_g rfl)
theorem ix_rng {α : Type} (p : α → Bool) (F : List α → Nat → Int) (h0 : ∀ k, F [] k = -1) (h1 : ∀ y t k, F (y :: t) k = bif p y then ((k : Nat) : Int) else F t (k + 1)) :
  ∀ l k, F l k = -1 ∨ ((k : Int) ≤ F l k ∧ F l k < (k : Int) + (l.length : Int))
 | [], k => .inl (h0 k)
 | y :: t, k => by
  rw [h1, List.length_cons]
  cases p y with
  | true => right; simp; omega
  | false =>
   rcases ix_rng p F h0 h1 t (k + 1) with h | h
   ·left; exact h
   ·right; simp only [cond_false]; push_cast at h ⊢; omega
theorem ix1170 (l : List Int) (p : Int → Bool) : s1170 l p = -1 ∨ (0 ≤ s1170 l p ∧ s1170 l p < (l.length : Int)) := by
 have := ix_rng p (s1170_l1 p) (fun _ => rfl) (fun _ _ _ => rfl) l 0
 simpa [s1170] using this
end Go.Sim
set_option maxRecDepth 10000
namespace Go.Sim
open Go.Proofs
def s1146_j1 (rec1 : Int → Int → (List Int) → Option ((List Int) × Nat)) (x2 : Int) (x6 : Int) (x7 : List Int) : Option ((List Int) × Nat) :=
 rec1 x6 (x2 + 1) x7
def s1146_l1 (a0 : List Int) (a1 : Int → Bool) : Nat → Int → Int → (List Int) → Option ((List Int) × Nat)
 | 0, _, _, _ => none
 | k5 + 1, x1, x2, x3 => (bif decide (x2 < (List.length a0 : Int)) then bindO (ixO x3 x2) fun y9 => (bif !(a1 y9) then bindO (ixO x3 x1) fun y10 => s1146_j1 (fun z0_ z1_ z2_ => s1146_l1 a0 a1 k5 z0_ z1_ z2_) x2 (x1 + 1) (List.set x3 (Int.toNat x1) y9) else s1146_j1 (fun z0_ z1_ z2_ => s1146_l1 a0 a1 k5 z0_ z1_ z2_) x2 x1 x3) else some (List.take (Int.toNat x1) x3, Int.toNat x1))
def s1146 (a0 : List Int) (a1 : Int → Bool) : Option ((List Int) × Nat) :=
 (bif decide ((s1170 a0 a1) = (-1)) then some (a0, List.length a0) else s1146_l1 a0 a1 ((((List.length a0 : Int) - ((s1170 a0 a1) + 1)).toNat) + 1) (s1170 a0 a1) ((s1170 a0 a1) + 1) a0)
theorem c1146 {g : List (Nat × List Value)} (a0 : List Int) (a1 : Int → Bool) {R : (List Int) × Nat} {ca1 : G} {ia1 : FuncId} {ka1 : List G} (ha1 : FnIs ca1 ia1 ka1) (Ka1 : Known Tryz.prog ia1) (Ha1 : ∀ (x0 : Int), Con (EG g) ia1 ([G.int x0] ++ ka1) (G.bool (a1 x0)))  (hR : s1146 a0 a1 = some R) : ConT (EG g) 95 [.osl 0 1 0 (List.length a0), .g (ca1)] 3 1 (List.map cInt a0) (List.map cInt R.1) R.2 := by
 unfold s1146 at hR;refine conT_of_aw Tryz.func95 rfl rfl fun w0 M0 x => ?_;refine len_osl (f := cInt) (l := a0) 0 rfl fun hla0 => ?_;have hix := ix1170 a0 a1;refine aw_seq ?_;refine aw_region [.p] ?_;refine st rfl rfl (eff_assigng rfl rfl) rfl ?_;refine st_nil ?_;refine aw_seq ?_;refine aw_region [.p, .p, .r, .p] ?_;refine st rfl rfl (eff_moveO rfl rfl) rfl ?_;refine st rfl rfl (eff_moveg rfl rfl) rfl ?_;refine st_r rfl rfl (eff_callO rfl K1170 rfl (Con.lend (c1170 a0 a1 ha1 Ka1 Ha1)) (agv_osl rfl rfl (agv_cons rfl agv_nil))) rfl ?_;refine st rfl rfl (eff_assigng rfl rfl) rfl ?_;refine st_nil ?_;refine aw_seq ?_;refine aw_seq ?_;refine aw_region [.p, .p] ?_;refine st rfl rfl (eff_moveg rfl rfl) rfl ?_;refine st rfl rfl (eff_eql rfl rfl rfl) rfl ?_;refine st_nil ?_;refine aw_cond _ rfl (fun h1 => ?_) (fun h1 => ?_)
 ·replace h1 : (decide ((s1170 a0 a1) = (-1))) = true := h1;replace hR := condT hR h1;(try simp only [Bool.or_eq_true, Bool.and_eq_true, Bool.or_eq_false_iff, Bool.and_eq_false_iff, Bool.not_eq_true', Bool.not_eq_false', decide_eq_true_eq, decide_eq_false_iff_not] at h1);refine aw_seq ?_;refine aw_region [.p, .p] ?_;refine st rfl rfl (eff_moveO rfl rfl) rfl ?_;refine st rfl rfl (eff_assignO rfl rfl) rfl ?_;refine st_nil ?_;refine aw_ret ?_;obtain rfl := Option.some.inj hR;show (∃ t_, _ ∧ _) ∧ MemL _ _;exact ⟨⟨_, rfl, rfl⟩, rfl, trivial⟩
 ·replace h1 : (decide ((s1170 a0 a1) = (-1))) = false := h1;replace hR := condF hR h1;(try simp only [Bool.or_eq_true, Bool.and_eq_true, Bool.or_eq_false_iff, Bool.and_eq_false_iff, Bool.not_eq_true', Bool.not_eq_false', decide_eq_true_eq, decide_eq_false_iff_not] at h1);refine aw_skip ?_;refine aw_seq ?_;refine aw_seq ?_;refine aw_region [.p, .p, .p] ?_;refine st rfl rfl (eff_moveg rfl rfl) rfl ?_;refine st rfl rfl (eff_add rfl rfl rfl (by unfold I64; (try dsimp only); omega)) rfl ?_;refine st rfl rfl (eff_assigng rfl rfl) rfl ?_;refine st_nil ?_;refine aw_block ?_;refine aw_loop_g (γ := Nat × Int × Int × (List Int)) (fun g => ([(0, .osl 0 1 0 (List.length a0)), (1, .g (ca1)), (5, .g (G.int g.2.1)), (6, .g (G.int g.2.2.1))], [(0, .arr 3 1 (List.map cInt g.2.2.2))])) (fun g => ((List.length a0 : Int) - g.2.2.1).toNat < g.1 ∧ 0 ≤ g.2.1 ∧ g.2.1 < g.2.2.1 ∧ g.2.2.1 ≤ (List.length a0 : Int) ∧ List.length g.2.2.2 = List.length a0 ∧ s1146_l1 a0 a1 g.1 g.2.1 g.2.2.1 g.2.2.2 = some R) (fun g => g.1) ⟨rfl, ((((List.length a0 : Int) - ((s1170 a0 a1) + 1)).toNat) + 1, (s1170 a0 a1), (s1170 a0 a1) + 1, a0), ⟨rfl, rfl, rfl, rfl, trivial⟩, ⟨rfl, trivial⟩, rfl, ⟨Nat.lt_succ_self _, (by first | omega | (dsimp only; omega) | simp), (by first | omega | (dsimp only; omega) | simp), (by first | omega | (dsimp only; omega) | simp), rfl, hR⟩, trivial⟩ ?_
  ·rintro ⟨k5, x1, x2, x3⟩ ⟨hk1, iv1_0, iv1_1, iv1_2, ln4, hR⟩;replace hk1 : ((List.length a0 : Int) - x2).toNat < k5 := hk1;replace hR : s1146_l1 a0 a1 k5 x1 x2 x3 = some R := hR;replace iv1_0 : 0 ≤ x1 := iv1_0;replace iv1_1 : x1 < x2 := iv1_1;replace iv1_2 : x2 ≤ (List.length a0 : Int) := iv1_2;replace ln4 : List.length x3 = List.length a0 := ln4;obtain ⟨k5, rfl⟩ : ∃ m, k5 = m + 1 := ⟨k5 - 1, by omega⟩;rw [s1146_l1] at hR;(try dsimp only at hR);refine aw_seq ?_;refine aw_seq ?_;refine aw_region [.p, .p, .p, .p] ?_;refine st rfl rfl (eff_moveg rfl rfl) rfl ?_;refine st rfl rfl (eff_moveO rfl rfl) rfl ?_;refine st rfl rfl (eff_lenO0 rfl Tryz.underlying51 rfl) rfl ?_;refine st rfl rfl (eff_lss rfl rfl rfl) rfl ?_;refine st_nil ?_;refine aw_cond _ rfl (fun h2 => ?_) (fun h2 => ?_)
   ·replace h2 : (decide (x2 < (List.length a0 : Int))) = true := h2;replace hR := condT hR h2;(try simp only [Bool.or_eq_true, Bool.and_eq_true, Bool.or_eq_false_iff, Bool.and_eq_false_iff, Bool.not_eq_true', Bool.not_eq_false', decide_eq_true_eq, decide_eq_false_iff_not] at h2);refine aw_skip ?_;refine aw_cut_g (γ := Int × (List Int)) (fun g => ([(0, .osl 0 1 0 (List.length a0)), (1, .g (ca1)), (5, .g (G.int g.1)), (6, .g (G.int x2))], [(0, .arr 3 1 (List.map cInt g.2))])) (fun g => 0 ≤ g.1 ∧ g.1 ≤ x2 ∧ List.length g.2 = List.length a0 ∧ s1146_j1 (fun z0_ z1_ z2_ => s1146_l1 a0 a1 k5 z0_ z1_ z2_) x2 g.1 g.2 = some R) ?_ ?_
    ·refine aw_block ?_;refine aw_seq ?_;obtain ⟨y9, by9, hR⟩ := bindO_inv hR;refine aw_region [.p, .p, .p, .r, .p] ?_;refine st rfl rfl (eff_moveO rfl rfl) rfl ?_;refine st rfl rfl (eff_moveg rfl rfl) rfl ?_;refine st rfl rfl (eff_ixL rfl Tryz.underlying51 ty3 rfl rfl (ixO_nn by9) (Nat.lt_of_lt_of_eq (get_lt (ixO_get by9)) ln4)) rfl ?_;refine st_r rfl rfl (eff_ldE (f := cInt) (l := x3) (a := y9) rfl ty3 rfl rfl (ixO_get by9) rfl) rfl ?_;refine st rfl rfl (eff_assigng rfl rfl) rfl ?_;refine st_nil ?_;refine aw_seq ?_;refine aw_region [.p, .p, .p, .p] ?_;refine st rfl rfl (eff_moveg rfl rfl) rfl ?_;refine st rfl rfl (eff_moveg rfl rfl) rfl ?_;refine st rfl rfl (eff_callf rfl ha1 Ka1 rfl (Con.lend (Ha1 y9)) (ag_cons rfl ag_nil)) rfl ?_;refine st rfl rfl (eff_not rfl rfl) rfl ?_;refine st_nil ?_;refine aw_cond _ rfl (fun h3 => ?_) (fun h3 => ?_)
     ·replace h3 : (!(a1 y9)) = true := h3;replace hR := condT hR h3;(try simp only [Bool.or_eq_true, Bool.and_eq_true, Bool.or_eq_false_iff, Bool.and_eq_false_iff, Bool.not_eq_true', Bool.not_eq_false', decide_eq_true_eq, decide_eq_false_iff_not] at h3);refine aw_seq ?_;obtain ⟨y10, by10, hR⟩ := bindO_inv hR;refine aw_region [.p, .p, .p, .p, .w] ?_;refine st rfl rfl (eff_moveO rfl rfl) rfl ?_;refine st rfl rfl (eff_moveg rfl rfl) rfl ?_;refine st rfl rfl (eff_moveg rfl rfl) rfl ?_;refine st rfl rfl (eff_ixL rfl Tryz.underlying51 ty3 rfl rfl (ixO_nn by10) (Nat.lt_of_lt_of_eq (get_lt (ixO_get by10)) ln4)) rfl ?_;refine st_wn rfl rfl (eff_setL (f := cInt) (l := x3) (a' := y9) rfl ty3 rfl rfl rfl (Nat.lt_of_lt_of_eq (Nat.lt_of_lt_of_eq (get_lt (ixO_get by10)) ln4) (Eq.symm ln4)) rfl (fun _ => rfl)) ?_;refine st_nil ?_;refine aw_region [.p, .p, .p] ?_;refine st rfl rfl (eff_moveg rfl rfl) rfl ?_;refine st rfl rfl (eff_add rfl rfl rfl (by unfold I64; (try dsimp only); omega)) rfl ?_;refine st rfl rfl (eff_assigng rfl rfl) rfl ?_;refine st_nil ?_;exact ⟨rfl, (x1 + 1, List.set x3 (Int.toNat x1) y9), ⟨(by simp only [List.length_set]; rfl), rfl, rfl, rfl, trivial⟩, ⟨rfl, trivial⟩, rfl, ⟨(by first | omega | (dsimp only; omega) | (simp at *; omega)), (by first | omega | (dsimp only; omega) | (simp at *; omega)), ((List.length_set ..).trans ln4), hR⟩, trivial⟩
     ·replace h3 : (!(a1 y9)) = false := h3;replace hR := condF hR h3;(try simp only [Bool.or_eq_true, Bool.and_eq_true, Bool.or_eq_false_iff, Bool.and_eq_false_iff, Bool.not_eq_true', Bool.not_eq_false', decide_eq_true_eq, decide_eq_false_iff_not] at h3);refine aw_skip ?_;exact ⟨rfl, (x1, x3), ⟨rfl, rfl, rfl, rfl, trivial⟩, ⟨rfl, trivial⟩, rfl, ⟨(by first | omega | (dsimp only; omega) | (simp at *; omega)), (by first | omega | (dsimp only; omega) | (simp at *; omega)), ln4, hR⟩, trivial⟩
    ·rintro ⟨x6, x7⟩ ⟨jv1_0, jv1_1, ln8, hR⟩;replace jv1_0 : 0 ≤ x6 := jv1_0;replace jv1_1 : x6 ≤ x2 := jv1_1;replace ln8 : List.length x7 = List.length a0 := ln8;replace hR : s1146_j1 (fun z0_ z1_ z2_ => s1146_l1 a0 a1 k5 z0_ z1_ z2_) x2 x6 x7 = some R := hR;unfold s1146_j1 at hR;refine aw_region [.p, .p, .p] ?_;refine st rfl rfl (eff_moveg rfl rfl) rfl ?_;refine st rfl rfl (eff_add rfl rfl rfl (by unfold I64; (try dsimp only); omega)) rfl ?_;refine st rfl rfl (eff_assigng rfl rfl) rfl ?_;refine st_nil ?_;exact ⟨rfl, (k5, x6, x2 + 1, x7), ⟨rfl, rfl, rfl, rfl, trivial⟩, ⟨rfl, trivial⟩, rfl, ⟨(by first | omega | (dsimp only; omega) | (simp at *; omega)), (by first | omega | (dsimp only; omega) | (simp at *; omega)), (by first | omega | (dsimp only; omega) | (simp at *; omega)), (by first | omega | (dsimp only; omega) | (simp at *; omega)), ln8, hR⟩, by simp⟩
   ·replace h2 : (decide (x2 < (List.length a0 : Int))) = false := h2;replace hR := condF hR h2;(try simp only [Bool.or_eq_true, Bool.and_eq_true, Bool.or_eq_false_iff, Bool.and_eq_false_iff, Bool.not_eq_true', Bool.not_eq_false', decide_eq_true_eq, decide_eq_false_iff_not] at h2);refine aw_exit ?_;refine aw_seq ?_;refine aw_region [.p, .p, .p, .w] ?_;refine st rfl rfl (eff_moveO rfl rfl) rfl ?_;refine st rfl rfl (eff_moveg rfl rfl) rfl ?_;refine st rfl rfl (eff_slO (a := Int.toNat x1) (c := List.length a0) rfl Tryz.underlying51 ty3 rfl (bnd_some rfl (by omega)) bnd_none (by omega) (by omega)) rfl ?_;refine st_wn rfl rfl (eff_clearO (f0 := cInt) (l := x3) (a := Int.toNat x1) rfl Tryz.underlying51 z3 rfl ln4 rfl rfl rfl) ?_;refine st_nil ?_;refine aw_seq ?_;refine aw_region [.p, .p, .p, .p] ?_;refine st rfl rfl (eff_moveO rfl rfl) rfl ?_;refine st rfl rfl (eff_moveg rfl rfl) rfl ?_;refine st rfl rfl (eff_slO (a := 0) (c := Int.toNat x1) rfl Tryz.underlying51 ty3 rfl bnd_none (bnd_some rfl (by omega)) (by omega) (by omega)) rfl ?_;refine st rfl rfl (eff_assignO rfl rfl) rfl ?_;refine st_nil ?_;refine aw_ret ?_;obtain rfl := Option.some.inj hR;show (∃ t_, _ ∧ _) ∧ MemL _ _;exact ⟨⟨_, rfl, rfl⟩, rfl, trivial⟩
section
variable {α : Type} (p : α → Bool) (n : Nat) (F : Nat → Int → Int → List α → Option (List α × Nat))
theorem del_loop (h1 : ∀ k i j x, F (k + 1) i j x = bif decide (j < (n : Int)) then bindO (ixO x j) fun y => (bif !(p y) then bindO (ixO x i) fun _ => F k (i + 1) (j + 1) (List.set x (Int.toNat i) y) else F k i (j + 1) x) else some (List.take (Int.toNat i) x, Int.toNat i)) :
  ∀ (t x : List α) (k i j : Nat), x.length = n → i < j → j + t.length = n → x.drop j = t → t.length < k → F k (i : Int) (j : Int) x = some (x.take i ++ t.filter (fun y => !(p y)), i + (t.filter (fun y => !(p y))).length)
 | _, x, 0, i, j, _, _, _, _, h => by omega
 | [], x, k + 1, i, j, hx, hij, hjn, _, _ => by
  rw [h1]
  have : ¬ (j : Int) < (n : Int) := by simp at hjn; omega
  rw [decide_eq_false this, cond_false]; simp
 | y :: t, x, k + 1, i, j, hx, hij, hjn, hd, hk => by
  rw [h1];rw [List.length_cons] at hjn hk
  have hlt : j < x.length := by omega
  have hdy := hd;rw [List.drop_eq_getElem_cons hlt] at hdy;have hy : x[j] = y := (List.cons.inj hdy).1;have ht : x.drop (j + 1) = t := (List.cons.inj hdy).2
  have i1 : ixO x (j : Int) = some y := by unfold ixO; rw [decide_eq_true (by omega), cond_true]; simp [hlt, hy]
  have i2 : ixO x (i : Int) = some x[i] := by unfold ixO; rw [decide_eq_true (by omega), cond_true]; simp [show i < x.length by omega]
  rw [decide_eq_true (show (j : Int) < (n : Int) by omega), cond_true, i1];simp only [bindO]
  cases hp : p y
  ·have e1 : ((i : Int) + 1) = ((i + 1 : Nat) : Int) := by push_cast; rfl
   have e2 : ((j : Int) + 1) = ((j + 1 : Nat) : Int) := by push_cast; rfl
   rw [Bool.not_false, cond_true, i2];simp only [];rw [e1, e2, show Int.toNat (i : Int) = i from rfl, del_loop h1 t (x.set i y) k (i + 1) (j + 1) (by simp [hx]) (by omega) (by omega) (by rw [List.drop_set_of_lt (by omega)]; exact ht) (by omega)]
   have e3 : (x.set i y).take (i + 1) = x.take i ++ [y] := by
    rw [List.take_succ_eq_append_getElem (by simp; omega)];rw [List.take_set_of_le (by omega)]
    simp
   rw [e3, List.filter_cons_of_pos (by simp [hp])];simp only [List.append_assoc, List.singleton_append, List.length_cons]
   congr 2; omega
  ·have e2 : ((j : Int) + 1) = ((j + 1 : Nat) : Int) := by push_cast; rfl
   rw [Bool.not_true, cond_false, e2, del_loop h1 t x k i (j + 1) hx (by omega) (by omega) ht (by omega), List.filter_cons_of_neg (by simp [hp])]
theorem ix_first (G : List α → Nat → Int) (h0 : ∀ k, G [] k = -1) (h1 : ∀ y t k, G (y :: t) k = bif p y then ((k : Nat) : Int) else G t (k + 1)) :
  ∀ l k, (G l k = -1 ∧ ∀ y ∈ l, p y = false) ∨ ∃ (i : Nat) (y : α) (t : List α), G l k = ((k + i : Nat) : Int) ∧ l = l.take i ++ y :: t ∧ i < l.length ∧ p y = true ∧ ∀ z ∈ l.take i, p z = false
 | [], k => .inl ⟨h0 k, by simp⟩
 | y :: t, k => by
  rw [h1]
  cases hp : p y with
  | true => exact .inr ⟨0, y, t, by simp, by simp, by simp, hp, by simp⟩
  | false =>
   rcases ix_first G h0 h1 t (k + 1) with ⟨h, h2⟩ | ⟨i, z, s, h2, h3, h4, h5, h6⟩
   ·exact .inl ⟨h, fun w hw => by rcases List.mem_cons.1 hw with e | e; exact e ▸ hp; exact h2 w e⟩
   ·refine .inr ⟨i + 1, z, s, by rw [cond_false, h2]; congr 1; omega, ?_, by simp; omega, h5, ?_⟩
    ·rw [List.take_succ_cons, List.cons_append, ← h3]
    ·intro w hw;rw [List.take_succ_cons] at hw
     rcases List.mem_cons.1 hw with e | e
     ·rw [e]; exact hp
     ·exact h6 w e
theorem del_ok (h1 : ∀ k i j x, F (k + 1) i j x = bif decide (j < (n : Int)) then bindO (ixO x j) fun y => (bif !(p y) then bindO (ixO x i) fun _ => F k (i + 1) (j + 1) (List.set x (Int.toNat i) y) else F k i (j + 1) x) else some (List.take (Int.toNat i) x, Int.toNat i))
  (G : List α → Nat → Int) (g0 : ∀ k, G [] k = -1) (g1 : ∀ y t k, G (y :: t) k = bif p y then ((k : Nat) : Int) else G t (k + 1)) (l : List α) (hn : l.length = n) :
  ∃ L : List α, (bif decide (G l 0 = (-1)) then some (l, l.length) else F ((((n : Int) - (G l 0 + 1)).toNat) + 1) (G l 0) (G l 0 + 1) l) = some (L, (l.filter (fun y => !(p y))).length) ∧ L.take (l.filter (fun y => !(p y))).length = l.filter (fun y => !(p y)) ∧ (l.filter (fun y => !(p y))).length ≤ L.length := by
 rcases ix_first p G g0 g1 l 0 with ⟨h, h2⟩ | ⟨i, y, t, h2, h3, h4, h5, h6⟩
 ·have hf : l.filter (fun y => !(p y)) = l := List.filter_eq_self.2 fun y hy => by simp [h2 y hy]
  rw [h, decide_eq_true rfl, cond_true, hf];exact ⟨l, rfl, by simp, Nat.le_refl _⟩
 ·rw [h2]
  have hne : ¬ (((0 + i : Nat) : Int) = -1) := by omega
  rw [decide_eq_false hne, cond_false, Nat.zero_add]
  have e2 : ((i : Int) + 1) = ((i + 1 : Nat) : Int) := by push_cast; rfl
  have hd : l.drop (i + 1) = t := by
   have hl : (l.take i).length = i := by rw [List.length_take]; omega
   rw [h3, show i + 1 = (l.take i).length + 1 by rw [hl], List.drop_append]
   simp
  have htl : i + 1 + t.length = n := by
   have := congrArg List.length hd;rw [List.length_drop] at this; omega
  have hfl : l.filter (fun y => !(p y)) = l.take i ++ t.filter (fun y => !(p y)) := by
   conv => lhs; rw [h3]
   rw [List.filter_append, List.filter_cons_of_neg (by simp [h5])]
   congr 1
   exact List.filter_eq_self.2 fun z hz => by simp [h6 z hz]
  have hlen : (l.filter (fun y => !(p y))).length = i + (t.filter (fun y => !(p y))).length := by
   rw [hfl, List.length_append, List.length_take]; omega
  rw [e2, del_loop p n F h1 t l _ i (i + 1) hn (by omega) htl hd (by omega), ← hlen, ← hfl];exact ⟨_, rfl, List.take_length, Nat.le_refl _⟩
end
theorem s1146_ok (l : List Int) (p : Int → Bool) : ∃ L : List Int, s1146 l p = some (L, (l.filter (fun y => !(p y))).length) ∧ L.take (l.filter (fun y => !(p y))).length = l.filter (fun y => !(p y)) ∧ (l.filter (fun y => !(p y))).length ≤ L.length :=
 del_ok p l.length (s1146_l1 l p) (fun _ _ _ _ => rfl) (s1170_l1 p) (fun _ => rfl) (fun _ _ _ => rfl) l rfl
theorem give1146 {l : List Int} {p : Int → Bool} {R : List Int × Nat} (h : s1146 l p = some R) : R.2 ≤ R.1.length := by
 obtain ⟨L, h1, _, h3⟩ := s1146_ok l p;rw [h1] at h; cases h; exact h3
section
variable {E : Env} {w0 : World} {M0 : Nat → Prop}
theorem TFits.forget {w : World} {M : Nat → Prop} {ρ : Rho} : ∀ {cs : List TV} {vs : List Value} (p : Nat), TFits w M ρ cs vs → TFits w M ρ (cs.set p .any) vs
 | [], [], _, _ => trivial
 | _ :: _, _ :: _, 0, h => ⟨⟨trivial, h.1.2⟩, h.2⟩
 | _ :: _, _ :: _, p + 1, h => ⟨h.1, TFits.forget p h.2⟩
 | [], _ :: _, _, h => h.elim
 | _ :: _, [], _, h => h.elim
theorem TFits.give {w : World} {M : Nat → Prop} {ρ : Rho} {tv : TV} {v : Value} (ht : TRel w M ρ tv v) : ∀ {cs : List TV} {vs : List Value} (p : Nat), TFits w M ρ cs vs → vs[p]? = some v → TFits w M ρ (cs.set p tv) vs
 | [], [], _, _, _ => trivial
 | _ :: _, u :: _, 0, h, hv => by simp at hv; subst hv; exact ⟨⟨ht, h.1.2⟩, h.2⟩
 | _ :: _, _ :: _, p + 1, h, hv => ⟨h.1, TFits.give ht p h.2 (by simpa using hv)⟩
 | [], _ :: _, _, h, _ => h.elim
 | _ :: _, [], _, h, _ => h.elim
end
section
variable {E : Env} {ops : Array Oper} {o : Oper} {os : List Oper} {cs : List Cls} {s : ASt} {r : TV} {K : ASt → Prop}
theorem st_wqn {i : Nat} {blk : Blk} (hd : o.dst = none) (hg : o.guard = none) (he : ∀ m, lookO m i = lookO s.mem i → EffW E o m (s.eval E) r ((i, blk) :: m) none) (hk : AOps E ops os cs ⟨s.n, s.tmps, (i, blk) :: s.mem⟩ K) : AOps E ops (o :: os) (.wq i :: cs) s K :=
 ⟨⟨s.n, s.tmps, (i, blk) :: s.mem⟩, ⟨(fun d' h => by rw [hd] at h; cases h), true, r, (i, blk) :: s.mem, none, by unfold Wanted; rw [hg], fun _ => ⟨rfl, blk, fun _ => rfl, he⟩, (by intro h; cases h), by rw [hd]; rfl⟩, hk⟩
end
section
variable {E : Env} {w0 : World} {M0 : Nat → Prop}
def MemF (s : ASt) (b : Nat) (blk : Blk) : Mem → Prop
 | [] => True
 | (i, B) :: r => (bif Nat.beq i b then B = blk else lookO s.mem i = some B) ∧ MemF s b blk r
theorem memF_look {s : ASt} {b : Nat} {blk : Blk} : ∀ {m : Mem}, MemF s b blk m → ∀ i B, lookO m i = some B → (i = b ∧ B = blk) ∨ (i ≠ b ∧ lookO s.mem i = some B)
 | [], _, _, _, h => by cases h
 | (j, B') :: r, hm, i, B, h => by
  simp only [lookO] at h
  cases hj : Nat.beq j i with
  | true =>
   rw [hj] at h;have hji := Nat.eq_of_beq_eq_true hj;subst hji;simp only [cond_true, Option.some.injEq] at h;subst h;have h1 := hm.1
   cases hb : Nat.beq j b with
   | true => rw [hb] at h1; exact .inl ⟨Nat.eq_of_beq_eq_true hb, h1⟩
   | false =>
    rw [hb] at h1;exact .inr ⟨fun e => by subst e; simp at hb, h1⟩
  | false => rw [hj] at h; exact memF_look hm.2 i B h
theorem aw_frzcell {c : Code} {Q : Exit → ASt → Prop} {s : ASt} (b p id k N : Nat) {e : TypeId} {cs : List TV} {xs : List (List G)} {l : List (Nat × TV)} {m : Mem} (hb : lookO s.mem b = some (.box cs)) (hc : cs[p]? = some (.osl id k 0 N)) (hx : lookO s.mem id = some (.arr e k xs)) (hN : xs.length = N)
  (h1 : WeakL s l) (h2 : MemF s b (.box (cs.set p (.g (.sl k xs)))) m) (h3 : closedB l m = true) (hid : lookO m id = none)
  (h : AWp E w0 M0 c Q (stt s.n l m)) (hbw : bowIn E m = true := by rfl) : AWp E w0 M0 c Q s := by
 intro a w ha;refine h a w ?_;obtain ⟨ρ, hm, hmk, ht⟩ := ha.ex
 let ρ' : Rho := fun id => if (lookO m id).isSome = true then ρ id else none
 have hρ : ∀ id, (lookO m id).isSome = true → ρ' id = ρ id := fun id hi => by simp only [ρ', if_pos hi]
 have hρ' : ∀ id x, ρ' id = some x → ρ id = some x ∧ (lookO m id).isSome = true := by
  intro id x hx;simp only [ρ'] at hx
  split at hx
  ·rename_i hi; exact ⟨hx, hi⟩
  ·cases hx
 have hM : ∀ b, owned M0 ρ' b → owned M0 ρ b := by
  rintro b (hb | ⟨id, o, ho, rfl⟩)
  ·exact .inl hb
  ·exact .inr ⟨id, o, (hρ' id _ ho).1, rfl⟩
 have hlent : lookO E.bow id = none := by
  cases hq : lookO E.bow id with
  | none => rfl
  | some x =>
   have := List.all_eq_true.1 hbw (id, x) (lookO_mem _ hq);simp only [hid] at this
   cases this
 have hno : ∀ ow, ρ id = some (some ow) → ¬ owned M0 ρ' ow.b := by
  rintro ow ho (hM0 | ⟨i, o, hi, he⟩)
  ·exact not_lent hm ho hlent (.inl hM0)
  ·have := hm.inj i id o ow (hρ' i _ hi).1 ho he;subst this;have := (hρ' i _ hi).2;rw [hid] at this; cases this
 simp only [closedB, Bool.and_eq_true, List.all_eq_true] at h3;refine ⟨ha.defers, ha.size, ρ', ⟨hm.below, hm.m0, ?_, ?_, ?_, ?_, ?_, hm.lentM, ?_⟩, hmk.sub hM, ?_⟩
 ·intro g vs hg;have := hm.glob g vs hg;exact ⟨⟨fun hb => this.1.1 (hM _ hb), this.1.2⟩, this.2.mono (fun _ _ _ => rfl) (fun b _ => hM b) this.1.1⟩
 ·intro id x hx;have := (hρ' id x hx).2
  cases hl : lookO m id with
  | none => rw [hl] at this; cases this
  | some b => exact ⟨b, hl⟩
 ·exact fun id ow ho => hm.fresh id ow (hρ' id _ ho).1
 ·exact fun id id' ow ow' ho ho' => hm.inj id id' ow ow' (hρ' id _ ho).1 (hρ' id' _ ho').1
 ·intro id x hx;rw [hρ id (List.all_eq_true.1 hbw (id, x) (lookO_mem _ hx))];exact hm.keep id x hx
 ·intro i blk' hb0;have hb0 : lookO m i = some blk' := hb0
  have hi : (lookO m i).isSome = true := by rw [hb0]; rfl
  rcases memF_look h2 i blk' hb0 with ⟨rfl, rfl⟩ | ⟨_, hold⟩
  ·obtain ⟨ow, ty, vs, g1, g2, g3, g4⟩ := hm.blk i _ hb;have hcl := h3.2 (i, .box (cs.set p (.g (.sl k xs)))) (lookO_mem _ hb0);obtain ⟨v, h4, h5, _⟩ := TFits.get p g4 hc;have hview := osl_view hm hx h5 (Nat.zero_le _) (by rw [hN]; exact Nat.le_refl _);obtain ⟨a', cap, e1, k1, k2, k3, k4, k5, k6⟩ := hview;subst hN;simp only [Nat.sub_zero, List.drop_zero, List.take_length] at e1 k1 k4 k5 k6
   have hv : TRel w (owned M0 ρ') ρ (.g (.sl k xs)) v := by
    refine ⟨a', cap, e1, k1, k2, k5, ?_⟩
    rcases k6 with k6 | ⟨b', o, cur, news, rfl, ⟨ow2, q0, rfl⟩, q1, q2, q3⟩
    ·have : xs = [] := List.eq_nil_of_length_eq_zero k6;subst this;exact .inl ⟨rfl, fun ha => (k3 ha).1⟩
    ·exact .inr ⟨ow2.b, o, rfl, hno ow2 q0, cells_of_fits q1 (q2.mono (fun _ _ _ => rfl) (fun b _ => hM b)) q3⟩
   refine ⟨ow, ty, vs, by rw [hρ i hi]; exact g1, g2, g3, ?_⟩;have hf : TFits w (owned M0 ρ) ρ (cs.set p .any) vs := TFits.forget p g4
   have hf' : TFits w (owned M0 ρ') ρ' (cs.set p .any) vs := hf.sub (m := m) hM hρ fun c hc' => by
    have hall : ∀ c ∈ cs.set p (.g (.sl k xs)), refsIn m c = true := by simpa [blkIn] using hcl
    rcases List.mem_or_eq_of_mem_set hc' with h | rfl
    ·obtain ⟨j, hj⟩ := List.mem_iff_getElem?.1 hc'
     by_cases hjp : p = j
     ·subst hjp;have hlt : p < cs.length := (List.getElem?_eq_some_iff.1 hc).1;rw [List.getElem?_set_self hlt] at hj
      cases hj; rfl
     ·rw [List.getElem?_set_ne hjp] at hj;exact hall c (List.mem_iff_getElem?.2 ⟨j, by rw [List.getElem?_set_ne hjp]; exact hj⟩)
    ·rfl
   have := TFits.give (tv := .g (.sl k xs)) (ρ := ρ') (show TRel w (owned M0 ρ') ρ' (.g (.sl k xs)) v from hv) p hf' h4
   rwa [List.set_set] at this
  ·have := hm.blk i blk' hold
   cases blk' with
   | box cs =>
    obtain ⟨ow, e, vs, g1, g2, g3, g4⟩ := this;have hcl := h3.2 (i, .box cs) (lookO_mem _ hb0);exact ⟨ow, e, vs, by rw [hρ i hi]; exact g1, g2, g3, g4.sub hM hρ (by simpa [blkIn] using hcl)⟩
   | arr e k xs =>
    rcases this with ⟨g1, g2⟩ | ⟨ow, vs, g1, g2, g3, g4, g5, g6, g7⟩
    ·exact .inl ⟨by rw [hρ i hi]; exact g1, g2⟩
    ·exact .inr ⟨ow, vs, by rw [hρ i hi]; exact g1, g2, g3, g4, g5, g6, g7.mono (fun _ _ _ => rfl) (fun b _ => hM b)⟩
   | mp es =>
    obtain ⟨ow, en, cl, g1, g2, g3, g4⟩ := this;exact ⟨ow, en, cl, by rw [hρ i hi]; exact g1, g2, g3.mono (fun _ _ _ => rfl) (fun b _ => hM b), g4⟩
   | obj o =>
    obtain ⟨ow, g1, g2, g3⟩ := this;exact ⟨ow, by rw [hρ i hi]; exact g1, g2, g3⟩
   | mit es seen =>
    obtain ⟨ow, g1, g2, g3⟩ := this;exact ⟨ow, by rw [hρ i hi]; exact g1, g2, g3.mono rfl (fun _ _ _ => rfl) (fun b _ => hM b)⟩
   | gone => trivial
 ·intro i;show TRel _ _ _ (lookT l i) _
  rcases weakL_get h1 i with h4 | ⟨h4, v, h5, h6⟩
  ·rw [h4]; trivial
  ·rw [h4];refine (ht i).sub (m := m) ?_ hM hρ;rw [← h4, h6];exact h3.1 (i, v) h5
end
section
variable {E : Env}
end
section
variable {E : Env} {w0 : World} {M0 : Nat → Prop}
instance (pre : List G) (id k hi : Nat) : PartT (.agl pre id k hi) (pre.map TV.g ++ [.osl id k 0 hi]) := ⟨fun {w M ρ v} h => by
 obtain ⟨vs, ow, p, rfl, h1, h2, h3, h4⟩ := h;show TFits w M ρ _ (vs ++ [_]).toArray.toList;have h5 := tfits_of_fits (ρ := ρ) h1
 have h6 : ∀ {cs : List TV} {us : List Value}, TFits w M ρ cs us → TFits w M ρ (cs ++ [.osl id k 0 hi]) (us ++ [Value.slice (some ⟨ow.b, p, none⟩) hi ow.cap]) := by
  intro cs
  induction cs with
  | nil =>
   intro us hu
   cases us with
   | nil => exact ⟨⟨.inr ⟨ow, h2, Nat.zero_le _, h3, p, by simp, fun h => by simpa using h4 h⟩, rfl⟩, trivial⟩
   | cons _ _ => exact hu.elim
  | cons c cs ih =>
   intro us hu
   cases us with
   | nil => exact hu.elim
   | cons u us => exact ⟨hu.1, ih hu.2⟩
 simpa using h6 h5⟩
end
section
variable {E : Env} {w0 : World} {M0 : Nat → Prop}
def G.ifP (P : Prop) : G := ⟨fun _ _ v => ∃ b : Bool, v = .bool b ∧ (b = true → P), fun h _ _ => h⟩
theorem eff_eqNil {α : Type} {f : α → List G} {l : List α} {o : Oper} {ev : Operand → TV} {t t' el : TypeId} {x y : Operand} {k : Nat} (ho : o.op = .binOp .eql t x y t') (ht : E.P.underlying t = some (.slice el)) (hx : ev x = .g (.sl k (l.map f))) (hy : ev y = .g (.lit (.slice none 0 0))) (mem : Mem) : Eff E o mem ev (.g (.ifP (l = []))) :=
 eff_same (fun w M ρ e he => by
  have h1 := he x (by rw [ho]; simp [Op.operands]);rw [hx] at h1;have h2 := he y (by rw [ho]; simp [Op.operands]);rw [hy] at h2;have h2 : e y = .slice none 0 0 := h2;obtain ⟨a, cap, h3, h4, h5, h6, h7⟩ := h1;rw [List.length_map] at h3 h4;have hq := Go.Ex.run_eqNil (P := E.P) w 9999 t el a l.length cap 0 0 ht;refine ⟨.bool a.isNone, ?_, a.isNone, rfl, fun ha => ?_⟩
  ·simp [execOp, ho, h3, h2, eqGuard, binOp, Op.equal, Op.maxDepth, hq]
  ·have ha : a = none := by cases a <;> simp_all
   rcases h7 with ⟨_, h8⟩ | ⟨b, oo, h8, _⟩
   ·have := h8 ha;exact List.eq_nil_of_length_eq_zero (by omega)
   ·rw [ha] at h8; cases h8) mem
theorem aw_condP {c : Operand} {x y : Code} {P : Prop} {Q : Exit → ASt → Prop} {s : ASt} (hb : s.eval E c = .g (.ifP P)) (ht : P → AWp E w0 M0 x Q s) (hf : AWp E w0 M0 y Q s) : AWp E w0 M0 (.cond c x y) Q s := by
 intro a w ha;obtain ⟨ρ, _, hx⟩ := ha.rel;have hc := hx c;rw [hb] at hc;obtain ⟨b, hc, hP⟩ := hc;have hc' : a.eval c = .bool b := hc
 cases b with
 | true => exact wpIn_cond_true hc' (ht (hP rfl) a w ha)
 | false => exact wpIn_cond_false hc' (hf a w ha)
end
end Go.Sim
set_option maxRecDepth 10000
namespace Go.Sim
open Go.Proofs
theorem n1145 {g : List (Nat × List Value)} (a0 : List Int) (hb : a0.length ≤ 1000) : ConN (EG g) 94 [G.sl 1 (List.map cInt a0)] 3 1 (List.map cInt a0) := by
 refine conN_of_aw Tryz.func94 rfl rfl fun w0 M0 => ?_;refine aw_seq ?_;refine aw_region [.p] ?_;refine st rfl rfl (eff_assigng rfl rfl) rfl ?_;refine st_nil ?_;refine aw_seq ?_;refine aw_seq ?_;refine aw_region [.p, .p] ?_;refine st rfl rfl (eff_moveg rfl rfl) rfl ?_;refine st rfl rfl (eff_eqNil (f := cInt) (l := a0) rfl Tryz.underlying51 rfl rfl) rfl ?_;refine st_nil ?_;refine aw_condP rfl (fun h => ?_) ?_
 ·refine aw_seq ?_;refine aw_region [.p] ?_;refine st rfl rfl (eff_assigng rfl rfl) rfl ?_;refine st_nil ?_;refine aw_ret ?_;exact doneN_nil (E := EG g) rfl rfl (by rw [h]; rfl)
 ·refine aw_skip ?_;refine aw_seq ?_;refine aw_region [.w, .p, .k, .p] ?_;refine st_w rfl rfl (eff_buildSO (xs := List.map cInt []) 5 rfl Tryz.underlying51 ty3 z3 rfl ps_nil rfl (by simp) (by decide) rfl) rfl ?_;refine st rfl rfl (eff_moveg rfl rfl) rfl ?_;refine st_k rfl rfl (eff_appL (f := cInt) (out := []) (new := a0) rfl app82 rfl rfl (src_eq rfl (src_sl (by decide) (by simp [cInt]))) (refsN rfl) (by simp; omega)) rfl ?_;refine st rfl rfl (eff_assignO rfl rfl) rfl ?_;refine st_nil ?_;refine aw_ret ?_;exact doneN_own (E := EG g) rfl rfl rfl (List.length_map ..)
end Go.Sim
set_option maxRecDepth 10000
namespace Go.Sim
open Go.Proofs
def s202 (a0 : Int) : Bool :=
 decide (a0 ≠ a0)
theorem c202 {g : List (Nat × List Value)} (a0 : Int)    : Con (EG g) 143 [G.int a0] (G.bool (s202 a0)) := by
 generalize hR : s202 a0 = R;unfold s202 at hR;refine con_of_aw Tryz.func143 rfl rfl fun w0 M0 => ?_;refine aw_seq ?_;refine aw_region [.p] ?_;refine st rfl rfl (eff_assigng rfl rfl) rfl ?_;refine st_nil ?_;refine aw_seq ?_;refine aw_region [.p, .p, .p, .p] ?_;refine st rfl rfl (eff_moveg rfl rfl) rfl ?_;refine st rfl rfl (eff_moveg rfl rfl) rfl ?_;refine st rfl rfl (eff_neq rfl rfl rfl) rfl ?_;refine st rfl rfl (eff_assigng rfl rfl) rfl ?_;refine st_nil ?_;refine aw_ret ?_;subst hR;exact res_c rfl (rv_g rfl)
section
variable {E : Env} {o : Oper} {ev : Operand → TV}
theorem wrap_u64 {n : Int} (h : 0 ≤ n) (h' : n ≤ 9223372036854775807) : IntKind.u64.wrap n = n := by
 have e : IntKind.u64.wrap n = n % 18446744073709551616 := by
  simp [IntKind.wrap, IntKind.bits, IntKind.signed]
 rw [e]; omega
theorem eff_convu {s t : TypeId} {x : Operand} {n : Int} {ds : TypeDesc} (ho : o.op = .convert s t x) (hs : E.P.underlying s = some ds) (ht : E.P.underlying t = some (.int .u64)) (hx : ev x = .g (.int n)) (h : 0 ≤ n) (h' : n ≤ 9223372036854775807) (mem : Mem) : Eff E o mem ev (.g (.lit (.int .u64 n))) := by
 have := eff_conv (E := E) ho hs ht hx mem
 rwa [wrap_u64 h h'] at this
theorem eff_convi {s t : TypeId} {x : Operand} {n : Int} {ds : TypeDesc} (ho : o.op = .convert s t x) (hs : E.P.underlying s = some ds) (ht : E.P.underlying t = some (.int .i64)) (hx : ev x = .g (.lit (.int .u64 n))) (h : I64 n) (mem : Mem) : Eff E o mem ev (.g (.int n)) := by
 have := eff_conv (E := E) ho hs ht hx mem
 rwa [wrap_i64 h] at this
end
end Go.Sim
set_option maxRecDepth 10000
namespace Go.Sim
open Go.Proofs
def s1194 (a0 : Int) (a1 : Int) : Bool :=
 ((s202 a0) && (!(s202 a1))) || (decide (a0 < a1))
theorem c1194 {g : List (Nat × List Value)} (a0 : Int) (a1 : Int)    : Con (EG g) 160 [G.int a0, G.int a1] (G.bool (s1194 a0 a1)) := by
 generalize hR : s1194 a0 a1 = R;unfold s1194 at hR;refine con_of_aw Tryz.func160 rfl rfl fun w0 M0 => ?_;refine aw_seq ?_;refine aw_region [.p] ?_;refine st rfl rfl (eff_assigng rfl rfl) rfl ?_;refine st_nil ?_;refine aw_seq ?_;refine aw_region [.p, .p, .p, .p, .p, .p, .p, .p, .p, .p, .p, .p, .p] ?_;refine st rfl rfl (eff_moveg rfl rfl) rfl ?_;refine st rfl rfl (eff_call rfl K202 rfl (c202 a0) (ag_cons rfl ag_nil)) rfl ?_;refine st rfl rfl (eff_moveg rfl rfl) rfl ?_;refine st_g rfl rfl rfl (gb_bool _ _) (fun h => eff_moveg rfl rfl) rfl ?_;refine st_g rfl rfl rfl (gb_bool _ _) (fun h => eff_call rfl K202 rfl (c202 a1) (ag_cons (gd h rfl) ag_nil)) rfl ?_;refine st_g rfl rfl rfl (gb_bool _ _) (fun h => eff_not rfl (gd h rfl)) rfl ?_;refine st rfl rfl (eff_and rfl rfl rfl rfl) rfl ?_;refine st rfl rfl (eff_moveg rfl rfl) rfl ?_;refine st_g rfl rfl rfl (gb_bool _ _) (fun h => eff_moveg rfl rfl) rfl ?_;refine st_g rfl rfl rfl (gb_bool _ _) (fun h => eff_moveg rfl rfl) rfl ?_;refine st_g rfl rfl rfl (gb_bool _ _) (fun h => eff_lss rfl (gd h rfl) (gd h rfl)) rfl ?_;refine st rfl rfl (eff_or rfl rfl rfl rfl) rfl ?_;refine st rfl rfl (eff_assigng rfl rfl) rfl ?_;refine st_nil ?_;refine aw_ret ?_;subst hR;exact res_c rfl (rv_g rfl)
end Go.Sim
