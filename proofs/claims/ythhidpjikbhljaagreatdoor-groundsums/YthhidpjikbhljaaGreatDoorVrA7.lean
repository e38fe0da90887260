/-
  What is proved: lemmas and contracts of functions on the way to the law groundSums (part 7).
-/
import Derived.Test.YthhidpjikbhljaaGreatDoorVrA6
import Derived.Test.YthhidpjikbhljaaGreatDoorVrA5
import Derived.Test.YthhidpjikbhljaaGreatDoorVrA3
import Derived.Scope
import Derived.Test.YthhidpjikbhljaaGreatDoorVrA2
import Derived.Maps.RangeRun
set_option linter.unusedSectionVars false
set_option linter.unusedSimpArgs false
set_option linter.unusedVariables false
set_option linter.unnecessarySimpa false
set_option linter.deprecated false
set_option maxRecDepth 10000
namespace Go.Sim
open Go.Proofs
def s90 (a0 : Int) (a1 : Int) (a2 : Int) : Int :=
 (bif (decide (a0 < a1)) || (decide (a2 < a0)) then 3 else 0)
theorem c90 {g : List (Nat × List Value)} (a0 : Int) (a1 : Int) (a2 : Int)    : Con (EG g) 53 [G.int a0, G.int a1, G.int a2] (G.int (s90 a0 a1 a2)) := by
 generalize hR : s90 a0 a1 a2 = R;unfold s90 at hR;refine con_of_aw Tryz.func53 rfl rfl fun w0 M0 => ?_;refine aw_seq ?_;refine aw_region [.p] ?_;refine st rfl rfl (eff_assigng rfl rfl) rfl ?_;refine st_nil ?_;refine aw_seq ?_;refine aw_seq ?_;refine aw_region [.p, .p, .p, .p, .p, .p, .p, .p] ?_;refine st rfl rfl (eff_moveg rfl rfl) rfl ?_;refine st rfl rfl (eff_moveg rfl rfl) rfl ?_;refine st rfl rfl (eff_lss rfl rfl rfl) rfl ?_;refine st rfl rfl (eff_moveg rfl rfl) rfl ?_;refine st_g rfl rfl rfl (gb_bool _ _) (fun h => eff_moveg rfl rfl) rfl ?_;refine st_g rfl rfl rfl (gb_bool _ _) (fun h => eff_moveg rfl rfl) rfl ?_;refine st_g rfl rfl rfl (gb_bool _ _) (fun h => eff_gtr rfl (gd h rfl) (gd h rfl)) rfl ?_;refine st rfl rfl (eff_or rfl rfl rfl rfl) rfl ?_;refine st_nil ?_;refine aw_cond _ rfl (fun h1 => ?_) (fun h1 => ?_)
 ·replace h1 : ((decide (a0 < a1)) || (decide (a2 < a0))) = true := h1;replace hR := condT hR h1;(try simp only [Bool.or_eq_true, Bool.and_eq_true, Bool.or_eq_false_iff, Bool.and_eq_false_iff, Bool.not_eq_true', Bool.not_eq_false', decide_eq_true_eq, decide_eq_false_iff_not] at h1);refine aw_seq ?_;refine aw_region [.p] ?_;refine st rfl rfl (eff_assigng rfl rfl) rfl ?_;refine st_nil ?_;refine aw_ret ?_;subst hR;exact res_c rfl (rv_g rfl)
 ·replace h1 : ((decide (a0 < a1)) || (decide (a2 < a0))) = false := h1;replace hR := condF hR h1;(try simp only [Bool.or_eq_true, Bool.and_eq_true, Bool.or_eq_false_iff, Bool.and_eq_false_iff, Bool.not_eq_true', Bool.not_eq_false', decide_eq_true_eq, decide_eq_false_iff_not] at h1);refine aw_skip ?_;refine aw_seq ?_;refine aw_region [.p] ?_;refine st rfl rfl (eff_assigng rfl rfl) rfl ?_;refine st_nil ?_;refine aw_ret ?_;subst hR;exact res_c rfl (rv_g rfl)
def s89_l1  : List Int → Nat → Int
 | [], k2 => 0
 | y3 :: t4, k2 => (bif decide (y3 ≠ 0) then y3 else s89_l1  t4 (k2 + 1))
def s89 (a0 : List Int) : Int :=
 s89_l1 a0 0
theorem c89 {g : List (Nat × List Value)} (a0 : List Int)    : Con (EG g) 91 [G.sl 1 (List.map cInt a0)] (G.int (s89 a0)) := by
 generalize hR : s89 a0 = R;unfold s89 at hR;refine con_of_aw Tryz.func91 rfl rfl fun w0 M0 => ?_;refine len_sl (f := cInt) (l := a0) 0 rfl fun hla0 => ?_;refine aw_seq ?_;refine aw_region [.p] ?_;refine st rfl rfl (eff_assigng rfl rfl) rfl ?_;refine st_nil ?_;refine aw_seq ?_;refine aw_seq ?_;refine aw_region [.p] ?_;refine st rfl rfl (eff_assigng rfl rfl) rfl ?_;refine st_nil ?_;refine aw_block ?_;refine aw_loop_g (γ := Nat × (List Int)) (fun g => ([(0, .g (G.sl 1 (List.map cInt a0))), (3, .g (G.int ((g.1 : Nat) : Int)))], [])) (fun g => a0.drop g.1 = g.2 ∧ s89_l1  g.2 g.1 = R) (fun g => List.length g.2) ⟨rfl, (0, a0), ⟨rfl, rfl, trivial⟩, trivial, rfl, ⟨rfl, hR⟩, trivial⟩ ?_
 ·rintro ⟨k2, t4⟩ ⟨hd, hR⟩;replace hd : a0.drop k2 = t4 := hd;replace hR : s89_l1  t4 k2 = R := hR;refine aw_seq ?_;refine aw_seq ?_;refine aw_region [.p, .p, .p, .p] ?_;refine st rfl rfl (eff_moveg rfl rfl) rfl ?_;refine st rfl rfl (eff_moveg rfl rfl) rfl ?_;refine st rfl rfl (eff_lenM (f := cInt) (l := a0) rfl Tryz.underlying51 rfl) rfl ?_;refine st rfl rfl (eff_lss rfl rfl rfl) rfl ?_;refine st_nil ?_;refine len_sl (f := cInt) (l := a0) 0 rfl fun hlz1 => ?_;refine aw_cond _ rfl (fun h1 => ?_) (fun h1 => ?_)
  ·replace h1 : (decide (((k2 : Nat) : Int) < (List.length a0 : Int))) = true := h1;obtain ⟨y3, t4, rfl, hx1, hd⟩ := drop_cons hd (decT h1);replace h1 := decT h1;rw [s89_l1] at hR;(try dsimp only at hR);refine aw_skip ?_;refine aw_seq ?_;refine aw_block ?_;refine aw_seq ?_;refine aw_region [.p, .p, .p, .p, .p] ?_;refine st rfl rfl (eff_moveg rfl rfl) rfl ?_;refine st rfl rfl (eff_moveg rfl rfl) rfl ?_;refine st rfl rfl (eff_ix (f := cInt) (l := a0) (a := y3) rfl Tryz.underlying51 ty3 rfl rfl (Int.natCast_nonneg _) hx1) rfl ?_;refine st rfl rfl (eff_load rfl ty3 rfl) rfl ?_;refine st rfl rfl (eff_neq rfl rfl rfl) rfl ?_;refine st_nil ?_;refine aw_cond _ rfl (fun h3 => ?_) (fun h3 => ?_)
   ·replace h3 : (decide (y3 ≠ 0)) = true := h3;replace hR := condT hR h3;(try simp only [Bool.or_eq_true, Bool.and_eq_true, Bool.or_eq_false_iff, Bool.and_eq_false_iff, Bool.not_eq_true', Bool.not_eq_false', decide_eq_true_eq, decide_eq_false_iff_not] at h3);refine aw_seq ?_;refine aw_region [.p, .p, .p, .p, .p] ?_;refine st rfl rfl (eff_moveg rfl rfl) rfl ?_;refine st rfl rfl (eff_moveg rfl rfl) rfl ?_;refine st rfl rfl (eff_ix (f := cInt) (l := a0) (a := y3) rfl Tryz.underlying51 ty3 rfl rfl (Int.natCast_nonneg _) hx1) rfl ?_;refine st rfl rfl (eff_load rfl ty3 rfl) rfl ?_;refine st rfl rfl (eff_assigng rfl rfl) rfl ?_;refine st_nil ?_;refine aw_ret ?_;subst hR;exact res_c rfl (rv_g rfl)
   ·replace h3 : (decide (y3 ≠ 0)) = false := h3;replace hR := condF hR h3;(try simp only [Bool.or_eq_true, Bool.and_eq_true, Bool.or_eq_false_iff, Bool.and_eq_false_iff, Bool.not_eq_true', Bool.not_eq_false', decide_eq_true_eq, decide_eq_false_iff_not] at h3);refine aw_skip ?_;refine aw_region [.p, .p, .p] ?_;refine st rfl rfl (eff_moveg rfl rfl) rfl ?_;refine st rfl rfl (eff_add rfl rfl rfl (by unfold I64; omega)) rfl ?_;refine st rfl rfl (eff_assigng rfl rfl) rfl ?_;refine st_nil ?_;exact ⟨rfl, (k2 + 1, t4), ⟨rfl, rfl, trivial⟩, trivial, rfl, ⟨hd, hR⟩, by simp⟩
  ·replace h1 : (decide (((k2 : Nat) : Int) < (List.length a0 : Int))) = false := h1;obtain rfl := drop_nil hd (decF h1);rw [s89_l1] at hR;refine aw_exit ?_;refine aw_seq ?_;refine aw_region [.p] ?_;refine st rfl rfl (eff_assigng rfl rfl) rfl ?_;refine st_nil ?_;refine aw_ret ?_;subst hR;exact res_c rfl (rv_g rfl)
def s96 (a0 : Int) : Int :=
 (s90 a0 0 143999999)
theorem c96 {g : List (Nat × List Value)} (a0 : Int)    : Con (EG g) 41 [G.int a0] (G.int (s96 a0)) := by
 generalize hR : s96 a0 = R;unfold s96 at hR;refine con_of_aw Tryz.func41 rfl rfl fun w0 M0 => ?_;refine aw_seq ?_;refine aw_region [.p] ?_;refine st rfl rfl (eff_assigng rfl rfl) rfl ?_;refine st_nil ?_;refine aw_seq ?_;refine aw_region [.p, .p, .p] ?_;refine st rfl rfl (eff_moveg rfl rfl) rfl ?_;refine st rfl rfl (eff_call rfl K90 rfl (c90 a0 0 143999999) (ag_cons rfl (ag_cons rfl (ag_cons rfl ag_nil)))) rfl ?_;refine st rfl rfl (eff_assigng rfl rfl) rfl ?_;refine st_nil ?_;refine aw_ret ?_;subst hR;exact res_c rfl (rv_g rfl)
def s1086 (a0 : Bool) (a1 : Int) : Int :=
 (bif a0 then a1 else 0)
theorem c1086 {g : List (Nat × List Value)} (a0 : Bool) (a1 : Int)    : Con (EG g) 86 [G.bool a0, G.int a1] (G.int (s1086 a0 a1)) := by
 generalize hR : s1086 a0 a1 = R;unfold s1086 at hR;refine con_of_aw Tryz.func86 rfl rfl fun w0 M0 => ?_;refine aw_seq ?_;refine aw_region [.p] ?_;refine st rfl rfl (eff_assigng rfl rfl) rfl ?_;refine st_nil ?_;refine aw_seq ?_;refine aw_seq ?_;refine aw_region [.p] ?_;refine st rfl rfl (eff_moveg rfl rfl) rfl ?_;refine st_nil ?_;refine aw_cond _ rfl (fun h1 => ?_) (fun h1 => ?_)
 ·replace h1 : (a0) = true := h1;replace hR := condT hR h1;(try simp only [Bool.or_eq_true, Bool.and_eq_true, Bool.or_eq_false_iff, Bool.and_eq_false_iff, Bool.not_eq_true', Bool.not_eq_false', decide_eq_true_eq, decide_eq_false_iff_not] at h1);refine aw_seq ?_;refine aw_region [.p, .p] ?_;refine st rfl rfl (eff_moveg rfl rfl) rfl ?_;refine st rfl rfl (eff_assigng rfl rfl) rfl ?_;refine st_nil ?_;refine aw_ret ?_;subst hR;exact res_c rfl (rv_g rfl)
 ·replace h1 : (a0) = false := h1;replace hR := condF hR h1;(try simp only [Bool.or_eq_true, Bool.and_eq_true, Bool.or_eq_false_iff, Bool.and_eq_false_iff, Bool.not_eq_true', Bool.not_eq_false', decide_eq_true_eq, decide_eq_false_iff_not] at h1);refine aw_skip ?_;refine aw_seq ?_;refine aw_region [.p] ?_;refine st rfl rfl (eff_assigng rfl rfl) rfl ?_;refine st_nil ?_;refine aw_ret ?_;subst hR;exact res_c rfl (rv_g rfl)
def s1088 (a0 : Int) (a1 : Int) (a2 : Int) : Int :=
 (s1086 ((decide (a0 < a1)) || (decide (a2 < a0))) 3)
theorem c1088 {g : List (Nat × List Value)} (a0 : Int) (a1 : Int) (a2 : Int)    : Con (EG g) 88 [G.int a0, G.int a1, G.int a2] (G.int (s1088 a0 a1 a2)) := by
 generalize hR : s1088 a0 a1 a2 = R;unfold s1088 at hR;refine con_of_aw Tryz.func88 rfl rfl fun w0 M0 => ?_;refine aw_seq ?_;refine aw_region [.p] ?_;refine st rfl rfl (eff_assigng rfl rfl) rfl ?_;refine st_nil ?_;refine aw_seq ?_;refine aw_region [.p, .p, .p, .p, .p, .p, .p, .p, .p, .p] ?_;refine st rfl rfl (eff_moveg rfl rfl) rfl ?_;refine st rfl rfl (eff_moveg rfl rfl) rfl ?_;refine st rfl rfl (eff_lss rfl rfl rfl) rfl ?_;refine st rfl rfl (eff_moveg rfl rfl) rfl ?_;refine st_g rfl rfl rfl (gb_bool _ _) (fun h => eff_moveg rfl rfl) rfl ?_;refine st_g rfl rfl rfl (gb_bool _ _) (fun h => eff_moveg rfl rfl) rfl ?_;refine st_g rfl rfl rfl (gb_bool _ _) (fun h => eff_gtr rfl (gd h rfl) (gd h rfl)) rfl ?_;refine st rfl rfl (eff_or rfl rfl rfl rfl) rfl ?_;refine st rfl rfl (eff_call rfl K1086 rfl (c1086 ((decide (a0 < a1)) || (decide (a2 < a0))) 3) (ag_cons rfl (ag_cons rfl ag_nil))) rfl ?_;refine st rfl rfl (eff_assigng rfl rfl) rfl ?_;refine st_nil ?_;refine aw_ret ?_;subst hR;exact res_c rfl (rv_g rfl)
def s1085_l1  : List Int → Nat → Int
 | [], k2 => 0
 | y3 :: t4, k2 => (bif decide (y3 ≠ 0) then y3 else s1085_l1  t4 (k2 + 1))
def s1085 (a0 : List Int) : Int :=
 s1085_l1 a0 0
theorem c1085 {g : List (Nat × List Value)} (a0 : List Int)    : Con (EG g) 85 [G.sl 1 (List.map cInt a0)] (G.int (s1085 a0)) := by
 generalize hR : s1085 a0 = R;unfold s1085 at hR;refine con_of_aw Tryz.func85 rfl rfl fun w0 M0 => ?_;refine len_sl (f := cInt) (l := a0) 0 rfl fun hla0 => ?_;refine aw_seq ?_;refine aw_region [.p] ?_;refine st rfl rfl (eff_assigng rfl rfl) rfl ?_;refine st_nil ?_;refine aw_seq ?_;refine aw_seq ?_;refine aw_region [.p, .p, .p] ?_;refine st rfl rfl (eff_moveg rfl rfl) rfl ?_;refine st rfl rfl (eff_lenM (f := cInt) (l := a0) rfl Tryz.underlying222 rfl) rfl ?_;refine st rfl rfl (eff_moveg rfl rfl) rfl ?_;refine st_nil ?_;refine aw_block ?_;refine aw_loop_g (γ := Nat × (List Int)) (fun g => ([(5, .g (G.sl 1 (List.map cInt a0))), (6, .g (G.int (List.length a0 : Int))), (7, .g (G.int ((g.1 : Nat) : Int)))], [])) (fun g => a0.drop g.1 = g.2 ∧ s1085_l1  g.2 g.1 = R) (fun g => List.length g.2) ⟨rfl, (0, a0), ⟨rfl, rfl, rfl, trivial⟩, trivial, rfl, ⟨rfl, hR⟩, trivial⟩ ?_
 ·rintro ⟨k2, t4⟩ ⟨hd, hR⟩;replace hd : a0.drop k2 = t4 := hd;replace hR : s1085_l1  t4 k2 = R := hR;refine aw_seq ?_;refine aw_region [.p] ?_;refine st rfl rfl (eff_lss rfl rfl rfl) rfl ?_;refine st_nil ?_;refine len_sl (f := cInt) (l := a0) 5 rfl fun hlz1 => ?_;refine aw_seq ?_;refine aw_cond _ rfl (fun h1 => ?_) (fun h1 => ?_)
  ·replace h1 : (decide (((k2 : Nat) : Int) < (List.length a0 : Int))) = true := h1;obtain ⟨y3, t4, rfl, hx1, hd⟩ := drop_cons hd (decT h1);replace h1 := decT h1;rw [s1085_l1] at hR;(try dsimp only at hR);refine aw_skip ?_;refine aw_seq ?_;refine aw_block ?_;refine aw_seq ?_;refine aw_region [.p, .p, .p] ?_;refine st rfl rfl (eff_ix (f := cInt) (l := a0) (a := y3) rfl Tryz.underlying222 ty37 rfl rfl (Int.natCast_nonneg _) hx1) rfl ?_;refine st rfl rfl (eff_load rfl ty37 rfl) rfl ?_;refine st rfl rfl (eff_assigng rfl rfl) rfl ?_;refine st_nil ?_;refine aw_seq ?_;refine aw_region [.p, .p] ?_;refine st rfl rfl (eff_moveg rfl rfl) rfl ?_;refine st rfl rfl (eff_neq rfl rfl rfl) rfl ?_;refine st_nil ?_;refine aw_cond _ rfl (fun h3 => ?_) (fun h3 => ?_)
   ·replace h3 : (decide (y3 ≠ 0)) = true := h3;replace hR := condT hR h3;(try simp only [Bool.or_eq_true, Bool.and_eq_true, Bool.or_eq_false_iff, Bool.and_eq_false_iff, Bool.not_eq_true', Bool.not_eq_false', decide_eq_true_eq, decide_eq_false_iff_not] at h3);refine aw_seq ?_;refine aw_region [.p, .p] ?_;refine st rfl rfl (eff_moveg rfl rfl) rfl ?_;refine st rfl rfl (eff_assigng rfl rfl) rfl ?_;refine st_nil ?_;refine aw_ret ?_;subst hR;exact res_c rfl (rv_g rfl)
   ·replace h3 : (decide (y3 ≠ 0)) = false := h3;replace hR := condF hR h3;(try simp only [Bool.or_eq_true, Bool.and_eq_true, Bool.or_eq_false_iff, Bool.and_eq_false_iff, Bool.not_eq_true', Bool.not_eq_false', decide_eq_true_eq, decide_eq_false_iff_not] at h3);refine aw_skip ?_;refine aw_region [.p, .p] ?_;refine st rfl rfl (eff_add rfl rfl rfl (by unfold I64; omega)) rfl ?_;refine st rfl rfl (eff_moveg rfl rfl) rfl ?_;refine st_nil ?_;exact ⟨rfl, (k2 + 1, t4), ⟨rfl, rfl, rfl, trivial⟩, trivial, rfl, ⟨hd, hR⟩, by simp⟩
  ·replace h1 : (decide (((k2 : Nat) : Int) < (List.length a0 : Int))) = false := h1;obtain rfl := drop_nil hd (decF h1);rw [s1085_l1] at hR;refine aw_exit ?_;refine aw_seq ?_;refine aw_region [.p] ?_;refine st rfl rfl (eff_assigng rfl rfl) rfl ?_;refine st_nil ?_;refine aw_ret ?_;subst hR;exact res_c rfl (rv_g rfl)
def s1098 (a0 : Int) : Int :=
 (s1088 a0 0 143999999)
theorem c1098 {g : List (Nat × List Value)} (a0 : Int)    : Con (EG g) 98 [G.int a0] (G.int (s1098 a0)) := by
 generalize hR : s1098 a0 = R;unfold s1098 at hR;refine con_of_aw Tryz.func98 rfl rfl fun w0 M0 => ?_;refine aw_seq ?_;refine aw_region [.p] ?_;refine st rfl rfl (eff_assigng rfl rfl) rfl ?_;refine st_nil ?_;refine aw_seq ?_;refine aw_region [.p, .p, .p] ?_;refine st rfl rfl (eff_moveg rfl rfl) rfl ?_;refine st rfl rfl (eff_call rfl K1088 rfl (c1088 a0 0 143999999) (ag_cons rfl (ag_cons rfl (ag_cons rfl ag_nil)))) rfl ?_;refine st rfl rfl (eff_assigng rfl rfl) rfl ?_;refine st_nil ?_;refine aw_ret ?_;subst hR;exact res_c rfl (rv_g rfl)
end Go.Sim
set_option maxRecDepth 10000
namespace Go.Sim
open Go.Proofs
def s91_l1  : List UInt8 → Nat → Bool
 | [], k2 => true
 | y3 :: t4, k2 => (bif (!(((decide (97 ≤ (y3.toNat : Int))) && (decide ((y3.toNat : Int) ≤ 122))) || ((decide (65 ≤ (y3.toNat : Int))) && (decide ((y3.toNat : Int) ≤ 90))))) && ((decide (((k2 : Nat) : Int) = 0)) || ((decide ((y3.toNat : Int) ≠ 95)) && ((decide ((y3.toNat : Int) < 48)) || (decide (57 < (y3.toNat : Int)))))) then false else s91_l1  t4 (k2 + 1))
def s91 (a0 : ByteArray) : Bool :=
 (bif (decide ((ByteArray.size a0 : Int) = 0)) || (decide (24 < (ByteArray.size a0 : Int))) then false else s91_l1 ((ByteArray.data a0).toList) 0)
theorem c91 {g : List (Nat × List Value)} (a0 : ByteArray)    : Con (EG g) 90 [G.str a0] (G.bool (s91 a0)) := by
 generalize hR : s91 a0 = R;unfold s91 at hR;refine con_of_aw Tryz.func90 rfl rfl fun w0 M0 => ?_;refine aw_seq ?_;refine aw_region [.p] ?_;refine st rfl rfl (eff_assigng rfl rfl) rfl ?_;refine st_nil ?_;refine aw_seq ?_;refine aw_seq ?_;refine aw_region [.p, .p, .p, .p, .p, .p, .p, .p] ?_;refine st rfl rfl (eff_moveg rfl rfl) rfl ?_;refine st rfl rfl (eff_lenS rfl Tryz.underlying9 rfl) rfl ?_;refine st rfl rfl (eff_eql rfl rfl rfl) rfl ?_;refine st rfl rfl (eff_moveg rfl rfl) rfl ?_;refine st_g rfl rfl rfl (gb_bool _ _) (fun h => eff_moveg rfl rfl) rfl ?_;refine st_g rfl rfl rfl (gb_bool _ _) (fun h => eff_lenS rfl Tryz.underlying9 (gd h rfl)) rfl ?_;refine st_g rfl rfl rfl (gb_bool _ _) (fun h => eff_gtr rfl (gd h rfl) rfl) rfl ?_;refine st rfl rfl (eff_or rfl rfl rfl rfl) rfl ?_;refine st_nil ?_;refine aw_cond _ rfl (fun h1 => ?_) (fun h1 => ?_)
 ·replace h1 : ((decide ((ByteArray.size a0 : Int) = 0)) || (decide (24 < (ByteArray.size a0 : Int)))) = true := h1;replace hR := condT hR h1;(try simp only [Bool.or_eq_true, Bool.and_eq_true, Bool.or_eq_false_iff, Bool.and_eq_false_iff, Bool.not_eq_true', Bool.not_eq_false', decide_eq_true_eq, decide_eq_false_iff_not] at h1);refine aw_seq ?_;refine aw_region [.p] ?_;refine st rfl rfl (eff_assigng rfl rfl) rfl ?_;refine st_nil ?_;refine aw_ret ?_;subst hR;exact res_c rfl (rv_g rfl)
 ·replace h1 : ((decide ((ByteArray.size a0 : Int) = 0)) || (decide (24 < (ByteArray.size a0 : Int)))) = false := h1;replace hR := condF hR h1;(try simp only [Bool.or_eq_true, Bool.and_eq_true, Bool.or_eq_false_iff, Bool.and_eq_false_iff, Bool.not_eq_true', Bool.not_eq_false', decide_eq_true_eq, decide_eq_false_iff_not] at h1);refine aw_skip ?_;refine aw_seq ?_;refine aw_seq ?_;refine aw_region [.p] ?_;refine st rfl rfl (eff_assigng rfl rfl) rfl ?_;refine st_nil ?_;refine aw_block ?_;refine aw_loop_g (γ := Nat × (List UInt8)) (fun g => ([(0, .g (G.str a0)), (3, .g (G.int ((g.1 : Nat) : Int)))], [])) (fun g => ((ByteArray.data a0).toList).drop g.1 = g.2 ∧ s91_l1  g.2 g.1 = R) (fun g => List.length g.2) ⟨rfl, (0, ((ByteArray.data a0).toList)), ⟨rfl, rfl, trivial⟩, trivial, rfl, ⟨rfl, hR⟩, trivial⟩ ?_
  ·rintro ⟨k2, t4⟩ ⟨hd, hR⟩;replace hd : ((ByteArray.data a0).toList).drop k2 = t4 := hd;replace hR : s91_l1  t4 k2 = R := hR;refine aw_seq ?_;refine aw_seq ?_;refine aw_region [.p, .p, .p, .p] ?_;refine st rfl rfl (eff_moveg rfl rfl) rfl ?_;refine st rfl rfl (eff_moveg rfl rfl) rfl ?_;refine st rfl rfl (eff_lenS rfl Tryz.underlying9 rfl) rfl ?_;refine st rfl rfl (eff_lss rfl rfl rfl) rfl ?_;refine st_nil ?_;refine aw_cond _ rfl (fun h2 => ?_) (fun h2 => ?_)
   ·replace h2 : (decide (((k2 : Nat) : Int) < (ByteArray.size a0 : Int))) = true := h2;obtain ⟨y3, t4, rfl, hx1, hd⟩ := drop_consB hd (decT h2);replace h2 := decT h2;rw [s91_l1] at hR;(try dsimp only at hR);refine aw_skip ?_;refine aw_seq ?_;refine aw_block ?_;refine aw_seq ?_;refine aw_region [.p, .p, .p, .p] ?_;refine st rfl rfl (eff_moveg rfl rfl) rfl ?_;refine st rfl rfl (eff_moveg rfl rfl) rfl ?_;refine st rfl rfl (eff_indexS (b := y3) rfl Tryz.underlying9 rfl rfl (Int.natCast_nonneg _) hx1) rfl ?_;refine st rfl rfl (eff_assigng rfl rfl) rfl ?_;refine st_nil ?_;refine aw_seq ?_;refine aw_region [.p, .p, .p, .p, .p, .p, .p, .p, .p, .p, .p, .p, .p, .p, .p] ?_;refine st rfl rfl (eff_moveg rfl rfl) rfl ?_;refine st rfl rfl (eff_geq rfl rfl rfl) rfl ?_;refine st rfl rfl (eff_moveg rfl rfl) rfl ?_;refine st_g rfl rfl rfl (gb_bool _ _) (fun h => eff_moveg rfl rfl) rfl ?_;refine st_g rfl rfl rfl (gb_bool _ _) (fun h => eff_leq rfl (gd h rfl) rfl) rfl ?_;refine st rfl rfl (eff_and rfl rfl rfl rfl) rfl ?_;refine st rfl rfl (eff_moveg rfl rfl) rfl ?_;refine st_g rfl rfl rfl (gb_bool _ _) (fun h => eff_moveg rfl rfl) rfl ?_;refine st_g rfl rfl rfl (gb_bool _ _) (fun h => eff_geq rfl (gd h rfl) rfl) rfl ?_;refine st_g rfl rfl rfl (gb_bool _ _) (fun h => eff_moveg rfl (gd h rfl)) rfl ?_;refine st_g rfl rfl rfl (gb_if _ _ _) (fun h => eff_moveg rfl rfl) rfl ?_;refine st_g rfl rfl rfl (gb_if _ _ _) (fun h => eff_leq rfl (gd h rfl) rfl) rfl ?_;refine st_g rfl rfl rfl (gb_bool _ _) (fun h => eff_and rfl (gd h rfl) rfl (gd2 h rfl)) rfl ?_;refine st rfl rfl (eff_or rfl rfl rfl rfl) rfl ?_;refine st rfl rfl (eff_assigng rfl rfl) rfl ?_;refine st_nil ?_;refine aw_seq ?_;refine aw_region [.p, .p, .p, .p, .p, .p, .p, .p, .p, .p, .p, .p, .p, .p, .p, .p, .p, .p] ?_;refine st rfl rfl (eff_moveg rfl rfl) rfl ?_;refine st rfl rfl (eff_not rfl rfl) rfl ?_;refine st rfl rfl (eff_moveg rfl rfl) rfl ?_;refine st_g rfl rfl rfl (gb_bool _ _) (fun h => eff_moveg rfl rfl) rfl ?_;refine st_g rfl rfl rfl (gb_bool _ _) (fun h => eff_eql rfl (gd h rfl) rfl) rfl ?_;refine st_g rfl rfl rfl (gb_bool _ _) (fun h => eff_moveg rfl (gd h rfl)) rfl ?_;refine st_g rfl rfl rfl (gb_if _ _ _) (fun h => eff_moveg rfl rfl) rfl ?_;refine st_g rfl rfl rfl (gb_if _ _ _) (fun h => eff_neq rfl (gd h rfl) rfl) rfl ?_;refine st_g rfl rfl rfl (gb_if _ _ _) (fun h => eff_moveg rfl (gd h rfl)) rfl ?_;refine st_g rfl rfl rfl (gb_if _ _ _) (fun h => eff_moveg rfl rfl) rfl ?_;refine st_g rfl rfl rfl (gb_if _ _ _) (fun h => eff_lss rfl (gd h rfl) rfl) rfl ?_;refine st_g rfl rfl rfl (gb_if _ _ _) (fun h => eff_moveg rfl (gd h rfl)) rfl ?_;refine st_g rfl rfl rfl (gb_if _ _ _) (fun h => eff_moveg rfl rfl) rfl ?_;refine st_g rfl rfl rfl (gb_if _ _ _) (fun h => eff_gtr rfl (gd h rfl) rfl) rfl ?_;refine st_g rfl rfl rfl (gb_if _ _ _) (fun h => eff_or rfl (gd h rfl) rfl (gd2 h rfl)) rfl ?_;refine st_g rfl rfl rfl (gb_if _ _ _) (fun h => eff_and rfl (gd h rfl) rfl (gd2 h rfl)) rfl ?_;refine st_g rfl rfl rfl (gb_bool _ _) (fun h => eff_or rfl (gd h rfl) rfl (gd2 h rfl)) rfl ?_;refine st rfl rfl (eff_and rfl rfl rfl rfl) rfl ?_;refine st_nil ?_;refine aw_cond _ rfl (fun h4 => ?_) (fun h4 => ?_)
    ·replace h4 : ((!(((decide (97 ≤ (y3.toNat : Int))) && (decide ((y3.toNat : Int) ≤ 122))) || ((decide (65 ≤ (y3.toNat : Int))) && (decide ((y3.toNat : Int) ≤ 90))))) && ((decide (((k2 : Nat) : Int) = 0)) || ((decide ((y3.toNat : Int) ≠ 95)) && ((decide ((y3.toNat : Int) < 48)) || (decide (57 < (y3.toNat : Int))))))) = true := h4;replace hR := condT hR h4;(try simp only [Bool.or_eq_true, Bool.and_eq_true, Bool.or_eq_false_iff, Bool.and_eq_false_iff, Bool.not_eq_true', Bool.not_eq_false', decide_eq_true_eq, decide_eq_false_iff_not] at h4);refine aw_seq ?_;refine aw_region [.p] ?_;refine st rfl rfl (eff_assigng rfl rfl) rfl ?_;refine st_nil ?_;refine aw_ret ?_;subst hR;exact res_c rfl (rv_g rfl)
    ·replace h4 : ((!(((decide (97 ≤ (y3.toNat : Int))) && (decide ((y3.toNat : Int) ≤ 122))) || ((decide (65 ≤ (y3.toNat : Int))) && (decide ((y3.toNat : Int) ≤ 90))))) && ((decide (((k2 : Nat) : Int) = 0)) || ((decide ((y3.toNat : Int) ≠ 95)) && ((decide ((y3.toNat : Int) < 48)) || (decide (57 < (y3.toNat : Int))))))) = false := h4;replace hR := condF hR h4;(try simp only [Bool.or_eq_true, Bool.and_eq_true, Bool.or_eq_false_iff, Bool.and_eq_false_iff, Bool.not_eq_true', Bool.not_eq_false', decide_eq_true_eq, decide_eq_false_iff_not] at h4);refine aw_skip ?_;refine aw_region [.p, .p, .p] ?_;refine st rfl rfl (eff_moveg rfl rfl) rfl ?_;refine st rfl rfl (eff_add rfl rfl rfl (by unfold I64; omega)) rfl ?_;refine st rfl rfl (eff_assigng rfl rfl) rfl ?_;refine st_nil ?_;exact ⟨rfl, (k2 + 1, t4), ⟨rfl, rfl, trivial⟩, trivial, rfl, ⟨hd, hR⟩, by simp⟩
   ·replace h2 : (decide (((k2 : Nat) : Int) < (ByteArray.size a0 : Int))) = false := h2;obtain rfl := drop_nilB hd (decF h2);rw [s91_l1] at hR;refine aw_exit ?_;refine aw_seq ?_;refine aw_region [.p] ?_;refine st rfl rfl (eff_assigng rfl rfl) rfl ?_;refine st_nil ?_;refine aw_ret ?_;subst hR;exact res_c rfl (rv_g rfl)
def s1093 (a0 : ByteArray) : Int :=
 (bif (!decide (a0 = (⟨#[]⟩))) && (!(s91 a0)) then 1 else 0)
theorem c1093 {g : List (Nat × List Value)} (a0 : ByteArray)    : Con (EG g) 93 [G.str a0] (G.int (s1093 a0)) := by
 generalize hR : s1093 a0 = R;unfold s1093 at hR;refine con_of_aw Tryz.func93 rfl rfl fun w0 M0 => ?_;refine aw_seq ?_;refine aw_region [.p] ?_;refine st rfl rfl (eff_assigng rfl rfl) rfl ?_;refine st_nil ?_;refine aw_seq ?_;refine aw_seq ?_;refine aw_region [.p, .p, .p, .p, .p, .p, .p] ?_;refine st rfl rfl (eff_moveg rfl rfl) rfl ?_;refine st rfl rfl (eff_sne rfl rfl rfl) rfl ?_;refine st rfl rfl (eff_moveg rfl rfl) rfl ?_;refine st_g rfl rfl rfl (gb_bool _ _) (fun h => eff_moveg rfl rfl) rfl ?_;refine st_g rfl rfl rfl (gb_bool _ _) (fun h => eff_call rfl K91 rfl (c91 a0) (ag_cons (gd h rfl) ag_nil)) rfl ?_;refine st_g rfl rfl rfl (gb_bool _ _) (fun h => eff_not rfl (gd h rfl)) rfl ?_;refine st rfl rfl (eff_and rfl rfl rfl rfl) rfl ?_;refine st_nil ?_;refine aw_cond _ rfl (fun h1 => ?_) (fun h1 => ?_)
 ·replace h1 : ((!decide (a0 = (⟨#[]⟩))) && (!(s91 a0))) = true := h1;replace hR := condT hR h1;(try simp only [Bool.or_eq_true, Bool.and_eq_true, Bool.or_eq_false_iff, Bool.and_eq_false_iff, Bool.not_eq_true', Bool.not_eq_false', decide_eq_true_eq, decide_eq_false_iff_not] at h1);refine aw_seq ?_;refine aw_region [.p] ?_;refine st rfl rfl (eff_assigng rfl rfl) rfl ?_;refine st_nil ?_;refine aw_ret ?_;subst hR;exact res_c rfl (rv_g rfl)
 ·replace h1 : ((!decide (a0 = (⟨#[]⟩))) && (!(s91 a0))) = false := h1;replace hR := condF hR h1;(try simp only [Bool.or_eq_true, Bool.and_eq_true, Bool.or_eq_false_iff, Bool.and_eq_false_iff, Bool.not_eq_true', Bool.not_eq_false', decide_eq_true_eq, decide_eq_false_iff_not] at h1);refine aw_skip ?_;refine aw_seq ?_;refine aw_region [.p] ?_;refine st rfl rfl (eff_assigng rfl rfl) rfl ?_;refine st_nil ?_;refine aw_ret ?_;subst hR;exact res_c rfl (rv_g rfl)
def s1101_l1 (a0 : List S1063) (a2 : S1063 → (List S1063) → Int) : List S1063 → Nat → Int
 | [], k2 => 0
 | y3 :: t4, k2 => (bif decide ((a2 y3 (List.take (Int.toNat ((k2 : Nat) : Int)) a0)) ≠ 0) then (a2 y3 (List.take (Int.toNat ((k2 : Nat) : Int)) a0)) else s1101_l1 a0 a2 t4 (k2 + 1))
def s1101 (a0 : List S1063) (a1 : Int) (a2 : S1063 → (List S1063) → Int) : Int :=
 (bif decide (a1 < (List.length a0 : Int)) then 5 else s1101_l1 a0 a2 a0 0)
theorem c1101 {g : List (Nat × List Value)} (a0 : List S1063) (a1 : Int) (a2 : S1063 → (List S1063) → Int) {ca2 : G} {ia2 : FuncId} {ka2 : List G} (ha2 : FnIs ca2 ia2 ka2) (Ka2 : Known Tryz.prog ia2) (Ha2 : ∀ (x0 : S1063) (x1 : List S1063), Con (EG g) ia2 ([G.agg [G.str x0.Terminal, G.str x0.Kind, G.int x0.Length, G.int x0.Step, G.int x0.Most], G.sl 5 (List.map S1063.c x1)] ++ ka2) (G.int (a2 x0 x1)))   : Con (EG g) 101 [G.sl 5 (List.map S1063.c a0), G.int a1, ca2] (G.int (s1101 a0 a1 a2)) := by
 generalize hR : s1101 a0 a1 a2 = R;unfold s1101 at hR;refine con_of_aw Tryz.func101 rfl rfl fun w0 M0 => ?_;refine len_sl (f := S1063.c) (l := a0) 0 rfl fun hla0 => ?_;refine aw_seq ?_;refine aw_region [.p] ?_;refine st rfl rfl (eff_assigng rfl rfl) rfl ?_;refine st_nil ?_;refine aw_seq ?_;refine aw_seq ?_;refine aw_region [.p, .p, .p, .p] ?_;refine st rfl rfl (eff_moveg rfl rfl) rfl ?_;refine st rfl rfl (eff_lenM (f := S1063.c) (l := a0) rfl Tryz.underlying24 rfl) rfl ?_;refine st rfl rfl (eff_moveg rfl rfl) rfl ?_;refine st rfl rfl (eff_gtr rfl rfl rfl) rfl ?_;refine st_nil ?_;refine aw_cond _ rfl (fun h1 => ?_) (fun h1 => ?_)
 ·replace h1 : (decide (a1 < (List.length a0 : Int))) = true := h1;replace hR := condT hR h1;(try simp only [Bool.or_eq_true, Bool.and_eq_true, Bool.or_eq_false_iff, Bool.and_eq_false_iff, Bool.not_eq_true', Bool.not_eq_false', decide_eq_true_eq, decide_eq_false_iff_not] at h1);refine aw_seq ?_;refine aw_region [.p] ?_;refine st rfl rfl (eff_assigng rfl rfl) rfl ?_;refine st_nil ?_;refine aw_ret ?_;subst hR;exact res_c rfl (rv_g rfl)
 ·replace h1 : (decide (a1 < (List.length a0 : Int))) = false := h1;replace hR := condF hR h1;(try simp only [Bool.or_eq_true, Bool.and_eq_true, Bool.or_eq_false_iff, Bool.and_eq_false_iff, Bool.not_eq_true', Bool.not_eq_false', decide_eq_true_eq, decide_eq_false_iff_not] at h1);refine aw_skip ?_;refine aw_seq ?_;refine aw_seq ?_;refine aw_region [.p, .p, .p] ?_;refine st rfl rfl (eff_moveg rfl rfl) rfl ?_;refine st rfl rfl (eff_lenM (f := S1063.c) (l := a0) rfl Tryz.underlying24 rfl) rfl ?_;refine st rfl rfl (eff_moveg rfl rfl) rfl ?_;refine st_nil ?_;refine aw_block ?_;refine aw_loop_g (γ := Nat × (List S1063)) (fun g => ([(0, .g (G.sl 5 (List.map S1063.c a0))), (2, .g (ca2)), (14, .g (G.sl 5 (List.map S1063.c a0))), (15, .g (G.int (List.length a0 : Int))), (16, .g (G.int ((g.1 : Nat) : Int)))], [])) (fun g => a0.drop g.1 = g.2 ∧ s1101_l1 a0 a2 g.2 g.1 = R) (fun g => List.length g.2) ⟨rfl, (0, a0), ⟨rfl, rfl, rfl, rfl, rfl, trivial⟩, trivial, rfl, ⟨rfl, hR⟩, trivial⟩ ?_
  ·rintro ⟨k2, t4⟩ ⟨hd, hR⟩;replace hd : a0.drop k2 = t4 := hd;replace hR : s1101_l1 a0 a2 t4 k2 = R := hR;refine aw_seq ?_;refine aw_region [.p] ?_;refine st rfl rfl (eff_lss rfl rfl rfl) rfl ?_;refine st_nil ?_;refine len_sl (f := S1063.c) (l := a0) 0 rfl fun hlz1 => ?_;refine aw_seq ?_;refine aw_cond _ rfl (fun h2 => ?_) (fun h2 => ?_)
   ·replace h2 : (decide (((k2 : Nat) : Int) < (List.length a0 : Int))) = true := h2;obtain ⟨y3, t4, rfl, hx1, hd⟩ := drop_cons hd (decT h2);replace h2 := decT h2;rw [s1101_l1] at hR;(try dsimp only at hR);refine aw_skip ?_;refine aw_seq ?_;refine aw_block ?_;refine aw_seq ?_;refine aw_region [.p, .p, .p, .w, .p, .w] ?_;refine st rfl rfl (eff_moveg rfl rfl) rfl ?_;refine st rfl rfl (eff_ix (f := S1063.c) (l := a0) (a := y3) rfl Tryz.underlying24 ty1064 rfl rfl (Int.natCast_nonneg _) hx1) rfl ?_;refine st rfl rfl (eff_loadA rfl ty1064 rfl rfl rfl) rfl ?_;refine st_w rfl rfl (eff_alloc 8 rfl z1064 rfl rfl) rfl ?_;refine st rfl rfl (eff_assigng rfl rfl) rfl ?_;refine st_wn rfl rfl (eff_store (tv := .g (G.agg [G.str y3.Terminal, G.str y3.Kind, G.int y3.Length, G.int y3.Step, G.int y3.Most])) rfl ty1064 rfl rfl rfl rfl rfl) ?_;refine st_nil ?_;refine aw_seq ?_;refine aw_draw [.p, .r, .p, .p, .p, .p, .p] (by kernel_rfl) ?_;refine st rfl rfl (eff_moveg rfl rfl) rfl ?_;refine st_r rfl rfl (eff_loadOA rfl ty1064 rfl rfl rfl rfl) rfl ?_;refine st rfl rfl (eff_moveg rfl rfl) rfl ?_;refine st rfl rfl (eff_moveg rfl rfl) rfl ?_;refine st rfl rfl (eff_slG (f := S1063.c) (l := a0) rfl Tryz.underlying24 ty1064 rfl bnd_none (bnd_some rfl (Int.natCast_nonneg _)) (Nat.zero_le _) (le_get hx1)) rfl ?_;refine st rfl rfl (eff_callf rfl ha2 Ka2 rfl (Ha2 y3 (List.take (Int.toNat ((k2 : Nat) : Int)) a0)) (ag_cons rfl (ag_cons rfl ag_nil))) rfl ?_;refine st rfl rfl (eff_assigng rfl rfl) rfl ?_;refine st_nil ?_;refine aw_seq ?_;refine aw_region [.p, .p] ?_;refine st rfl rfl (eff_moveg rfl rfl) rfl ?_;refine st rfl rfl (eff_neq rfl rfl rfl) rfl ?_;refine st_nil ?_;refine aw_cond _ rfl (fun h4 => ?_) (fun h4 => ?_)
    ·replace h4 : (decide ((a2 y3 (List.take (Int.toNat ((k2 : Nat) : Int)) a0)) ≠ 0)) = true := h4;replace hR := condT hR h4;(try simp only [Bool.or_eq_true, Bool.and_eq_true, Bool.or_eq_false_iff, Bool.and_eq_false_iff, Bool.not_eq_true', Bool.not_eq_false', decide_eq_true_eq, decide_eq_false_iff_not] at h4);refine aw_seq ?_;refine aw_region [.p, .p] ?_;refine st rfl rfl (eff_moveg rfl rfl) rfl ?_;refine st rfl rfl (eff_assigng rfl rfl) rfl ?_;refine st_nil ?_;refine aw_ret ?_;subst hR;exact res_c rfl (rv_g rfl)
    ·replace h4 : (decide ((a2 y3 (List.take (Int.toNat ((k2 : Nat) : Int)) a0)) ≠ 0)) = false := h4;replace hR := condF hR h4;(try simp only [Bool.or_eq_true, Bool.and_eq_true, Bool.or_eq_false_iff, Bool.and_eq_false_iff, Bool.not_eq_true', Bool.not_eq_false', decide_eq_true_eq, decide_eq_false_iff_not] at h4);refine aw_skip ?_;refine aw_region [.p, .p] ?_;refine st rfl rfl (eff_add rfl rfl rfl (by unfold I64; omega)) rfl ?_;refine st rfl rfl (eff_moveg rfl rfl) rfl ?_;refine st_nil ?_;exact ⟨rfl, (k2 + 1, t4), ⟨rfl, rfl, rfl, rfl, rfl, trivial⟩, trivial, rfl, ⟨hd, hR⟩, by simp⟩
   ·replace h2 : (decide (((k2 : Nat) : Int) < (List.length a0 : Int))) = false := h2;obtain rfl := drop_nil hd (decF h2);rw [s1101_l1] at hR;refine aw_exit ?_;refine aw_seq ?_;refine aw_region [.p] ?_;refine st rfl rfl (eff_assigng rfl rfl) rfl ?_;refine st_nil ?_;refine aw_ret ?_;subst hR;exact res_c rfl (rv_g rfl)
def s148_l1 (a1 : ByteArray) : List ByteArray → Nat → Int
 | [], k2 => (-1)
 | y3 :: t4, k2 => (bif decide (a1 = y3) then ((k2 : Nat) : Int) else s148_l1 a1 t4 (k2 + 1))
def s148 (a0 : List ByteArray) (a1 : ByteArray) : Int :=
 s148_l1 a1 a0 0
theorem c148 {g : List (Nat × List Value)} (a0 : List ByteArray) (a1 : ByteArray)    : Con (EG g) 138 [G.sl 1 (List.map cStr a0), G.str a1] (G.int (s148 a0 a1)) := by
 generalize hR : s148 a0 a1 = R;unfold s148 at hR;refine con_of_aw Tryz.func138 rfl rfl fun w0 M0 => ?_;refine len_sl (f := cStr) (l := a0) 0 rfl fun hla0 => ?_;refine aw_seq ?_;refine aw_region [.p] ?_;refine st rfl rfl (eff_assigng rfl rfl) rfl ?_;refine st_nil ?_;refine aw_seq ?_;refine aw_seq ?_;refine aw_region [.p, .p, .p] ?_;refine st rfl rfl (eff_moveg rfl rfl) rfl ?_;refine st rfl rfl (eff_lenM (f := cStr) (l := a0) rfl Tryz.underlying104 rfl) rfl ?_;refine st rfl rfl (eff_moveg rfl rfl) rfl ?_;refine st_nil ?_;refine aw_block ?_;refine aw_loop_g (γ := Nat × (List ByteArray)) (fun g => ([(0, .g (G.sl 1 (List.map cStr a0))), (1, .g (G.str a1)), (7, .g (G.int (List.length a0 : Int))), (8, .g (G.int ((g.1 : Nat) : Int)))], [])) (fun g => a0.drop g.1 = g.2 ∧ s148_l1 a1 g.2 g.1 = R) (fun g => List.length g.2) ⟨rfl, (0, a0), ⟨rfl, rfl, rfl, rfl, trivial⟩, trivial, rfl, ⟨rfl, hR⟩, trivial⟩ ?_
 ·rintro ⟨k2, t4⟩ ⟨hd, hR⟩;replace hd : a0.drop k2 = t4 := hd;replace hR : s148_l1 a1 t4 k2 = R := hR;refine aw_seq ?_;refine aw_region [.p] ?_;refine st rfl rfl (eff_lss rfl rfl rfl) rfl ?_;refine st_nil ?_;refine len_sl (f := cStr) (l := a0) 0 rfl fun hlz1 => ?_;refine aw_seq ?_;refine aw_cond _ rfl (fun h1 => ?_) (fun h1 => ?_)
  ·replace h1 : (decide (((k2 : Nat) : Int) < (List.length a0 : Int))) = true := h1;obtain ⟨y3, t4, rfl, hx1, hd⟩ := drop_cons hd (decT h1);replace h1 := decT h1;rw [s148_l1] at hR;(try dsimp only at hR);refine aw_skip ?_;refine aw_seq ?_;refine aw_block ?_;refine aw_seq ?_;refine aw_region [.p, .p] ?_;refine st rfl rfl (eff_moveg rfl rfl) rfl ?_;refine st rfl rfl (eff_assigng rfl rfl) rfl ?_;refine st_nil ?_;refine aw_seq ?_;refine aw_region [.p, .p, .p, .p, .p, .p] ?_;refine st rfl rfl (eff_moveg rfl rfl) rfl ?_;refine st rfl rfl (eff_moveg rfl rfl) rfl ?_;refine st rfl rfl (eff_moveg rfl rfl) rfl ?_;refine st rfl rfl (eff_ix (f := cStr) (l := a0) (a := y3) rfl Tryz.underlying104 ty9 rfl rfl (Int.natCast_nonneg _) hx1) rfl ?_;refine st rfl rfl (eff_load rfl ty9 rfl) rfl ?_;refine st rfl rfl (eff_seq rfl rfl rfl) rfl ?_;refine st_nil ?_;refine aw_cond _ rfl (fun h3 => ?_) (fun h3 => ?_)
   ·replace h3 : (decide (a1 = y3)) = true := h3;replace hR := condT hR h3;(try simp only [Bool.or_eq_true, Bool.and_eq_true, Bool.or_eq_false_iff, Bool.and_eq_false_iff, Bool.not_eq_true', Bool.not_eq_false', decide_eq_true_eq, decide_eq_false_iff_not] at h3);refine aw_seq ?_;refine aw_region [.p, .p] ?_;refine st rfl rfl (eff_moveg rfl rfl) rfl ?_;refine st rfl rfl (eff_assigng rfl rfl) rfl ?_;refine st_nil ?_;refine aw_ret ?_;subst hR;exact res_c rfl (rv_g rfl)
   ·replace h3 : (decide (a1 = y3)) = false := h3;replace hR := condF hR h3;(try simp only [Bool.or_eq_true, Bool.and_eq_true, Bool.or_eq_false_iff, Bool.and_eq_false_iff, Bool.not_eq_true', Bool.not_eq_false', decide_eq_true_eq, decide_eq_false_iff_not] at h3);refine aw_skip ?_;refine aw_region [.p, .p] ?_;refine st rfl rfl (eff_add rfl rfl rfl (by unfold I64; omega)) rfl ?_;refine st rfl rfl (eff_moveg rfl rfl) rfl ?_;refine st_nil ?_;exact ⟨rfl, (k2 + 1, t4), ⟨rfl, rfl, rfl, rfl, trivial⟩, trivial, rfl, ⟨hd, hR⟩, by simp⟩
  ·replace h1 : (decide (((k2 : Nat) : Int) < (List.length a0 : Int))) = false := h1;obtain rfl := drop_nil hd (decF h1);rw [s148_l1] at hR;refine aw_exit ?_;refine aw_seq ?_;refine aw_region [.p] ?_;refine st rfl rfl (eff_assigng rfl rfl) rfl ?_;refine st_nil ?_;refine aw_ret ?_;subst hR;exact res_c rfl (rv_g rfl)
def s88 (a0 : List ByteArray) (a1 : ByteArray) : Bool :=
 decide (0 ≤ (s148 a0 a1))
theorem c88 {g : List (Nat × List Value)} (a0 : List ByteArray) (a1 : ByteArray)    : Con (EG g) 103 [G.sl 1 (List.map cStr a0), G.str a1] (G.bool (s88 a0 a1)) := by
 generalize hR : s88 a0 a1 = R;unfold s88 at hR;refine con_of_aw Tryz.func103 rfl rfl fun w0 M0 => ?_;refine len_sl (f := cStr) (l := a0) 0 rfl fun hla0 => ?_;refine aw_seq ?_;refine aw_region [.p] ?_;refine st rfl rfl (eff_assigng rfl rfl) rfl ?_;refine st_nil ?_;refine aw_seq ?_;refine aw_region [.p, .p, .p, .p, .p] ?_;refine st rfl rfl (eff_moveg rfl rfl) rfl ?_;refine st rfl rfl (eff_moveg rfl rfl) rfl ?_;refine st rfl rfl (eff_call rfl K148 rfl (c148 a0 a1) (ag_cons rfl (ag_cons rfl ag_nil))) rfl ?_;refine st rfl rfl (eff_geq rfl rfl rfl) rfl ?_;refine st rfl rfl (eff_assigng rfl rfl) rfl ?_;refine st_nil ?_;refine aw_ret ?_;subst hR;exact res_c rfl (rv_g rfl)
def s147_l1  : List (Int × Int) → Bool
 | [] => true
 | y2 :: t3 => (bif (!(((decide (65 ≤ y2.2)) && (decide (y2.2 ≤ 90))) || ((decide (97 ≤ y2.2)) && (decide (y2.2 ≤ 122))))) && ((decide (y2.1 = 0)) || ((decide (y2.2 ≠ 95)) && ((decide (y2.2 < 48)) || (decide (57 < y2.2))))) then false else s147_l1 t3)
def s147 (a0 : ByteArray) : Bool :=
 (bif (decide ((ByteArray.size a0 : Int) = 0)) || (decide (24 < (ByteArray.size a0 : Int))) then false else s147_l1 (runes a0))
theorem c147 {g : List (Nat × List Value)} (a0 : ByteArray)    : Con (EG g) 87 [G.str a0] (G.bool (s147 a0)) := by
 generalize hR : s147 a0 = R;unfold s147 at hR;refine con_of_aw Tryz.func87 rfl rfl fun w0 M0 => ?_;refine aw_seq ?_;refine aw_region [.p] ?_;refine st rfl rfl (eff_assigng rfl rfl) rfl ?_;refine st_nil ?_;refine aw_seq ?_;refine aw_seq ?_;refine aw_region [.p, .p, .p, .p, .p, .p, .p, .p] ?_;refine st rfl rfl (eff_moveg rfl rfl) rfl ?_;refine st rfl rfl (eff_lenS rfl Tryz.underlying9 rfl) rfl ?_;refine st rfl rfl (eff_eql rfl rfl rfl) rfl ?_;refine st rfl rfl (eff_moveg rfl rfl) rfl ?_;refine st_g rfl rfl rfl (gb_bool _ _) (fun h => eff_moveg rfl rfl) rfl ?_;refine st_g rfl rfl rfl (gb_bool _ _) (fun h => eff_lenS rfl Tryz.underlying9 (gd h rfl)) rfl ?_;refine st_g rfl rfl rfl (gb_bool _ _) (fun h => eff_gtr rfl (gd h rfl) rfl) rfl ?_;refine st rfl rfl (eff_or rfl rfl rfl rfl) rfl ?_;refine st_nil ?_;refine aw_cond _ rfl (fun h1 => ?_) (fun h1 => ?_)
 ·replace h1 : ((decide ((ByteArray.size a0 : Int) = 0)) || (decide (24 < (ByteArray.size a0 : Int)))) = true := h1;replace hR := condT hR h1;(try simp only [Bool.or_eq_true, Bool.and_eq_true, Bool.or_eq_false_iff, Bool.and_eq_false_iff, Bool.not_eq_true', Bool.not_eq_false', decide_eq_true_eq, decide_eq_false_iff_not] at h1);refine aw_seq ?_;refine aw_region [.p] ?_;refine st rfl rfl (eff_assigng rfl rfl) rfl ?_;refine st_nil ?_;refine aw_ret ?_;subst hR;exact res_c rfl (rv_g rfl)
 ·replace h1 : ((decide ((ByteArray.size a0 : Int) = 0)) || (decide (24 < (ByteArray.size a0 : Int)))) = false := h1;replace hR := condF hR h1;(try simp only [Bool.or_eq_true, Bool.and_eq_true, Bool.or_eq_false_iff, Bool.and_eq_false_iff, Bool.not_eq_true', Bool.not_eq_false', decide_eq_true_eq, decide_eq_false_iff_not] at h1);refine aw_skip ?_;refine aw_seq ?_;refine aw_seq ?_;refine aw_region [.p, .w] ?_;refine st rfl rfl (eff_moveg rfl rfl) rfl ?_;refine st_w rfl rfl (eff_rangeS 15 rfl Tryz.underlying9 rfl rfl) rfl ?_;refine st_nil ?_;refine aw_block ?_;refine aw_loop_g (γ := Nat × (List (Int × Int))) (fun g => ([(15, .ptr 15 0)], [(15, .it a0 g.1)])) (fun g => RunesAt a0 g.1 g.2 ∧ s147_l1 g.2 = R) (fun g => List.length g.2) ⟨rfl, (0, runes a0), ⟨rfl, trivial⟩, ⟨rfl, trivial⟩, rfl, ⟨runesAt_start _, hR⟩, trivial⟩ ?_
  ·rintro ⟨p1, t3⟩ ⟨hP, hR⟩;replace hP : RunesAt a0 p1 t3 := hP;replace hR : s147_l1 t3 = R := hR
   cases t3 with
   | nil =>
    rw [s147_l1] at hR;refine aw_seq ?_;refine aw_region [.r, .p] ?_;refine st_r rfl rfl (eff_nextE rfl rfl rfl (runesAt_nil hP)) rfl ?_;refine st rfl rfl (eff_extract rfl rfl rfl) rfl ?_;refine st_nil ?_;refine aw_seq ?_;refine aw_cond _ rfl (fun h2 => ?_) (fun h2 => ?_)
    ·exact Bool.noConfusion h2
    ·refine aw_exit ?_;refine aw_seq ?_;refine aw_region [.p] ?_;refine st rfl rfl (eff_assigng rfl rfl) rfl ?_;refine st_nil ?_;refine aw_ret ?_;subst hR;exact res_c rfl (rv_g rfl)
   | cons y2 t3 =>
    obtain ⟨hlt, hy, hP⟩ := runesAt_cons hP;rw [s147_l1] at hR;refine aw_seq ?_;refine aw_region [.w, .p] ?_;refine st_w rfl rfl (eff_nextY (y := y2) rfl rfl rfl hlt hy) rfl ?_;refine st rfl rfl (eff_extract rfl rfl rfl) rfl ?_;refine st_nil ?_;refine aw_seq ?_;refine aw_cond _ rfl (fun h3 => ?_) (fun h3 => ?_)
    ·refine aw_skip ?_;refine aw_block ?_;refine aw_seq ?_;refine aw_region [.p, .p, .p, .p] ?_;refine st rfl rfl (eff_extract rfl rfl rfl) rfl ?_;refine st rfl rfl (eff_extract rfl rfl rfl) rfl ?_;refine st rfl rfl (eff_assigng rfl rfl) rfl ?_;refine st rfl rfl (eff_assigng rfl rfl) rfl ?_;refine st_nil ?_;refine aw_seq ?_;refine aw_region [.p, .p, .p, .p, .p, .p, .p, .p, .p, .p, .p, .p, .p, .p, .p] ?_;refine st rfl rfl (eff_moveg rfl rfl) rfl ?_;refine st rfl rfl (eff_geq rfl rfl rfl) rfl ?_;refine st rfl rfl (eff_moveg rfl rfl) rfl ?_;refine st_g rfl rfl rfl (gb_bool _ _) (fun h => eff_moveg rfl rfl) rfl ?_;refine st_g rfl rfl rfl (gb_bool _ _) (fun h => eff_leq rfl (gd h rfl) rfl) rfl ?_;refine st rfl rfl (eff_and rfl rfl rfl rfl) rfl ?_;refine st rfl rfl (eff_moveg rfl rfl) rfl ?_;refine st_g rfl rfl rfl (gb_bool _ _) (fun h => eff_moveg rfl rfl) rfl ?_;refine st_g rfl rfl rfl (gb_bool _ _) (fun h => eff_geq rfl (gd h rfl) rfl) rfl ?_;refine st_g rfl rfl rfl (gb_bool _ _) (fun h => eff_moveg rfl (gd h rfl)) rfl ?_;refine st_g rfl rfl rfl (gb_if _ _ _) (fun h => eff_moveg rfl rfl) rfl ?_;refine st_g rfl rfl rfl (gb_if _ _ _) (fun h => eff_leq rfl (gd h rfl) rfl) rfl ?_;refine st_g rfl rfl rfl (gb_bool _ _) (fun h => eff_and rfl (gd h rfl) rfl (gd2 h rfl)) rfl ?_;refine st rfl rfl (eff_or rfl rfl rfl rfl) rfl ?_;refine st rfl rfl (eff_assigng rfl rfl) rfl ?_;refine st_nil ?_;refine aw_seq ?_;refine aw_region [.p, .p, .p, .p, .p, .p, .p, .p, .p, .p, .p, .p, .p, .p, .p, .p, .p, .p] ?_;refine st rfl rfl (eff_moveg rfl rfl) rfl ?_;refine st rfl rfl (eff_not rfl rfl) rfl ?_;refine st rfl rfl (eff_moveg rfl rfl) rfl ?_;refine st_g rfl rfl rfl (gb_bool _ _) (fun h => eff_moveg rfl rfl) rfl ?_;refine st_g rfl rfl rfl (gb_bool _ _) (fun h => eff_eql rfl (gd h rfl) rfl) rfl ?_;refine st_g rfl rfl rfl (gb_bool _ _) (fun h => eff_moveg rfl (gd h rfl)) rfl ?_;refine st_g rfl rfl rfl (gb_if _ _ _) (fun h => eff_moveg rfl rfl) rfl ?_;refine st_g rfl rfl rfl (gb_if _ _ _) (fun h => eff_neq rfl (gd h rfl) rfl) rfl ?_;refine st_g rfl rfl rfl (gb_if _ _ _) (fun h => eff_moveg rfl (gd h rfl)) rfl ?_;refine st_g rfl rfl rfl (gb_if _ _ _) (fun h => eff_moveg rfl rfl) rfl ?_;refine st_g rfl rfl rfl (gb_if _ _ _) (fun h => eff_lss rfl (gd h rfl) rfl) rfl ?_;refine st_g rfl rfl rfl (gb_if _ _ _) (fun h => eff_moveg rfl (gd h rfl)) rfl ?_;refine st_g rfl rfl rfl (gb_if _ _ _) (fun h => eff_moveg rfl rfl) rfl ?_;refine st_g rfl rfl rfl (gb_if _ _ _) (fun h => eff_gtr rfl (gd h rfl) rfl) rfl ?_;refine st_g rfl rfl rfl (gb_if _ _ _) (fun h => eff_or rfl (gd h rfl) rfl (gd2 h rfl)) rfl ?_;refine st_g rfl rfl rfl (gb_if _ _ _) (fun h => eff_and rfl (gd h rfl) rfl (gd2 h rfl)) rfl ?_;refine st_g rfl rfl rfl (gb_bool _ _) (fun h => eff_or rfl (gd h rfl) rfl (gd2 h rfl)) rfl ?_;refine st rfl rfl (eff_and rfl rfl rfl rfl) rfl ?_;refine st_nil ?_;refine aw_cond _ rfl (fun h4 => ?_) (fun h4 => ?_)
     ·replace h4 : ((!(((decide (65 ≤ y2.2)) && (decide (y2.2 ≤ 90))) || ((decide (97 ≤ y2.2)) && (decide (y2.2 ≤ 122))))) && ((decide (y2.1 = 0)) || ((decide (y2.2 ≠ 95)) && ((decide (y2.2 < 48)) || (decide (57 < y2.2)))))) = true := h4;replace hR := condT hR h4;(try simp only [Bool.or_eq_true, Bool.and_eq_true, Bool.or_eq_false_iff, Bool.and_eq_false_iff, Bool.not_eq_true', Bool.not_eq_false', decide_eq_true_eq, decide_eq_false_iff_not] at h4);refine aw_seq ?_;refine aw_region [.p] ?_;refine st rfl rfl (eff_assigng rfl rfl) rfl ?_;refine st_nil ?_;refine aw_ret ?_;subst hR;exact res_c rfl (rv_g rfl)
     ·replace h4 : ((!(((decide (65 ≤ y2.2)) && (decide (y2.2 ≤ 90))) || ((decide (97 ≤ y2.2)) && (decide (y2.2 ≤ 122))))) && ((decide (y2.1 = 0)) || ((decide (y2.2 ≠ 95)) && ((decide (y2.2 < 48)) || (decide (57 < y2.2)))))) = false := h4;replace hR := condF hR h4;(try simp only [Bool.or_eq_true, Bool.and_eq_true, Bool.or_eq_false_iff, Bool.and_eq_false_iff, Bool.not_eq_true', Bool.not_eq_false', decide_eq_true_eq, decide_eq_false_iff_not] at h4);refine aw_skip ?_;exact ⟨rfl, ((p1 + (Utf8.decode a0 p1).2), t3), ⟨rfl, trivial⟩, ⟨rfl, trivial⟩, rfl, ⟨hP, hR⟩, by simp⟩
    ·exact Bool.noConfusion h3
def s1089 (a0 : ByteArray) : Int :=
 (s1086 ((!decide (a0 = (⟨#[]⟩))) && (!(s147 a0))) 1)
theorem c1089 {g : List (Nat × List Value)} (a0 : ByteArray)    : Con (EG g) 89 [G.str a0] (G.int (s1089 a0)) := by
 generalize hR : s1089 a0 = R;unfold s1089 at hR;refine con_of_aw Tryz.func89 rfl rfl fun w0 M0 => ?_;refine aw_seq ?_;refine aw_region [.p] ?_;refine st rfl rfl (eff_assigng rfl rfl) rfl ?_;refine st_nil ?_;refine aw_seq ?_;refine aw_region [.p, .p, .p, .p, .p, .p, .p, .p, .p] ?_;refine st rfl rfl (eff_moveg rfl rfl) rfl ?_;refine st rfl rfl (eff_sne rfl rfl rfl) rfl ?_;refine st rfl rfl (eff_moveg rfl rfl) rfl ?_;refine st_g rfl rfl rfl (gb_bool _ _) (fun h => eff_moveg rfl rfl) rfl ?_;refine st_g rfl rfl rfl (gb_bool _ _) (fun h => eff_call rfl K147 rfl (c147 a0) (ag_cons (gd h rfl) ag_nil)) rfl ?_;refine st_g rfl rfl rfl (gb_bool _ _) (fun h => eff_not rfl (gd h rfl)) rfl ?_;refine st rfl rfl (eff_and rfl rfl rfl rfl) rfl ?_;refine st rfl rfl (eff_call rfl K1086 rfl (c1086 ((!decide (a0 = (⟨#[]⟩))) && (!(s147 a0))) 1) (ag_cons rfl (ag_cons rfl ag_nil))) rfl ?_;refine st rfl rfl (eff_assigng rfl rfl) rfl ?_;refine st_nil ?_;refine aw_ret ?_;subst hR;exact res_c rfl (rv_g rfl)
def s1102 (a0 : S1063) (a1 : List S1063) : Int :=
 (s1085 [(s1089 a0.Terminal), (s1086 (!(s88 [⟨#[65]⟩, ⟨#[68]⟩, ⟨#[84]⟩] a0.Kind)) 13), (s1088 a0.Length 1 1440), (s1088 a0.Step 1 a0.Length), (s1088 a0.Most 0 999999999)])
theorem c1102 {g : List (Nat × List Value)} (a0 : S1063) (a1 : List S1063)    : Con (EG g) 102 [G.agg [G.str a0.Terminal, G.str a0.Kind, G.int a0.Length, G.int a0.Step, G.int a0.Most], G.sl 5 (List.map S1063.c a1)] (G.int (s1102 a0 a1)) := by
 generalize hR : s1102 a0 a1 = R;unfold s1102 at hR;refine con_of_aw Tryz.func102 rfl rfl fun w0 M0 => ?_;refine len_sl (f := S1063.c) (l := a1) 1 rfl fun hla1 => ?_;refine aw_seq ?_;refine aw_region [.p, .p] ?_;refine st rfl rfl (eff_box rfl rfl) rfl ?_;refine st rfl rfl (eff_assigng rfl rfl) rfl ?_;refine st_nil ?_;refine aw_seq ?_;refine aw_region [.p, .p, .p, .p, .p] ?_;refine st rfl rfl (eff_buildSlice rfl Tryz.underlying104 ty9 z9 rfl (ps_cons rfl (ps_cons rfl (ps_cons rfl ps_nil))) rfl (by simp []) (by decide)) rfl ?_;refine st rfl rfl (eff_fieldAddr rfl fl1064_1 rfl) rfl ?_;refine st rfl rfl (eff_load rfl ty9 rfl) rfl ?_;refine st rfl rfl (eff_call rfl K88 rfl (c88 [⟨#[65]⟩, ⟨#[68]⟩, ⟨#[84]⟩] a0.Kind) (ag_cons rfl (ag_cons rfl ag_nil))) rfl ?_;refine st rfl rfl (eff_assigng rfl rfl) rfl ?_;refine st_nil ?_;refine aw_seq ?_;refine aw_draw [.p, .p, .p, .p, .p, .p, .p, .p, .p, .p, .p, .p, .p, .p, .p, .p, .p, .p, .p, .p] (by kernel_rfl) ?_;refine st rfl rfl (eff_fieldAddr rfl fl1064_0 rfl) rfl ?_;refine st rfl rfl (eff_load rfl ty9 rfl) rfl ?_;refine st rfl rfl (eff_call rfl K1089 rfl (c1089 a0.Terminal) (ag_cons rfl ag_nil)) rfl ?_;refine st rfl rfl (eff_moveg rfl rfl) rfl ?_;refine st rfl rfl (eff_not rfl rfl) rfl ?_;refine st rfl rfl (eff_call rfl K1086 rfl (c1086 (!(s88 [⟨#[65]⟩, ⟨#[68]⟩, ⟨#[84]⟩] a0.Kind)) 13) (ag_cons rfl (ag_cons rfl ag_nil))) rfl ?_;refine st rfl rfl (eff_fieldAddr rfl fl1064_2 rfl) rfl ?_;refine st rfl rfl (eff_load rfl ty3 rfl) rfl ?_;refine st rfl rfl (eff_call rfl K1088 rfl (c1088 a0.Length 1 1440) (ag_cons rfl (ag_cons rfl (ag_cons rfl ag_nil)))) rfl ?_;refine st rfl rfl (eff_fieldAddr rfl fl1064_3 rfl) rfl ?_;refine st rfl rfl (eff_load rfl ty3 rfl) rfl ?_;refine st rfl rfl (eff_fieldAddr rfl fl1064_2 rfl) rfl ?_;refine st rfl rfl (eff_load rfl ty3 rfl) rfl ?_;refine st rfl rfl (eff_call rfl K1088 rfl (c1088 a0.Step 1 a0.Length) (ag_cons rfl (ag_cons rfl (ag_cons rfl ag_nil)))) rfl ?_;refine st rfl rfl (eff_fieldAddr rfl fl1064_4 rfl) rfl ?_;refine st rfl rfl (eff_load rfl ty3 rfl) rfl ?_;refine st rfl rfl (eff_call rfl K1088 rfl (c1088 a0.Most 0 999999999) (ag_cons rfl (ag_cons rfl (ag_cons rfl ag_nil)))) rfl ?_;refine st rfl rfl (eff_buildSlice rfl Tryz.underlying222 ty37 z37 rfl (ps_cons rfl (ps_cons rfl (ps_cons rfl (ps_cons rfl (ps_cons rfl ps_nil))))) rfl (by simp []) (by decide)) rfl ?_;refine st rfl rfl (eff_call rfl K1085 rfl (c1085 [(s1089 a0.Terminal), (s1086 (!(s88 [⟨#[65]⟩, ⟨#[68]⟩, ⟨#[84]⟩] a0.Kind)) 13), (s1088 a0.Length 1 1440), (s1088 a0.Step 1 a0.Length), (s1088 a0.Most 0 999999999)]) (ag_cons rfl ag_nil)) rfl ?_;refine st rfl rfl (eff_assigng rfl rfl) rfl ?_;refine st_nil ?_;refine aw_ret ?_;subst hR;exact res_c rfl (rv_g rfl)
def s1029 (a0 : List S1063) : Int :=
 (s1101 a0 32 s1102)
theorem c1029 {g : List (Nat × List Value)} (a0 : List S1063)    : Con (EG g) 29 [G.sl 5 (List.map S1063.c a0)] (G.int (s1029 a0)) := by
 generalize hR : s1029 a0 = R;unfold s1029 at hR;refine con_of_aw Tryz.func29 rfl rfl fun w0 M0 => ?_;refine len_sl (f := S1063.c) (l := a0) 0 rfl fun hla0 => ?_;refine aw_seq ?_;refine aw_region [.p] ?_;refine st rfl rfl (eff_assigng rfl rfl) rfl ?_;refine st_nil ?_;refine aw_seq ?_;refine aw_region [.p, .p, .p] ?_;refine st rfl rfl (eff_moveg rfl rfl) rfl ?_;refine st rfl rfl (eff_call rfl K1101 rfl (c1101 a0 32 s1102 fnis_lit K1102 (fun x0 x1 => c1102 x0 x1)) (ag_cons rfl (ag_cons rfl (ag_cons rfl ag_nil)))) rfl ?_;refine st rfl rfl (eff_assigng rfl rfl) rfl ?_;refine st_nil ?_;refine aw_ret ?_;subst hR;exact res_c rfl (rv_g rfl)
def s1092 (a0 : Int) : Int :=
 (s90 a0 1 9)
theorem c1092 {g : List (Nat × List Value)} (a0 : Int)    : Con (EG g) 92 [G.int a0] (G.int (s1092 a0)) := by
 generalize hR : s1092 a0 = R;unfold s1092 at hR;refine con_of_aw Tryz.func92 rfl rfl fun w0 M0 => ?_;refine aw_seq ?_;refine aw_region [.p] ?_;refine st rfl rfl (eff_assigng rfl rfl) rfl ?_;refine st_nil ?_;refine aw_seq ?_;refine aw_region [.p, .p, .p] ?_;refine st rfl rfl (eff_moveg rfl rfl) rfl ?_;refine st rfl rfl (eff_call rfl K90 rfl (c90 a0 1 9) (ag_cons rfl (ag_cons rfl (ag_cons rfl ag_nil)))) rfl ?_;refine st rfl rfl (eff_assigng rfl rfl) rfl ?_;refine st_nil ?_;refine aw_ret ?_;subst hR;exact res_c rfl (rv_g rfl)
def s1028_j1 (rec1 : Nat → Int) (k2 : Nat) (x6 : Int) : Int :=
 (bif decide (x6 ≠ 0) then x6 else rec1 (k2 + 1))
def s1028_j2 (rec1 : Nat → Int) (k2 : Nat) (y3 : S1079) (x5 : Int) : Int :=
 (bif (decide ((s89 [x5, (s1093 y3.Terminal), (s90 y3.Seats 0 999), (s1092 y3.Size), (s90 y3.Noise 0 99)]) = 0)) && (!(s91 y3.Name)) then s1028_j1 rec1 k2 8 else s1028_j1 rec1 k2 (s89 [x5, (s1093 y3.Terminal), (s90 y3.Seats 0 999), (s1092 y3.Size), (s90 y3.Noise 0 99)]))
def s1028_l1  : List S1079 → Nat → Int
 | [], k2 => 0
 | y3 :: t4, k2 => (bif ((decide ((s96 y3.Moment) = 0)) && (!decide (y3.Kind = (⟨#[65]⟩)))) && (!decide (y3.Kind = (⟨#[68]⟩))) then s1028_j2 (fun k_ => s1028_l1  t4 k_) k2 y3 13 else s1028_j2 (fun k_ => s1028_l1  t4 k_) k2 y3 (s96 y3.Moment))
def s1028 (a0 : List S1079) : Int :=
 (bif decide (256 < (List.length a0 : Int)) then 5 else s1028_l1 a0 0)
theorem c1028 {g : List (Nat × List Value)} (a0 : List S1079)    : Con (EG g) 28 [G.sl 7 (List.map S1079.c a0)] (G.int (s1028 a0)) := by
 generalize hR : s1028 a0 = R;unfold s1028 at hR;refine con_of_aw Tryz.func28 rfl rfl fun w0 M0 => ?_;refine len_sl (f := S1079.c) (l := a0) 0 rfl fun hla0 => ?_;refine aw_seq ?_;refine aw_region [.p] ?_;refine st rfl rfl (eff_assigng rfl rfl) rfl ?_;refine st_nil ?_;refine aw_seq ?_;refine aw_seq ?_;refine aw_region [.p, .p, .p] ?_;refine st rfl rfl (eff_moveg rfl rfl) rfl ?_;refine st rfl rfl (eff_lenM (f := S1079.c) (l := a0) rfl Tryz.underlying25 rfl) rfl ?_;refine st rfl rfl (eff_gtr rfl rfl rfl) rfl ?_;refine st_nil ?_;refine aw_cond _ rfl (fun h1 => ?_) (fun h1 => ?_)
 ·replace h1 : (decide (256 < (List.length a0 : Int))) = true := h1;replace hR := condT hR h1;(try simp only [Bool.or_eq_true, Bool.and_eq_true, Bool.or_eq_false_iff, Bool.and_eq_false_iff, Bool.not_eq_true', Bool.not_eq_false', decide_eq_true_eq, decide_eq_false_iff_not] at h1);refine aw_seq ?_;refine aw_region [.p] ?_;refine st rfl rfl (eff_assigng rfl rfl) rfl ?_;refine st_nil ?_;refine aw_ret ?_;subst hR;exact res_c rfl (rv_g rfl)
 ·replace h1 : (decide (256 < (List.length a0 : Int))) = false := h1;replace hR := condF hR h1;(try simp only [Bool.or_eq_true, Bool.and_eq_true, Bool.or_eq_false_iff, Bool.and_eq_false_iff, Bool.not_eq_true', Bool.not_eq_false', decide_eq_true_eq, decide_eq_false_iff_not] at h1);refine aw_skip ?_;refine aw_seq ?_;refine aw_seq ?_;refine aw_region [.p] ?_;refine st rfl rfl (eff_assigng rfl rfl) rfl ?_;refine st_nil ?_;refine aw_block ?_;refine aw_loop_g (γ := Nat × (List S1079)) (fun g => ([(0, .g (G.sl 7 (List.map S1079.c a0))), (3, .g (G.int ((g.1 : Nat) : Int)))], [])) (fun g => a0.drop g.1 = g.2 ∧ s1028_l1  g.2 g.1 = R) (fun g => List.length g.2) ⟨rfl, (0, a0), ⟨rfl, rfl, trivial⟩, trivial, rfl, ⟨rfl, hR⟩, trivial⟩ ?_
  ·rintro ⟨k2, t4⟩ ⟨hd, hR⟩;replace hd : a0.drop k2 = t4 := hd;replace hR : s1028_l1  t4 k2 = R := hR;refine aw_seq ?_;refine aw_seq ?_;refine aw_region [.p, .p, .p, .p] ?_;refine st rfl rfl (eff_moveg rfl rfl) rfl ?_;refine st rfl rfl (eff_moveg rfl rfl) rfl ?_;refine st rfl rfl (eff_lenM (f := S1079.c) (l := a0) rfl Tryz.underlying25 rfl) rfl ?_;refine st rfl rfl (eff_lss rfl rfl rfl) rfl ?_;refine st_nil ?_;refine len_sl (f := S1079.c) (l := a0) 0 rfl fun hlz1 => ?_;refine aw_cond _ rfl (fun h2 => ?_) (fun h2 => ?_)
   ·replace h2 : (decide (((k2 : Nat) : Int) < (List.length a0 : Int))) = true := h2;obtain ⟨y3, t4, rfl, hx1, hd⟩ := drop_cons hd (decT h2);replace h2 := decT h2;rw [s1028_l1] at hR;(try dsimp only at hR);refine aw_skip ?_;refine aw_seq ?_;refine aw_block ?_;refine aw_seq ?_;refine aw_region [.p, .p, .p, .p, .p, .p, .p] ?_;refine st rfl rfl (eff_moveg rfl rfl) rfl ?_;refine st rfl rfl (eff_moveg rfl rfl) rfl ?_;refine st rfl rfl (eff_ix (f := S1079.c) (l := a0) (a := y3) rfl Tryz.underlying25 ty1080 rfl rfl (Int.natCast_nonneg _) hx1) rfl ?_;refine st rfl rfl (eff_fieldAddr rfl fl1080_0 rfl) rfl ?_;refine st rfl rfl (eff_load rfl ty3 rfl) rfl ?_;refine st rfl rfl (eff_call rfl K96 rfl (c96 y3.Moment) (ag_cons rfl ag_nil)) rfl ?_;refine st rfl rfl (eff_assigng rfl rfl) rfl ?_;refine st_nil ?_;refine aw_cut_g (γ := Int) (fun g => ([(0, .g (G.sl 7 (List.map S1079.c a0))), (3, .g (G.int ((k2 : Nat) : Int))), (4, .g (G.int g))], [])) (fun g => s1028_j2 (fun k_ => s1028_l1  t4 k_) k2 y3 g = R) ?_ ?_
    ·refine aw_seq ?_;refine aw_region [.p, .p, .p, .p, .p, .p, .p, .p, .p, .p, .p, .p, .p, .p, .p, .p, .p, .p] ?_;refine st rfl rfl (eff_moveg rfl rfl) rfl ?_;refine st rfl rfl (eff_eql rfl rfl rfl) rfl ?_;refine st rfl rfl (eff_moveg rfl rfl) rfl ?_;refine st_g rfl rfl rfl (gb_bool _ _) (fun h => eff_moveg rfl rfl) rfl ?_;refine st_g rfl rfl rfl (gb_bool _ _) (fun h => eff_moveg rfl rfl) rfl ?_;refine st_g rfl rfl rfl (gb_bool _ _) (fun h => eff_ix (f := S1079.c) (l := a0) (a := y3) rfl Tryz.underlying25 ty1080 (gd h rfl) (gd h rfl) (Int.natCast_nonneg _) hx1) rfl ?_;refine st_g rfl rfl rfl (gb_bool _ _) (fun h => eff_fieldAddr rfl fl1080_1 (gd h rfl)) rfl ?_;refine st_g rfl rfl rfl (gb_bool _ _) (fun h => eff_load rfl ty9 (gd h rfl)) rfl ?_;refine st_g rfl rfl rfl (gb_bool _ _) (fun h => eff_sne rfl (gd h rfl) rfl) rfl ?_;refine st rfl rfl (eff_and rfl rfl rfl rfl) rfl ?_;refine st rfl rfl (eff_moveg rfl rfl) rfl ?_;refine st_g rfl rfl rfl (gb_bool _ _) (fun h => eff_moveg rfl rfl) rfl ?_;refine st_g rfl rfl rfl (gb_bool _ _) (fun h => eff_moveg rfl rfl) rfl ?_;refine st_g rfl rfl rfl (gb_bool _ _) (fun h => eff_ix (f := S1079.c) (l := a0) (a := y3) rfl Tryz.underlying25 ty1080 (gd h rfl) (gd h rfl) (Int.natCast_nonneg _) hx1) rfl ?_;refine st_g rfl rfl rfl (gb_bool _ _) (fun h => eff_fieldAddr rfl fl1080_1 (gd h rfl)) rfl ?_;refine st_g rfl rfl rfl (gb_bool _ _) (fun h => eff_load rfl ty9 (gd h rfl)) rfl ?_;refine st_g rfl rfl rfl (gb_bool _ _) (fun h => eff_sne rfl (gd h rfl) rfl) rfl ?_;refine st rfl rfl (eff_and rfl rfl rfl rfl) rfl ?_;refine st_nil ?_;refine aw_cond _ rfl (fun h6 => ?_) (fun h6 => ?_)
     ·replace h6 : (((decide ((s96 y3.Moment) = 0)) && (!decide (y3.Kind = (⟨#[65]⟩)))) && (!decide (y3.Kind = (⟨#[68]⟩)))) = true := h6;replace hR := condT hR h6;(try simp only [Bool.or_eq_true, Bool.and_eq_true, Bool.or_eq_false_iff, Bool.and_eq_false_iff, Bool.not_eq_true', Bool.not_eq_false', decide_eq_true_eq, decide_eq_false_iff_not] at h6);refine aw_region [.p] ?_;refine st rfl rfl (eff_assigng rfl rfl) rfl ?_;refine st_nil ?_;exact ⟨rfl, 13, ⟨rfl, rfl, rfl, trivial⟩, trivial, rfl, hR, trivial⟩
     ·replace h6 : (((decide ((s96 y3.Moment) = 0)) && (!decide (y3.Kind = (⟨#[65]⟩)))) && (!decide (y3.Kind = (⟨#[68]⟩)))) = false := h6;replace hR := condF hR h6;(try simp only [Bool.or_eq_true, Bool.and_eq_true, Bool.or_eq_false_iff, Bool.and_eq_false_iff, Bool.not_eq_true', Bool.not_eq_false', decide_eq_true_eq, decide_eq_false_iff_not] at h6);refine aw_skip ?_;exact ⟨rfl, (s96 y3.Moment), ⟨rfl, rfl, rfl, trivial⟩, trivial, rfl, hR, trivial⟩
    ·rintro x5 hR;replace hR : s1028_j2 (fun k_ => s1028_l1  t4 k_) k2 y3 x5 = R := hR;unfold s1028_j2 at hR;refine aw_seq ?_;refine aw_draw [.p, .p, .p, .p, .p, .p, .p, .p, .p, .p, .p, .p, .p, .p, .p, .p, .p, .p, .p, .p, .p, .p, .p, .p, .p, .p, .p, .p] (by kernel_rfl) ?_;refine st rfl rfl (eff_moveg rfl rfl) rfl ?_;refine st rfl rfl (eff_moveg rfl rfl) rfl ?_;refine st rfl rfl (eff_moveg rfl rfl) rfl ?_;refine st rfl rfl (eff_ix (f := S1079.c) (l := a0) (a := y3) rfl Tryz.underlying25 ty1080 rfl rfl (Int.natCast_nonneg _) hx1) rfl ?_;refine st rfl rfl (eff_fieldAddr rfl fl1080_2 rfl) rfl ?_;refine st rfl rfl (eff_load rfl ty9 rfl) rfl ?_;refine st rfl rfl (eff_call rfl K1093 rfl (c1093 y3.Terminal) (ag_cons rfl ag_nil)) rfl ?_;refine st rfl rfl (eff_moveg rfl rfl) rfl ?_;refine st rfl rfl (eff_moveg rfl rfl) rfl ?_;refine st rfl rfl (eff_ix (f := S1079.c) (l := a0) (a := y3) rfl Tryz.underlying25 ty1080 rfl rfl (Int.natCast_nonneg _) hx1) rfl ?_;refine st rfl rfl (eff_fieldAddr rfl fl1080_3 rfl) rfl ?_;refine st rfl rfl (eff_load rfl ty3 rfl) rfl ?_;refine st rfl rfl (eff_call rfl K90 rfl (c90 y3.Seats 0 999) (ag_cons rfl (ag_cons rfl (ag_cons rfl ag_nil)))) rfl ?_;refine st rfl rfl (eff_moveg rfl rfl) rfl ?_;refine st rfl rfl (eff_moveg rfl rfl) rfl ?_;refine st rfl rfl (eff_ix (f := S1079.c) (l := a0) (a := y3) rfl Tryz.underlying25 ty1080 rfl rfl (Int.natCast_nonneg _) hx1) rfl ?_;refine st rfl rfl (eff_fieldAddr rfl fl1080_4 rfl) rfl ?_;refine st rfl rfl (eff_load rfl ty3 rfl) rfl ?_;refine st rfl rfl (eff_call rfl K1092 rfl (c1092 y3.Size) (ag_cons rfl ag_nil)) rfl ?_;refine st rfl rfl (eff_moveg rfl rfl) rfl ?_;refine st rfl rfl (eff_moveg rfl rfl) rfl ?_;refine st rfl rfl (eff_ix (f := S1079.c) (l := a0) (a := y3) rfl Tryz.underlying25 ty1080 rfl rfl (Int.natCast_nonneg _) hx1) rfl ?_;refine st rfl rfl (eff_fieldAddr rfl fl1080_5 rfl) rfl ?_;refine st rfl rfl (eff_load rfl ty3 rfl) rfl ?_;refine st rfl rfl (eff_call rfl K90 rfl (c90 y3.Noise 0 99) (ag_cons rfl (ag_cons rfl (ag_cons rfl ag_nil)))) rfl ?_;refine st rfl rfl (eff_buildSlice rfl Tryz.underlying51 ty3 z3 rfl (ps_cons rfl (ps_cons rfl (ps_cons rfl (ps_cons rfl (ps_cons rfl ps_nil))))) rfl (by simp []) (by decide)) rfl ?_;refine st rfl rfl (eff_call rfl K89 rfl (c89 [x5, (s1093 y3.Terminal), (s90 y3.Seats 0 999), (s1092 y3.Size), (s90 y3.Noise 0 99)]) (ag_cons rfl ag_nil)) rfl ?_;refine st rfl rfl (eff_assigng rfl rfl) rfl ?_;refine st_nil ?_;refine aw_cut_g (γ := Int) (fun g => ([(0, .g (G.sl 7 (List.map S1079.c a0))), (3, .g (G.int ((k2 : Nat) : Int))), (4, .g (G.int g))], [])) (fun g => s1028_j1 (fun k_ => s1028_l1  t4 k_) k2 g = R) ?_ ?_
     ·refine aw_seq ?_;refine aw_region [.p, .p, .p, .p, .p, .p, .p, .p, .p, .p, .p] ?_;refine st rfl rfl (eff_moveg rfl rfl) rfl ?_;refine st rfl rfl (eff_eql rfl rfl rfl) rfl ?_;refine st rfl rfl (eff_moveg rfl rfl) rfl ?_;refine st_g rfl rfl rfl (gb_bool _ _) (fun h => eff_moveg rfl rfl) rfl ?_;refine st_g rfl rfl rfl (gb_bool _ _) (fun h => eff_moveg rfl rfl) rfl ?_;refine st_g rfl rfl rfl (gb_bool _ _) (fun h => eff_ix (f := S1079.c) (l := a0) (a := y3) rfl Tryz.underlying25 ty1080 (gd h rfl) (gd h rfl) (Int.natCast_nonneg _) hx1) rfl ?_;refine st_g rfl rfl rfl (gb_bool _ _) (fun h => eff_fieldAddr rfl fl1080_6 (gd h rfl)) rfl ?_;refine st_g rfl rfl rfl (gb_bool _ _) (fun h => eff_load rfl ty9 (gd h rfl)) rfl ?_;refine st_g rfl rfl rfl (gb_bool _ _) (fun h => eff_call rfl K91 rfl (c91 y3.Name) (ag_cons (gd h rfl) ag_nil)) rfl ?_;refine st_g rfl rfl rfl (gb_bool _ _) (fun h => eff_not rfl (gd h rfl)) rfl ?_;refine st rfl rfl (eff_and rfl rfl rfl rfl) rfl ?_;refine st_nil ?_;refine aw_cond _ rfl (fun h5 => ?_) (fun h5 => ?_)
      ·replace h5 : ((decide ((s89 [x5, (s1093 y3.Terminal), (s90 y3.Seats 0 999), (s1092 y3.Size), (s90 y3.Noise 0 99)]) = 0)) && (!(s91 y3.Name))) = true := h5;replace hR := condT hR h5;(try simp only [Bool.or_eq_true, Bool.and_eq_true, Bool.or_eq_false_iff, Bool.and_eq_false_iff, Bool.not_eq_true', Bool.not_eq_false', decide_eq_true_eq, decide_eq_false_iff_not] at h5);refine aw_region [.p] ?_;refine st rfl rfl (eff_assigng rfl rfl) rfl ?_;refine st_nil ?_;exact ⟨rfl, 8, ⟨rfl, rfl, rfl, trivial⟩, trivial, rfl, hR, trivial⟩
      ·replace h5 : ((decide ((s89 [x5, (s1093 y3.Terminal), (s90 y3.Seats 0 999), (s1092 y3.Size), (s90 y3.Noise 0 99)]) = 0)) && (!(s91 y3.Name))) = false := h5;replace hR := condF hR h5;(try simp only [Bool.or_eq_true, Bool.and_eq_true, Bool.or_eq_false_iff, Bool.and_eq_false_iff, Bool.not_eq_true', Bool.not_eq_false', decide_eq_true_eq, decide_eq_false_iff_not] at h5);refine aw_skip ?_;exact ⟨rfl, (s89 [x5, (s1093 y3.Terminal), (s90 y3.Seats 0 999), (s1092 y3.Size), (s90 y3.Noise 0 99)]), ⟨rfl, rfl, rfl, trivial⟩, trivial, rfl, hR, trivial⟩
     ·rintro x6 hR;replace hR : s1028_j1 (fun k_ => s1028_l1  t4 k_) k2 x6 = R := hR;unfold s1028_j1 at hR;refine aw_seq ?_;refine aw_region [.p, .p] ?_;refine st rfl rfl (eff_moveg rfl rfl) rfl ?_;refine st rfl rfl (eff_neq rfl rfl rfl) rfl ?_;refine st_nil ?_;refine aw_cond _ rfl (fun h4 => ?_) (fun h4 => ?_)
      ·replace h4 : (decide (x6 ≠ 0)) = true := h4;replace hR := condT hR h4;(try simp only [Bool.or_eq_true, Bool.and_eq_true, Bool.or_eq_false_iff, Bool.and_eq_false_iff, Bool.not_eq_true', Bool.not_eq_false', decide_eq_true_eq, decide_eq_false_iff_not] at h4);refine aw_seq ?_;refine aw_region [.p, .p] ?_;refine st rfl rfl (eff_moveg rfl rfl) rfl ?_;refine st rfl rfl (eff_assigng rfl rfl) rfl ?_;refine st_nil ?_;refine aw_ret ?_;subst hR;exact res_c rfl (rv_g rfl)
      ·replace h4 : (decide (x6 ≠ 0)) = false := h4;replace hR := condF hR h4;(try simp only [Bool.or_eq_true, Bool.and_eq_true, Bool.or_eq_false_iff, Bool.and_eq_false_iff, Bool.not_eq_true', Bool.not_eq_false', decide_eq_true_eq, decide_eq_false_iff_not] at h4);refine aw_skip ?_;refine aw_region [.p, .p, .p] ?_;refine st rfl rfl (eff_moveg rfl rfl) rfl ?_;refine st rfl rfl (eff_add rfl rfl rfl (by unfold I64; omega)) rfl ?_;refine st rfl rfl (eff_assigng rfl rfl) rfl ?_;refine st_nil ?_;exact ⟨rfl, (k2 + 1, t4), ⟨rfl, rfl, trivial⟩, trivial, rfl, ⟨hd, hR⟩, by simp⟩
   ·replace h2 : (decide (((k2 : Nat) : Int) < (List.length a0 : Int))) = false := h2;obtain rfl := drop_nil hd (decF h2);rw [s1028_l1] at hR;refine aw_exit ?_;refine aw_seq ?_;refine aw_region [.p] ?_;refine st rfl rfl (eff_assigng rfl rfl) rfl ?_;refine st_nil ?_;refine aw_ret ?_;subst hR;exact res_c rfl (rv_g rfl)
def s1099_l1 (a0 : List S1079) (a2 : S1079 → (List S1079) → Int) : List S1079 → Nat → Int
 | [], k2 => 0
 | y3 :: t4, k2 => (bif decide ((a2 y3 (List.take (Int.toNat ((k2 : Nat) : Int)) a0)) ≠ 0) then (a2 y3 (List.take (Int.toNat ((k2 : Nat) : Int)) a0)) else s1099_l1 a0 a2 t4 (k2 + 1))
def s1099 (a0 : List S1079) (a1 : Int) (a2 : S1079 → (List S1079) → Int) : Int :=
 (bif decide (a1 < (List.length a0 : Int)) then 5 else s1099_l1 a0 a2 a0 0)
theorem c1099 {g : List (Nat × List Value)} (a0 : List S1079) (a1 : Int) (a2 : S1079 → (List S1079) → Int) {ca2 : G} {ia2 : FuncId} {ka2 : List G} (ha2 : FnIs ca2 ia2 ka2) (Ka2 : Known Tryz.prog ia2) (Ha2 : ∀ (x0 : S1079) (x1 : List S1079), Con (EG g) ia2 ([G.agg [G.int x0.Moment, G.str x0.Kind, G.str x0.Terminal, G.int x0.Seats, G.int x0.Size, G.int x0.Noise, G.str x0.Name], G.sl 7 (List.map S1079.c x1)] ++ ka2) (G.int (a2 x0 x1)))   : Con (EG g) 99 [G.sl 7 (List.map S1079.c a0), G.int a1, ca2] (G.int (s1099 a0 a1 a2)) := by
 generalize hR : s1099 a0 a1 a2 = R;unfold s1099 at hR;refine con_of_aw Tryz.func99 rfl rfl fun w0 M0 => ?_;refine len_sl (f := S1079.c) (l := a0) 0 rfl fun hla0 => ?_;refine aw_seq ?_;refine aw_region [.p] ?_;refine st rfl rfl (eff_assigng rfl rfl) rfl ?_;refine st_nil ?_;refine aw_seq ?_;refine aw_seq ?_;refine aw_region [.p, .p, .p, .p] ?_;refine st rfl rfl (eff_moveg rfl rfl) rfl ?_;refine st rfl rfl (eff_lenM (f := S1079.c) (l := a0) rfl Tryz.underlying25 rfl) rfl ?_;refine st rfl rfl (eff_moveg rfl rfl) rfl ?_;refine st rfl rfl (eff_gtr rfl rfl rfl) rfl ?_;refine st_nil ?_;refine aw_cond _ rfl (fun h1 => ?_) (fun h1 => ?_)
 ·replace h1 : (decide (a1 < (List.length a0 : Int))) = true := h1;replace hR := condT hR h1;(try simp only [Bool.or_eq_true, Bool.and_eq_true, Bool.or_eq_false_iff, Bool.and_eq_false_iff, Bool.not_eq_true', Bool.not_eq_false', decide_eq_true_eq, decide_eq_false_iff_not] at h1);refine aw_seq ?_;refine aw_region [.p] ?_;refine st rfl rfl (eff_assigng rfl rfl) rfl ?_;refine st_nil ?_;refine aw_ret ?_;subst hR;exact res_c rfl (rv_g rfl)
 ·replace h1 : (decide (a1 < (List.length a0 : Int))) = false := h1;replace hR := condF hR h1;(try simp only [Bool.or_eq_true, Bool.and_eq_true, Bool.or_eq_false_iff, Bool.and_eq_false_iff, Bool.not_eq_true', Bool.not_eq_false', decide_eq_true_eq, decide_eq_false_iff_not] at h1);refine aw_skip ?_;refine aw_seq ?_;refine aw_seq ?_;refine aw_region [.p, .p, .p] ?_;refine st rfl rfl (eff_moveg rfl rfl) rfl ?_;refine st rfl rfl (eff_lenM (f := S1079.c) (l := a0) rfl Tryz.underlying25 rfl) rfl ?_;refine st rfl rfl (eff_moveg rfl rfl) rfl ?_;refine st_nil ?_;refine aw_block ?_;refine aw_loop_g (γ := Nat × (List S1079)) (fun g => ([(0, .g (G.sl 7 (List.map S1079.c a0))), (2, .g (ca2)), (14, .g (G.sl 7 (List.map S1079.c a0))), (15, .g (G.int (List.length a0 : Int))), (16, .g (G.int ((g.1 : Nat) : Int)))], [])) (fun g => a0.drop g.1 = g.2 ∧ s1099_l1 a0 a2 g.2 g.1 = R) (fun g => List.length g.2) ⟨rfl, (0, a0), ⟨rfl, rfl, rfl, rfl, rfl, trivial⟩, trivial, rfl, ⟨rfl, hR⟩, trivial⟩ ?_
  ·rintro ⟨k2, t4⟩ ⟨hd, hR⟩;replace hd : a0.drop k2 = t4 := hd;replace hR : s1099_l1 a0 a2 t4 k2 = R := hR;refine aw_seq ?_;refine aw_region [.p] ?_;refine st rfl rfl (eff_lss rfl rfl rfl) rfl ?_;refine st_nil ?_;refine len_sl (f := S1079.c) (l := a0) 0 rfl fun hlz1 => ?_;refine aw_seq ?_;refine aw_cond _ rfl (fun h2 => ?_) (fun h2 => ?_)
   ·replace h2 : (decide (((k2 : Nat) : Int) < (List.length a0 : Int))) = true := h2;obtain ⟨y3, t4, rfl, hx1, hd⟩ := drop_cons hd (decT h2);replace h2 := decT h2;rw [s1099_l1] at hR;(try dsimp only at hR);refine aw_skip ?_;refine aw_seq ?_;refine aw_block ?_;refine aw_seq ?_;refine aw_region [.p, .p, .p, .w, .p, .w] ?_;refine st rfl rfl (eff_moveg rfl rfl) rfl ?_;refine st rfl rfl (eff_ix (f := S1079.c) (l := a0) (a := y3) rfl Tryz.underlying25 ty1080 rfl rfl (Int.natCast_nonneg _) hx1) rfl ?_;refine st rfl rfl (eff_loadA rfl ty1080 rfl rfl rfl) rfl ?_;refine st_w rfl rfl (eff_alloc 8 rfl z1080 rfl rfl) rfl ?_;refine st rfl rfl (eff_assigng rfl rfl) rfl ?_;refine st_wn rfl rfl (eff_store (tv := .g (G.agg [G.int y3.Moment, G.str y3.Kind, G.str y3.Terminal, G.int y3.Seats, G.int y3.Size, G.int y3.Noise, G.str y3.Name])) rfl ty1080 rfl rfl rfl rfl rfl) ?_;refine st_nil ?_;refine aw_seq ?_;refine aw_draw [.p, .r, .p, .p, .p, .p, .p] (by kernel_rfl) ?_;refine st rfl rfl (eff_moveg rfl rfl) rfl ?_;refine st_r rfl rfl (eff_loadOA rfl ty1080 rfl rfl rfl rfl) rfl ?_;refine st rfl rfl (eff_moveg rfl rfl) rfl ?_;refine st rfl rfl (eff_moveg rfl rfl) rfl ?_;refine st rfl rfl (eff_slG (f := S1079.c) (l := a0) rfl Tryz.underlying25 ty1080 rfl bnd_none (bnd_some rfl (Int.natCast_nonneg _)) (Nat.zero_le _) (le_get hx1)) rfl ?_;refine st rfl rfl (eff_callf rfl ha2 Ka2 rfl (Ha2 y3 (List.take (Int.toNat ((k2 : Nat) : Int)) a0)) (ag_cons rfl (ag_cons rfl ag_nil))) rfl ?_;refine st rfl rfl (eff_assigng rfl rfl) rfl ?_;refine st_nil ?_;refine aw_seq ?_;refine aw_region [.p, .p] ?_;refine st rfl rfl (eff_moveg rfl rfl) rfl ?_;refine st rfl rfl (eff_neq rfl rfl rfl) rfl ?_;refine st_nil ?_;refine aw_cond _ rfl (fun h4 => ?_) (fun h4 => ?_)
    ·replace h4 : (decide ((a2 y3 (List.take (Int.toNat ((k2 : Nat) : Int)) a0)) ≠ 0)) = true := h4;replace hR := condT hR h4;(try simp only [Bool.or_eq_true, Bool.and_eq_true, Bool.or_eq_false_iff, Bool.and_eq_false_iff, Bool.not_eq_true', Bool.not_eq_false', decide_eq_true_eq, decide_eq_false_iff_not] at h4);refine aw_seq ?_;refine aw_region [.p, .p] ?_;refine st rfl rfl (eff_moveg rfl rfl) rfl ?_;refine st rfl rfl (eff_assigng rfl rfl) rfl ?_;refine st_nil ?_;refine aw_ret ?_;subst hR;exact res_c rfl (rv_g rfl)
    ·replace h4 : (decide ((a2 y3 (List.take (Int.toNat ((k2 : Nat) : Int)) a0)) ≠ 0)) = false := h4;replace hR := condF hR h4;(try simp only [Bool.or_eq_true, Bool.and_eq_true, Bool.or_eq_false_iff, Bool.and_eq_false_iff, Bool.not_eq_true', Bool.not_eq_false', decide_eq_true_eq, decide_eq_false_iff_not] at h4);refine aw_skip ?_;refine aw_region [.p, .p] ?_;refine st rfl rfl (eff_add rfl rfl rfl (by unfold I64; omega)) rfl ?_;refine st rfl rfl (eff_moveg rfl rfl) rfl ?_;refine st_nil ?_;exact ⟨rfl, (k2 + 1, t4), ⟨rfl, rfl, rfl, rfl, rfl, trivial⟩, trivial, rfl, ⟨hd, hR⟩, by simp⟩
   ·replace h2 : (decide (((k2 : Nat) : Int) < (List.length a0 : Int))) = false := h2;obtain rfl := drop_nil hd (decF h2);rw [s1099_l1] at hR;refine aw_exit ?_;refine aw_seq ?_;refine aw_region [.p] ?_;refine st rfl rfl (eff_assigng rfl rfl) rfl ?_;refine st_nil ?_;refine aw_ret ?_;subst hR;exact res_c rfl (rv_g rfl)
def s1100 (a0 : S1079) (a1 : List S1079) : Int :=
 (s1085 [(s1098 a0.Moment), (s1086 ((!decide (a0.Kind = (⟨#[65]⟩))) && (!decide (a0.Kind = (⟨#[68]⟩)))) 13), (s1089 a0.Terminal), (s1088 a0.Seats 0 999), (s1088 a0.Size 1 9), (s1088 a0.Noise 0 99), (s1086 (!(s147 a0.Name)) 8)])
theorem c1100 {g : List (Nat × List Value)} (a0 : S1079) (a1 : List S1079)    : Con (EG g) 100 [G.agg [G.int a0.Moment, G.str a0.Kind, G.str a0.Terminal, G.int a0.Seats, G.int a0.Size, G.int a0.Noise, G.str a0.Name], G.sl 7 (List.map S1079.c a1)] (G.int (s1100 a0 a1)) := by
 generalize hR : s1100 a0 a1 = R;unfold s1100 at hR;refine con_of_aw Tryz.func100 rfl rfl fun w0 M0 => ?_;refine len_sl (f := S1079.c) (l := a1) 1 rfl fun hla1 => ?_;refine aw_seq ?_;refine aw_region [.p, .p] ?_;refine st rfl rfl (eff_box rfl rfl) rfl ?_;refine st rfl rfl (eff_assigng rfl rfl) rfl ?_;refine st_nil ?_;refine aw_seq ?_;refine aw_draw [.p, .p, .p, .p, .p, .p, .p, .p, .p, .p, .p, .p, .p, .p, .p, .p, .p, .p, .p, .p, .p, .p, .p, .p, .p, .p, .p, .p, .p, .p, .p, .p] (by kernel_rfl) ?_;refine st rfl rfl (eff_fieldAddr rfl fl1080_0 rfl) rfl ?_;refine st rfl rfl (eff_load rfl ty3 rfl) rfl ?_;refine st rfl rfl (eff_call rfl K1098 rfl (c1098 a0.Moment) (ag_cons rfl ag_nil)) rfl ?_;refine st rfl rfl (eff_fieldAddr rfl fl1080_1 rfl) rfl ?_;refine st rfl rfl (eff_load rfl ty9 rfl) rfl ?_;refine st rfl rfl (eff_sne rfl rfl rfl) rfl ?_;refine st rfl rfl (eff_moveg rfl rfl) rfl ?_;refine st_g rfl rfl rfl (gb_bool _ _) (fun h => eff_fieldAddr rfl fl1080_1 rfl) rfl ?_;refine st_g rfl rfl rfl (gb_bool _ _) (fun h => eff_load rfl ty9 (gd h rfl)) rfl ?_;refine st_g rfl rfl rfl (gb_bool _ _) (fun h => eff_sne rfl (gd h rfl) rfl) rfl ?_;refine st rfl rfl (eff_and rfl rfl rfl rfl) rfl ?_;refine st rfl rfl (eff_call rfl K1086 rfl (c1086 ((!decide (a0.Kind = (⟨#[65]⟩))) && (!decide (a0.Kind = (⟨#[68]⟩)))) 13) (ag_cons rfl (ag_cons rfl ag_nil))) rfl ?_;refine st rfl rfl (eff_fieldAddr rfl fl1080_2 rfl) rfl ?_;refine st rfl rfl (eff_load rfl ty9 rfl) rfl ?_;refine st rfl rfl (eff_call rfl K1089 rfl (c1089 a0.Terminal) (ag_cons rfl ag_nil)) rfl ?_;refine st rfl rfl (eff_fieldAddr rfl fl1080_3 rfl) rfl ?_;refine st rfl rfl (eff_load rfl ty3 rfl) rfl ?_;refine st rfl rfl (eff_call rfl K1088 rfl (c1088 a0.Seats 0 999) (ag_cons rfl (ag_cons rfl (ag_cons rfl ag_nil)))) rfl ?_;refine st rfl rfl (eff_fieldAddr rfl fl1080_4 rfl) rfl ?_;refine st rfl rfl (eff_load rfl ty3 rfl) rfl ?_;refine st rfl rfl (eff_call rfl K1088 rfl (c1088 a0.Size 1 9) (ag_cons rfl (ag_cons rfl (ag_cons rfl ag_nil)))) rfl ?_;refine st rfl rfl (eff_fieldAddr rfl fl1080_5 rfl) rfl ?_;refine st rfl rfl (eff_load rfl ty3 rfl) rfl ?_;refine st rfl rfl (eff_call rfl K1088 rfl (c1088 a0.Noise 0 99) (ag_cons rfl (ag_cons rfl (ag_cons rfl ag_nil)))) rfl ?_;refine st rfl rfl (eff_fieldAddr rfl fl1080_6 rfl) rfl ?_;refine st rfl rfl (eff_load rfl ty9 rfl) rfl ?_;refine st rfl rfl (eff_call rfl K147 rfl (c147 a0.Name) (ag_cons rfl ag_nil)) rfl ?_;refine st rfl rfl (eff_not rfl rfl) rfl ?_;refine st rfl rfl (eff_call rfl K1086 rfl (c1086 (!(s147 a0.Name)) 8) (ag_cons rfl (ag_cons rfl ag_nil))) rfl ?_;refine st rfl rfl (eff_buildSlice rfl Tryz.underlying222 ty37 z37 rfl (ps_cons rfl (ps_cons rfl (ps_cons rfl (ps_cons rfl (ps_cons rfl (ps_cons rfl (ps_cons rfl ps_nil))))))) rfl (by simp []) (by decide)) rfl ?_;refine st rfl rfl (eff_call rfl K1085 rfl (c1085 [(s1098 a0.Moment), (s1086 ((!decide (a0.Kind = (⟨#[65]⟩))) && (!decide (a0.Kind = (⟨#[68]⟩)))) 13), (s1089 a0.Terminal), (s1088 a0.Seats 0 999), (s1088 a0.Size 1 9), (s1088 a0.Noise 0 99), (s1086 (!(s147 a0.Name)) 8)]) (ag_cons rfl ag_nil)) rfl ?_;refine st rfl rfl (eff_assigng rfl rfl) rfl ?_;refine st_nil ?_;refine aw_ret ?_;subst hR;exact res_c rfl (rv_g rfl)
def s1027 (a0 : List S1079) : Int :=
 (s1099 a0 256 s1100)
theorem c1027 {g : List (Nat × List Value)} (a0 : List S1079)    : Con (EG g) 27 [G.sl 7 (List.map S1079.c a0)] (G.int (s1027 a0)) := by
 generalize hR : s1027 a0 = R;unfold s1027 at hR;refine con_of_aw Tryz.func27 rfl rfl fun w0 M0 => ?_;refine len_sl (f := S1079.c) (l := a0) 0 rfl fun hla0 => ?_;refine aw_seq ?_;refine aw_region [.p] ?_;refine st rfl rfl (eff_assigng rfl rfl) rfl ?_;refine st_nil ?_;refine aw_seq ?_;refine aw_region [.p, .p, .p] ?_;refine st rfl rfl (eff_moveg rfl rfl) rfl ?_;refine st rfl rfl (eff_call rfl K1099 rfl (c1099 a0 256 s1100 fnis_lit K1100 (fun x0 x1 => c1100 x0 x1)) (ag_cons rfl (ag_cons rfl (ag_cons rfl ag_nil)))) rfl ?_;refine st rfl rfl (eff_assigng rfl rfl) rfl ?_;refine st_nil ?_;refine aw_ret ?_;subst hR;exact res_c rfl (rv_g rfl)
def s1020_l1  : List S1079 → Nat → Bool
 | [], k2 => true
 | y3 :: t4, k2 => (bif ((decide (60 < (ByteArray.size y3.Name : Int))) || (decide (60 < (ByteArray.size y3.Terminal : Int)))) || (decide (60 < (ByteArray.size y3.Kind : Int))) then false else s1020_l1  t4 (k2 + 1))
def s1020 (a0 : List S1079) (a1 : Int) : Bool :=
 (bif ((decide (a1 < (List.length a0 : Int))) && (decide ((List.length a0 : Int) ≤ 256))) || (decide (258 < (List.length a0 : Int))) then false else s1020_l1 a0 0)
theorem c1020 {g : List (Nat × List Value)} (a0 : List S1079) (a1 : Int)    : Con (EG g) 20 [G.sl 7 (List.map S1079.c a0), G.int a1] (G.bool (s1020 a0 a1)) := by
 generalize hR : s1020 a0 a1 = R;unfold s1020 at hR;refine con_of_aw Tryz.func20 rfl rfl fun w0 M0 => ?_;refine len_sl (f := S1079.c) (l := a0) 0 rfl fun hla0 => ?_;refine aw_seq ?_;refine aw_region [.p] ?_;refine st rfl rfl (eff_assigng rfl rfl) rfl ?_;refine st_nil ?_;refine aw_seq ?_;refine aw_seq ?_;refine aw_region [.p, .p, .p, .p, .p, .p, .p, .p, .p, .p, .p, .p, .p, .p] ?_;refine st rfl rfl (eff_moveg rfl rfl) rfl ?_;refine st rfl rfl (eff_lenM (f := S1079.c) (l := a0) rfl Tryz.underlying25 rfl) rfl ?_;refine st rfl rfl (eff_moveg rfl rfl) rfl ?_;refine st rfl rfl (eff_gtr rfl rfl rfl) rfl ?_;refine st rfl rfl (eff_moveg rfl rfl) rfl ?_;refine st_g rfl rfl rfl (gb_bool _ _) (fun h => eff_moveg rfl rfl) rfl ?_;refine st_g rfl rfl rfl (gb_bool _ _) (fun h => eff_lenM (f := S1079.c) (l := a0) rfl Tryz.underlying25 (gd h rfl)) rfl ?_;refine st_g rfl rfl rfl (gb_bool _ _) (fun h => eff_leq rfl (gd h rfl) rfl) rfl ?_;refine st rfl rfl (eff_and rfl rfl rfl rfl) rfl ?_;refine st rfl rfl (eff_moveg rfl rfl) rfl ?_;refine st_g rfl rfl rfl (gb_bool _ _) (fun h => eff_moveg rfl rfl) rfl ?_;refine st_g rfl rfl rfl (gb_bool _ _) (fun h => eff_lenM (f := S1079.c) (l := a0) rfl Tryz.underlying25 (gd h rfl)) rfl ?_;refine st_g rfl rfl rfl (gb_bool _ _) (fun h => eff_gtr rfl (gd h rfl) rfl) rfl ?_;refine st rfl rfl (eff_or rfl rfl rfl rfl) rfl ?_;refine st_nil ?_;refine aw_cond _ rfl (fun h1 => ?_) (fun h1 => ?_)
 ·replace h1 : (((decide (a1 < (List.length a0 : Int))) && (decide ((List.length a0 : Int) ≤ 256))) || (decide (258 < (List.length a0 : Int)))) = true := h1;replace hR := condT hR h1;(try simp only [Bool.or_eq_true, Bool.and_eq_true, Bool.or_eq_false_iff, Bool.and_eq_false_iff, Bool.not_eq_true', Bool.not_eq_false', decide_eq_true_eq, decide_eq_false_iff_not] at h1);refine aw_seq ?_;refine aw_region [.p] ?_;refine st rfl rfl (eff_assigng rfl rfl) rfl ?_;refine st_nil ?_;refine aw_ret ?_;subst hR;exact res_c rfl (rv_g rfl)
 ·replace h1 : (((decide (a1 < (List.length a0 : Int))) && (decide ((List.length a0 : Int) ≤ 256))) || (decide (258 < (List.length a0 : Int)))) = false := h1;replace hR := condF hR h1;(try simp only [Bool.or_eq_true, Bool.and_eq_true, Bool.or_eq_false_iff, Bool.and_eq_false_iff, Bool.not_eq_true', Bool.not_eq_false', decide_eq_true_eq, decide_eq_false_iff_not] at h1);refine aw_skip ?_;refine aw_seq ?_;refine aw_seq ?_;refine aw_region [.p] ?_;refine st rfl rfl (eff_assigng rfl rfl) rfl ?_;refine st_nil ?_;refine aw_block ?_;refine aw_loop_g (γ := Nat × (List S1079)) (fun g => ([(0, .g (G.sl 7 (List.map S1079.c a0))), (5, .g (G.int ((g.1 : Nat) : Int)))], [])) (fun g => a0.drop g.1 = g.2 ∧ s1020_l1  g.2 g.1 = R) (fun g => List.length g.2) ⟨rfl, (0, a0), ⟨rfl, rfl, trivial⟩, trivial, rfl, ⟨rfl, hR⟩, trivial⟩ ?_
  ·rintro ⟨k2, t4⟩ ⟨hd, hR⟩;replace hd : a0.drop k2 = t4 := hd;replace hR : s1020_l1  t4 k2 = R := hR;refine aw_seq ?_;refine aw_seq ?_;refine aw_region [.p, .p, .p, .p] ?_;refine st rfl rfl (eff_moveg rfl rfl) rfl ?_;refine st rfl rfl (eff_moveg rfl rfl) rfl ?_;refine st rfl rfl (eff_lenM (f := S1079.c) (l := a0) rfl Tryz.underlying25 rfl) rfl ?_;refine st rfl rfl (eff_lss rfl rfl rfl) rfl ?_;refine st_nil ?_;refine len_sl (f := S1079.c) (l := a0) 0 rfl fun hlz1 => ?_;refine aw_cond _ rfl (fun h2 => ?_) (fun h2 => ?_)
   ·replace h2 : (decide (((k2 : Nat) : Int) < (List.length a0 : Int))) = true := h2;obtain ⟨y3, t4, rfl, hx1, hd⟩ := drop_cons hd (decT h2);replace h2 := decT h2;rw [s1020_l1] at hR;(try dsimp only at hR);refine aw_skip ?_;refine aw_seq ?_;refine aw_block ?_;refine aw_seq ?_;refine aw_region [.p, .p, .p, .p, .p, .p, .p, .p, .p, .p, .p, .p, .p, .p, .p, .p, .p, .p, .p, .p, .p, .p, .p, .p, .p] ?_;refine st rfl rfl (eff_moveg rfl rfl) rfl ?_;refine st rfl rfl (eff_moveg rfl rfl) rfl ?_;refine st rfl rfl (eff_ix (f := S1079.c) (l := a0) (a := y3) rfl Tryz.underlying25 ty1080 rfl rfl (Int.natCast_nonneg _) hx1) rfl ?_;refine st rfl rfl (eff_fieldAddr rfl fl1080_6 rfl) rfl ?_;refine st rfl rfl (eff_load rfl ty9 rfl) rfl ?_;refine st rfl rfl (eff_lenS rfl Tryz.underlying9 rfl) rfl ?_;refine st rfl rfl (eff_gtr rfl rfl rfl) rfl ?_;refine st rfl rfl (eff_moveg rfl rfl) rfl ?_;refine st_g rfl rfl rfl (gb_bool _ _) (fun h => eff_moveg rfl rfl) rfl ?_;refine st_g rfl rfl rfl (gb_bool _ _) (fun h => eff_moveg rfl rfl) rfl ?_;refine st_g rfl rfl rfl (gb_bool _ _) (fun h => eff_ix (f := S1079.c) (l := a0) (a := y3) rfl Tryz.underlying25 ty1080 (gd h rfl) (gd h rfl) (Int.natCast_nonneg _) hx1) rfl ?_;refine st_g rfl rfl rfl (gb_bool _ _) (fun h => eff_fieldAddr rfl fl1080_2 (gd h rfl)) rfl ?_;refine st_g rfl rfl rfl (gb_bool _ _) (fun h => eff_load rfl ty9 (gd h rfl)) rfl ?_;refine st_g rfl rfl rfl (gb_bool _ _) (fun h => eff_lenS rfl Tryz.underlying9 (gd h rfl)) rfl ?_;refine st_g rfl rfl rfl (gb_bool _ _) (fun h => eff_gtr rfl (gd h rfl) rfl) rfl ?_;refine st rfl rfl (eff_or rfl rfl rfl rfl) rfl ?_;refine st rfl rfl (eff_moveg rfl rfl) rfl ?_;refine st_g rfl rfl rfl (gb_bool _ _) (fun h => eff_moveg rfl rfl) rfl ?_;refine st_g rfl rfl rfl (gb_bool _ _) (fun h => eff_moveg rfl rfl) rfl ?_;refine st_g rfl rfl rfl (gb_bool _ _) (fun h => eff_ix (f := S1079.c) (l := a0) (a := y3) rfl Tryz.underlying25 ty1080 (gd h rfl) (gd h rfl) (Int.natCast_nonneg _) hx1) rfl ?_;refine st_g rfl rfl rfl (gb_bool _ _) (fun h => eff_fieldAddr rfl fl1080_1 (gd h rfl)) rfl ?_;refine st_g rfl rfl rfl (gb_bool _ _) (fun h => eff_load rfl ty9 (gd h rfl)) rfl ?_;refine st_g rfl rfl rfl (gb_bool _ _) (fun h => eff_lenS rfl Tryz.underlying9 (gd h rfl)) rfl ?_;refine st_g rfl rfl rfl (gb_bool _ _) (fun h => eff_gtr rfl (gd h rfl) rfl) rfl ?_;refine st rfl rfl (eff_or rfl rfl rfl rfl) rfl ?_;refine st_nil ?_;refine aw_cond _ rfl (fun h4 => ?_) (fun h4 => ?_)
    ·replace h4 : (((decide (60 < (ByteArray.size y3.Name : Int))) || (decide (60 < (ByteArray.size y3.Terminal : Int)))) || (decide (60 < (ByteArray.size y3.Kind : Int)))) = true := h4;replace hR := condT hR h4;(try simp only [Bool.or_eq_true, Bool.and_eq_true, Bool.or_eq_false_iff, Bool.and_eq_false_iff, Bool.not_eq_true', Bool.not_eq_false', decide_eq_true_eq, decide_eq_false_iff_not] at h4);refine aw_seq ?_;refine aw_region [.p] ?_;refine st rfl rfl (eff_assigng rfl rfl) rfl ?_;refine st_nil ?_;refine aw_ret ?_;subst hR;exact res_c rfl (rv_g rfl)
    ·replace h4 : (((decide (60 < (ByteArray.size y3.Name : Int))) || (decide (60 < (ByteArray.size y3.Terminal : Int)))) || (decide (60 < (ByteArray.size y3.Kind : Int)))) = false := h4;replace hR := condF hR h4;(try simp only [Bool.or_eq_true, Bool.and_eq_true, Bool.or_eq_false_iff, Bool.and_eq_false_iff, Bool.not_eq_true', Bool.not_eq_false', decide_eq_true_eq, decide_eq_false_iff_not] at h4);refine aw_skip ?_;refine aw_region [.p, .p, .p] ?_;refine st rfl rfl (eff_moveg rfl rfl) rfl ?_;refine st rfl rfl (eff_add rfl rfl rfl (by unfold I64; omega)) rfl ?_;refine st rfl rfl (eff_assigng rfl rfl) rfl ?_;refine st_nil ?_;exact ⟨rfl, (k2 + 1, t4), ⟨rfl, rfl, trivial⟩, trivial, rfl, ⟨hd, hR⟩, by simp⟩
   ·replace h2 : (decide (((k2 : Nat) : Int) < (List.length a0 : Int))) = false := h2;obtain rfl := drop_nil hd (decF h2);rw [s1020_l1] at hR;refine aw_exit ?_;refine aw_seq ?_;refine aw_region [.p] ?_;refine st rfl rfl (eff_assigng rfl rfl) rfl ?_;refine st_nil ?_;refine aw_ret ?_;subst hR;exact res_c rfl (rv_g rfl)
section
variable {E : Env} {w0 : World} {M0 : Nat → Prop}
def ConT (E : Env) (f : FuncId) (args : List TV) (e : TypeId) (k : Nat) (xs xs' : List (List G)) (n : Nat) : Prop :=
 ∀ w M ρ (vs : List Value), (∀ b, M b → b < w.heap.size) → GlOk E w (owned M ρ) → (∀ id x, ρ id = some x → ∃ blk, lookO [(0, Blk.arr e k xs)] id = some blk) →
  (∀ id ow, ρ id = some (some ow) → ow.b < w.heap.size ∧ ¬ M ow.b) → (∀ id id' ow ow', ρ id = some (some ow) → ρ id' = some (some ow') → ow.b = ow'.b → id = id') →
  (∀ id blk, lookO [(0, Blk.arr e k xs)] id = some blk → BRel w (owned M ρ) ρ id blk) → ArgsT w (owned M ρ) ρ args vs →
  Calls E.P f vs.toArray w fun ex w' => ∃ v, ex = .returned v ∧ BelowX (fun b => ∃ id ow, ρ id = some (some ow) ∧ ow.b = b) w w' ∧ BRel w' (owned M ρ) ρ 0 (.arr e k xs') ∧ TRel w' (owned M ρ) ρ (.osl 0 k 0 n) v
theorem ConT.lend {f : FuncId} {args : List TV} {e : TypeId} {k n : Nat} {xs xs' : List (List G)} {mem : Mem} {x : Nat → Option Own} (h : ConT E f args e k xs xs' n) : ConT (E.lend mem x) f args e k xs xs' n := h
def DoneT (fn : Func) (e : TypeId) (k : Nat) (xs' : List (List G)) (n : Nat) : Exit → ASt → Prop
 | .ret, s | .normal, s => (∃ t, fn.results = #[.tmp t] ∧ s.get t = .osl 0 k 0 n) ∧ MemL s [(0, .arr e k xs')]
 | _, _ => False
theorem conT_of_aw {f : FuncId} {fn : Func} {c : Code} {args : List TV} {e : TypeId} {k n : Nat} {xs xs' : List (List G)} (hf : E.P.funcs[f]? = some fn) (hb : fn.body = some c) (hn0 : Nat.ble args.length fn.ntmps = true)
  (h : ∀ w0 M0 x, AWp (E.lend [(0, .arr e k xs)] x) w0 M0 c (DoneT fn e k xs' n) ⟨fn.ntmps, initTV args, [(0, .arr e k xs)]⟩) (hrn : E.rnd = none := by rfl) (hdf : E.mks = false := by rfl) : ConT E f args e k xs xs' n := by
 intro w M ρ vs hM hgl hdom hown hinj hblk hv;have hn := Nat.le_of_ble_eq_true hn0;have hlen := hv.length
 let x : Nat → Option Own := fun id => (ρ id).getD none
 have hx : ∀ id y, ρ id = some y → x id = y := fun id y h => by simp only [x, h, Option.getD_some]
 have hlive : ∀ p ∈ [((0 : Nat), Blk.arr e k xs)], p.2.live = true := by
  intro p hp; rw [List.mem_singleton.1 hp]; rfl
 have hkeep : ∀ id y, lookO (E.lend [(0, .arr e k xs)] x).bow id = some y → ρ id = some y := by
  intro id y h;obtain ⟨⟨b, h1⟩, rfl⟩ := (lookO_mapk x).1 h;obtain ⟨z, hz⟩ := (hblk id b h1).has (hlive _ (lookO_mem _ h1));rw [hx id z hz]; exact hz
 have hback : ∀ id y, ρ id = some y → lookO (E.lend [(0, .arr e k xs)] x).bow id = some y := fun id y h => (lookO_mapk x).2 ⟨hdom id y h, (hx id y h).symm⟩;refine calls_of_wp hf hb ?_
 have ha : ARel (E.lend [(0, .arr e k xs)] x) w M ⟨fn.ntmps, initTV args, [(0, .arr e k xs)]⟩ { tmps := vs.toArray ++ Array.replicate (fn.ntmps - vs.toArray.size) undef, defers := [] } w := by
  refine ⟨fun _ => rfl, ?_, ρ, ?_, Marks.nil, ?_⟩
  ·simp; omega
  ·exact ⟨BelowX.refl _ w, hM, hgl, hdom, fun id ow ho => ⟨.inr ⟨id, ow, hback id _ ho, rfl⟩, (hown id ow ho).1⟩, hinj, hkeep, fun b ⟨id, ow, h1, h2⟩ => h2 ▸ (hown id ow (hkeep id _ h1)).2, hblk⟩
  ·intro i;have := initTV_rel (fn.ntmps - vs.length) hv i;show TRel _ _ _ (initTV args i) _;rw [Array.getD_eq_getD_getElem?];rw [show (vs.toArray ++ Array.replicate (fn.ntmps - vs.toArray.size) undef) = (vs ++ List.replicate (fn.ntmps - vs.length) undef).toArray by simp];rw [List.getElem?_toArray];exact this
 refine wp_mono (wp_env (E := E.lend [(0, .arr e k xs)] x) (h w M x _ w ha) hrn) ?_;rintro ex a' w' ⟨s', ha', hq⟩
 have fin : ((∃ t, fn.results = #[.tmp t] ∧ s'.get t = .osl 0 k 0 n) ∧ MemL s' [(0, .arr e k xs')]) → a'.defers = [] ∧ ∃ v, (results fn a'.tmps).run E.P w' = .ok v w' ∧ (∃ u, Ending.returned v = .returned u ∧ BelowX (fun b => ∃ id ow, ρ id = some (some ow) ∧ ow.b = b) w w' ∧ BRel w' (owned M ρ) ρ 0 (.arr e k xs') ∧ TRel w' (owned M ρ) ρ (.osl 0 k 0 n) u) := by
  rintro ⟨⟨t, hr, hq⟩, hm'⟩;obtain ⟨ρf, hm, _, ht⟩ := ha'.ex
  have hres : (results fn a'.tmps).run E.P w' = .ok (a'.tmps.getD t undef) w' := by
   rw [results_eq, hr]
   simp [rvSem]
  have hsub : ∀ b, owned M ρ b → owned M ρf b := by
   rintro b (h | ⟨id, o, h, rfl⟩)
   ·exact .inl h
   ·exact .inr ⟨id, o, hm.keep id _ (hback id _ h), rfl⟩
  obtain ⟨z, hz⟩ := (hblk 0 (.arr e k xs) rfl).has rfl
  have hρ0 : ρ 0 = ρf 0 := by rw [hz, hm.keep 0 z (hback 0 z hz)]
  refine ⟨ha'.defers hdf, _, hres, _, rfl, hm.below.mono (fun b ⟨id, ow, h3, h4⟩ => ⟨id, ow, hkeep id _ h3, h4⟩), BRel.ground rfl hρ0 ((hm.blk 0 _ (memL_mem hm' List.mem_cons_self)).sub hsub), ?_⟩;have h1 := ht t;rw [hq] at h1
  rcases h1 with ⟨g1, g2⟩ | ⟨ow, g1, g2⟩
  ·exact .inl ⟨hρ0.trans g1, g2⟩
  ·exact .inr ⟨ow, hρ0.trans g1, g2⟩
 cases ex with
 | ret => exact fin hq
 | normal => exact fin hq
 | _ => exact hq.elim
theorem eff_turn {o : Oper} {mem : Mem} {ev : Operand → TV} {f : FuncId} {aps : Array Operand} {ts : Array TypeId} {args : List TV} {e : TypeId} {k n : Nat} {xs xs' : List (List G)} (c : Nat) (ho : o.op = .call ⟨.value (.func f), aps, ts⟩)
  (hk : Known E.P f) (hev : ev (.func f) = .g (.lit (.func (.func f) #[] #[]))) (hc : ConT E f args e k xs xs' n) (ha : aps.toList.map (fun x => some (ev x)) = args.map (renT [(0, c)])) (hl : lookO mem c = some (.arr e k xs))
  (hrefs : ∀ i blk, lookO mem i = some blk → i ≠ c → blk.noref (some c) = true) (hn : n ≤ xs'.length) (hbw : lookO E.bow c = none := by rfl) :
  EffW E o mem ev (.osl c k 0 n) ((c, .arr e k (xs'.take n)) :: mem) (some c) := by
 intro w0 M0 ρ w e' hm hx;obtain ⟨fn, h1, h2, h3⟩ := hk
 have hef : e' (.func f) = .func (.func f) #[] #[] := by
  have := hx (.func f) (by rw [ho]; simp [Op.operands, Call.operands]);rw [hev] at this;exact this
 have hres : (execOp e' o).run E.P w = .ok (.enter f (aps.toList.map e').toArray) w := by
  simp [execOp, ho, resolve, hef, Deferred.ofValue, invoke, run_callFunc h1 h2 h3, ← Array.toList_map]
 rw [hres]
 let ρc : Rho := fun p => if p = 0 then ρ c else none
 have hρ0 : ρc 0 = ρ c := by simp [ρc]
 have hρc' : ∀ p x, ρc p = some x → p = 0 ∧ ρ c = some x := by
  intro p x h;simp only [ρc] at h
  split at h
  ·exact ⟨by assumption, h⟩
  ·cases h
 let M : Nat → Prop := fun b => owned M0 ρ b ∧ ¬ ∃ ow, ρ c = some (some ow) ∧ ow.b = b
 have hown : owned M ρc = owned M0 ρ := by
  funext b
  apply propext
  constructor
  ·rintro (h | ⟨p, o, h, rfl⟩)
   ·exact h.1
   ·exact .inr ⟨c, o, (hρc' p _ h).2, rfl⟩
  ·intro h
   by_cases hb : ∃ ow, ρ c = some (some ow) ∧ ow.b = b
   ·obtain ⟨ow, h1, h2⟩ := hb; exact .inr ⟨0, ow, hρ0.trans h1, h2⟩
   ·exact .inl ⟨h, hb⟩
 have hcall := hc w M ρc (aps.toList.map e') (fun b h => hm.lt b h.1) (by rw [hown]; exact hm.glob)
  (fun p x h => by
   have := (hρc' p x h).1;subst this
   exact ⟨_, rfl⟩)
  (fun p ow h => by
   have c2 := (hρc' p _ h).2
   exact ⟨(hm.fresh c ow c2).2, fun hM => hM.2 ⟨ow, c2, rfl⟩⟩)
  (fun p q ow ow' h1 h2 _ => (hρc' p _ h1).1.trans (hρc' q _ h2).1.symm)
  (fun p blk h => by
   have hp : p = 0 := by
    by_cases hp : p = 0
    ·exact hp
    ·have : lookO [((0 : Nat), Blk.arr e k xs)] p = none := by
      simp only [lookO];rw [show Nat.beq 0 p = false from by cases p with | zero => exact absurd rfl hp | succ _ => rfl]
      rfl
     rw [this] at h; cases h
   subst hp
   have hb : blk = .arr e k xs := by simpa [lookO] using h.symm
   subst hb;rw [hown]
   exact BRel.ground rfl hρ0 (hm.blk c _ hl))
  (by
   rw [hown];refine args_ren (σ := [(0, c)]) (ρc := ρc) (fun p q hpq => ?_) (fun x hx' => hx x (by rw [ho]; simp [Op.operands, Call.operands]; exact .inr (by simpa using hx'))) ha
   by_cases hp : p = 0
   ·subst hp
    have : c = q := by simpa [lookO] using hpq
    rw [← this]; exact hρ0
   ·have : lookO [((0 : Nat), c)] p = none := by
     simp only [lookO];rw [show Nat.beq 0 p = false from by cases p with | zero => exact absurd rfl hp | succ _ => rfl]
     rfl
    rw [this] at hpq; cases hpq)
 rw [hown] at hcall;refine hcall.mono ?_;rintro ex w' ⟨v, rfl, hb, hblk, hr⟩
 have hlow : ∀ b, b < w.heap.size → ¬ owned M0 ρ b → w'.heap[b]? = w.heap[b]? := fun b hlt hno => hb.block b hlt (by
  rintro ⟨p, ow, h1, rfl⟩
  exact hno (.inr ⟨c, ow, (hρc' p _ h1).2, rfl⟩))
 have hne : ∀ id b, lookO ((c, Blk.arr e k (xs'.take n)) :: mem) id = some b → (id = c ∧ b = .arr e k (xs'.take n)) ∨ (id ≠ c ∧ lookO mem id = some b) := by
  intro id b h;simp only [lookO] at h
  cases hbq : Nat.beq c id with
  | true =>
   rw [hbq] at h;exact .inl ⟨(Nat.eq_of_beq_eq_true hbq).symm, by simpa using h.symm⟩
  | false =>
   rw [hbq] at h;refine .inr ⟨fun e => ?_, h⟩;rw [e, Nat.beq_refl] at hbq; cases hbq
 refine ⟨v, rfl, ρ, ⟨?_, hm.m0, hm.glob.grow hb.size hlow, ?_, ?_, hm.inj, hm.keep, hm.lentM, ?_⟩, fun tv u hn' h => h.mono (some c) hn' hlow (fun _ _ h => h) (fun _ _ _ => rfl), ?_⟩
 ·refine ⟨hb.os.trans hm.below.os, hb.tape.trans hm.below.tape, hb.output.trans hm.below.output, Nat.le_trans hm.below.size hb.size, fun kk hkk hlk => ?_⟩;refine (hb.block kk (Nat.lt_of_lt_of_le hkk hm.below.size) ?_).trans (hm.below.block kk hkk hlk);rintro ⟨p, ow, h1, rfl⟩
  rcases (hm.fresh c ow (hρc' p _ h1).2).1 with h | h
  ·omega
  ·exact hlk h
 ·intro id x h;obtain ⟨b, hb⟩ := hm.dom id x h
  cases hbq : Nat.beq c id with
  | true => exact ⟨_, by simp only [lookO, hbq]; rfl⟩
  | false => exact ⟨b, by simp only [lookO, hbq]; exact hb⟩
 ·exact fun id ow h => ⟨(hm.fresh id ow h).1, Nat.lt_of_lt_of_le (hm.fresh id ow h).2 hb.size⟩
 ·intro id blk h
  rcases hne id blk h with ⟨rfl, rfl⟩ | ⟨h1, h2⟩
  ·rcases hblk with ⟨k1, k2⟩ | ⟨ow', vs', k1, k2, k3, k4, k5, k6, k7⟩
   ·refine .inl ⟨hρ0.symm.trans k1, ?_⟩;have h0 : xs' = [] := k2;rw [h0]; simp
   ·refine .inr ⟨ow', vs', hρ0.symm.trans k1, k2, ?_, k4, k5, fun cc hcc => k6 cc (List.mem_of_mem_take hcc), ?_⟩
    ·rw [List.length_take]; omega
    ·have hfl : (xs'.take n).flatten = xs'.flatten.take (n * k) := (flatten_take (k := k) n k6).symm
     have hlen : (xs'.take n).length = n := by rw [List.length_take]; omega
     rw [hfl, hlen];have h5 := k7.take (n * k);rw [List.take_take, Nat.min_eq_left (Nat.mul_le_mul_right k hn)] at h5;exact h5
  ·refine (hm.blk id blk h2).mono (some c) (fun e => h1 (Option.some.inj e)) (hrefs id blk h2 h1) (fun ow ho => ?_) hlow (fun _ _ h => h) (fun _ _ _ => rfl);refine hb.block ow.b (hm.fresh id ow ho).2 ?_;rintro ⟨p, ow2, g1, g2⟩;exact h1 (hm.inj c id ow2 ow (hρc' p _ g1).2 ho g2).symm
 ·rcases hr with ⟨g1, g2⟩ | ⟨ow, g1, g2⟩
  ·exact .inl ⟨hρ0.symm.trans g1, g2⟩
  ·exact .inr ⟨ow, hρ0.symm.trans g1, g2⟩
theorem take_len {α : Type} {n : Nat} {l : List α} (h : n ≤ l.length) : (List.take n l).length = n := by rw [List.length_take]; omega
theorem eff_turnL {α : Type} {f0 : α → List G} {l l' : List α} {o : Oper} {mem : Mem} {ev : Operand → TV} {f : FuncId} {aps : Array Operand} {ts : Array TypeId} {args : List TV} {e : TypeId} {k n : Nat} (c : Nat) (ho : o.op = .call ⟨.value (.func f), aps, ts⟩)
  (hk : Known E.P f) (hev : ev (.func f) = .g (.lit (.func (.func f) #[] #[]))) (hc : ConT E f args e k (l.map f0) (l'.map f0) n) (ha : aps.toList.map (fun x => some (ev x)) = args.map (renT [(0, c)])) (hl : lookO mem c = some (.arr e k (l.map f0)))
  (hrefs : ∀ i blk, lookO mem i = some blk → i ≠ c → blk.noref (some c) = true) (hn : n ≤ l'.length) (hbw : lookO E.bow c = none := by rfl) :
  EffW E o mem ev (.osl c k 0 n) ((c, .arr e k ((l'.take n).map f0)) :: mem) (some c) := by
 rw [List.map_take];exact eff_turn c ho hk hev hc ha hl hrefs (by rw [List.length_map]; exact hn) hbw
end
section
variable {E : Env} {w0 : World} {M0 : Nat → Prop}
theorem eff_clearO {α : Type} {f0 : α → List G} {l : List α} {o : Oper} {mem : Mem} {ev : Operand → TV} {t el e : TypeId} {x : Operand} {k id N a : Nat} {zs : List Value} (ho : o.op = .call ⟨.builtin .clear, #[x], #[t]⟩) (ht : E.P.underlying t = some (.slice el)) (hz : zeroK E.P el = some zs)
  (hx : ev x = .osl id k a N) (hN : l.length = N) (hb : lookO mem id = some (.arr e k (l.map f0))) (hk : zs.length = k) (h1 : zs.all Value.oneCell' = true) : EffW E o mem ev (.g (.tup [])) ((id, .arr e k ((l.take a).map f0)) :: mem) none := by
 intro w0 M0 ρ w e' hm he;have hv := he x (by rw [ho]; simp [Op.operands, Call.operands]);rw [hx] at hv;obtain ⟨i, z, hi, hz', hzs⟩ := Go.Ex.zeroK_spec hz
 rcases hm.blk id _ hb with ⟨g1, g2⟩ | ⟨ow, cur, g1, g2, g3, g4, g5, g6, g7⟩
 ·have hl0 : l = [] := by simpa using g2
  subst hl0
  have hex : e' x = .slice none 0 0 := by
   rcases hv with ⟨_, _, _, h⟩ | ⟨ow, h, _⟩
   ·exact h
   ·rw [g1] at h; cases h
  have hrun : (execOp e' o).run E.P w = .ok (.value (.tuple #[])) w := by
   simp [execOp, ho, resolve, invoke, builtin, Builtin.clear_, hex, run_underlying ht]
  rw [hrun];obtain ⟨k1, k2⟩ := mrel_upd (id := id) (x := none) (blk' := .arr e k ((([] : List α).take a).map f0)) none hm ⟨rfl, rfl, rfl, Nat.le_refl _, fun _ _ _ => rfl⟩ (fun _ h => by cases h) (.inr ⟨rfl, .inr g1⟩) (fun _ b _ _ => noref_none b) (.inl rfl) (.inl ⟨rhoSet_same _ _ _, by simp⟩);exact ⟨_, k1, k2, ⟨[], rfl, trivial⟩⟩
 ·rw [List.length_map] at g3 g7
  have hcv : ∃ p, e' x = .slice (some ⟨ow.b, p, none⟩) (N - a) (ow.cap - a) ∧ a ≤ N ∧ N ≤ ow.cap ∧ (a < ow.cap → p = ow.o + a * k) := by
   rcases hv with ⟨h, _⟩ | ⟨ow', h, h2, h3, p, h4, h5⟩
   ·rw [g1] at h; cases h
   ·have : ow' = ow := by rw [g1] at h; simpa using h.symm
    subst this;exact ⟨p, h4, h2, h3, h5⟩
  obtain ⟨p, hex, haN, hNc, hp⟩ := hcv
  have hstore : ∃ w' cur', (execOp e' o).run E.P w = .ok (.value (.tuple #[])) w' ∧ w'.heap[ow.b]? = some (.cells cur' e (0, 0)) ∧ cur'.size = cur.size ∧ ((cur'.toList.drop ow.o).take (a * k) = (cur.toList.drop ow.o).take (a * k)) ∧ (∀ b, b ≠ ow.b → w'.heap[b]? = w.heap[b]?) ∧ w'.heap.size = w.heap.size ∧ w'.os = w.os ∧ w'.tape = w.tape ∧ w'.output = w.output := by
   by_cases hz0 : N - a = 0
   ·refine ⟨w, cur, ?_, g2, rfl, rfl, fun _ _ => rfl, rfl, rfl, rfl, rfl⟩;rw [hz0] at hex
    simp [execOp, ho, resolve, invoke, builtin, Builtin.clear_, hex, run_underlying ht]
   ·have hp := hp (by omega);subst hp;have hcap := g5.resolve_left (by omega)
    have hzsz : z.cells.size = k := by rw [← Array.length_toList, hzs, hk]
    let cs := (Builtin.zeroCells z.cells (N - a)).toList
    have hcs : cs = (List.replicate (N - a) zs).flatten := by
     show (Builtin.zeroCells z.cells (N - a)).toList = _;rw [← hzs, ← Go.Ex.zeros_list hzsz (N - a)]
     simp [Builtin.zeroCells, hzsz]
    have hclen : cs.length = (N - a) * k := by rw [hcs]; simp [hk]
    have hone : ∀ u ∈ cs, u.oneCell' = true := by
     intro u hu;rw [hcs] at hu;obtain ⟨c, hc, hu⟩ := List.mem_flatten.1 hu;rw [(List.mem_replicate.1 hc).2] at hu;exact List.all_eq_true.1 h1 u hu
    have hmul : a * k + (N - a) * k = N * k := by rw [← Nat.add_mul]; congr 1; omega
    have hNk : N * k ≤ ow.cap * k := Nat.mul_le_mul_right _ hNc;obtain ⟨w', cur', r1, r2, r3, r4, r5, r6, r7, r8⟩ := run_storeCells (P := E.P) ow.b (ow.o + a * k) e cs 0 cur w g2 (by omega) hone;refine ⟨w', cur', ?_, r2, ?_, ?_, r4, r5, r6, r7, r8⟩
    ·obtain ⟨m, hm0⟩ : ∃ m, N - a = m + 1 := ⟨N - a - 1, by omega⟩;have hrz := Go.Ex.run_zeroValue (P := E.P) (w := w) hi hz';rw [hm0] at hex
     have hcs2 : (Builtin.zeroCells z.cells (m + 1)).toList = cs := by simp only [cs, hm0]
     simp [execOp, ho, resolve, invoke, builtin, Builtin.clear_, hex, run_underlying ht, hrz, hcs2, r1]
    ·rw [← Array.length_toList, r3, ← Array.length_toList (xs := cur)];simp only [setAt, List.length_append, List.length_take, List.length_drop, Array.length_toList]
     omega
    ·rw [r3, Nat.add_zero];simp only [setAt];rw [List.append_assoc, List.drop_append_of_le_length (by simp; omega), List.take_append_of_le_length (by simp; omega), List.drop_take, List.take_take]
     congr 1; omega
  obtain ⟨w', cur', hrun, r2, rsz, r3, r4, r5, r6, r7, r8⟩ := hstore;rw [hrun];have hdf : Diff ρ id w w' := ⟨r6, r7, r8, by omega, fun b _ hne => r4 b (hne ow g1)⟩
  have hM : ∀ b, b < w.heap.size → owned M0 (rhoSet ρ id (some ow)) b → owned M0 ρ b := by
   rintro b hb (h | ⟨i, o, h, rfl⟩)
   ·exact .inl h
   ·by_cases hi : i = id
    ·subst hi; rw [rhoSet_same] at h; cases h; exact .inr ⟨i, ow, g1, rfl⟩
    ·exact .inr ⟨i, o, by simpa [rhoSet, hi] using h, rfl⟩
  have hh : ∀ b, b < w.heap.size → ¬ owned M0 ρ b → w'.heap[b]? = w.heap[b]? := fun b _ hno => r4 b fun he => hno (.inr ⟨id, ow, g1, he.symm⟩);have hkm : ∀ c ∈ l.map f0, c.length = k := g6
  have hta : (l.take a).length = a := by rw [List.length_take]; omega
  have hfl : ((l.take a).map f0).flatten = (l.map f0).flatten.take (a * k) := by rw [List.map_take]; exact (flatten_take (k := k) a hkm).symm
  obtain ⟨k1, k2⟩ := mrel_upd (id := id) (x := some ow) (blk' := .arr e k ((l.take a).map f0)) none hm hdf (fun o ho => by cases ho; exact ⟨.inr ⟨ow, g1, rfl⟩, by rw [r5]; exact (hm.fresh id ow g1).2⟩) (.inr ⟨rfl, .inr g1⟩) (fun _ b _ _ => noref_none b) (.inl rfl)
   (.inr ⟨ow, cur', rhoSet_same _ _ _, r2, by rw [List.length_map, hta]; omega, g4, g5.imp (fun h => h) (fun h => by rw [rsz]; exact h), fun c hc => by
     rw [List.map_take] at hc; exact hkm c (List.mem_of_mem_take hc), by
     rw [List.length_map, hta, r3, hfl];have h5 := g7.take (a * k);rw [List.take_take, Nat.min_eq_left (Nat.mul_le_mul_right k (by omega))] at h5
     exact h5.mono hh hM⟩)
  exact ⟨_, k1, k2, ⟨[], rfl, trivial⟩⟩
end
section
variable {E : Env}
end
section
variable {E : Env} {w0 : World} {M0 : Nat → Prop} {ops : Array Oper} {md : Region.Mode} {cl : Nat → Cls}
theorem anyA_first2 {K : ASt → Prop} {i : Nat} {oi : Oper} (hi : ops[i]? = some oi) (D : Nat → Bool) (hD : ∀ j, D j = true → ∃ oj, ops[j]? = some oj ∧ ∃ e ∈ oj.after, Region.binds md e = true ∧ (e.on = i ∨ D e.on = true)) : ∀ (fuel : Nat) (listed : Array Bool) (s u : ASt),
  (∀ j, D j = true → listed.getD j true = false) →
  (∀ j oj, ops[j]? = some oj → j ≠ i → listed.getD j true = false → D j = false → oi.apart ops oj = true ∧ okC oi oj (cl i) (cl j) = true) →
  i ∈ Region.ready md ops listed → AStep E ops oi (cl i) s u → anyA E md ops cl K fuel (listed.setIfInBounds i true) u → anyA E md ops cl K (fuel + 1) listed s := by
 intro fuel
 induction fuel with
 | zero =>
  intro listed s u _ _ hr hy H;refine ⟨fun h => (by rw [h] at hr; cases hr), fun j hj => ?_⟩
  by_cases hji : j = i
  ·subst hji; unfold aOp; simp only [hi]; exact ⟨u, hy, H⟩
  ·have := ready_mono hj hji;rw [H.1] at this
   cases this
 | succ fuel ih =>
  intro listed s u hL hfree hr hy H;refine ⟨fun h => (by rw [h] at hr; cases hr), fun j hj => ?_⟩
  by_cases hji : j = i
  ·subst hji; unfold aOp; simp only [hi]; exact ⟨u, hy, H⟩
  ·have h1 := H.2 j (ready_mono hj hji);obtain ⟨hjun, oj, hoj, hall⟩ := mem_ready.1 hj
   have hnD : D j = false := by
    cases hd : D j with
    | false => rfl
    | true =>
     exfalso
     obtain ⟨oj', ho', e, he, hb, hon⟩ := hD j hd
     have : oj' = oj := by rw [hoj] at ho'; exact (Option.some.inj ho').symm
     subst this;have h2 := hall e he hb
     rcases hon with heq | hDe
     ·have h0 := (mem_ready.1 hr).1;rw [heq] at h2
      rcases Nat.lt_or_ge i listed.size with h' | h'
      ·simp [h'] at h0 h2; rw [h0] at h2; cases h2
      ·simp [Array.getElem?_eq_none h'] at h2
     ·have h0 := hL e.on hDe
      rcases Nat.lt_or_ge e.on listed.size with h' | h'
      ·simp [h'] at h0 h2; rw [h0] at h2; cases h2
      ·simp [Array.getElem?_eq_none h'] at h2
   unfold aOp at h1 ⊢;simp only [hoj] at h1 ⊢;obtain ⟨t, h2, h3⟩ := h1;obtain ⟨hap, hok⟩ := hfree j oj hoj hji hjun hnD;obtain ⟨s2, h4, h5⟩ := AStep.swap hap hok hy h2;refine ⟨s2, h4, ih (listed.setIfInBounds j true) s2 t (fun k hk => ?_) (fun k ok hk hki hun hno => ?_) (ready_mono hr (Ne.symm hji)) h5 ?_⟩
   ·by_cases hjk : j = k
    ·subst hjk; rw [hk] at hnD; cases hnD
    ·rw [getD_set_ne true hjk]; exact hL k hk
   ·refine hfree k ok hk hki ?_ hno
    by_cases hjk : j = k
    ·subst hjk; exact hjun
    ·rw [getD_set_ne true hjk] at hun; exact hun
   ·rw [Array.setIfInBounds_comm _ _ hji];exact h3
def descs (md : Region.Mode) (ops : Array Oper) (i : Nat) : List Nat :=
 (List.range ops.size).foldl (fun acc j => match ops[j]? with
  | some oj => bif oj.after.any (fun e => Region.binds md e && (e.on == i || acc.contains e.on)) then j :: acc else acc
  | none => acc) []
def freeC2 (md : Region.Mode) (ops : Array Oper) (cl : Nat → Cls) (listed : Array Bool) (i : Nat) (L : List Nat) : Bool :=
 match ops[i]? with
 | none => false
 | some oi => ((List.range ops.size).all fun j => j == i || listed.getD j true || L.contains j || match ops[j]? with
   | some oj => oi.apart ops oj && okC oi oj (cl i) (cl j)
   | none => true) && L.all fun j => !listed.getD j true && match ops[j]? with
   | some oj => oj.after.any (fun e => Region.binds md e && (e.on == i || L.contains e.on))
   | none => false
def lexC2 (md : Region.Mode) (ops : Array Oper) (cl : Nat → Cls) : Nat → Nat → Array Bool → Bool
 | 0, _, listed => (Region.ready md ops listed).isEmpty
 | fuel + 1, k, listed => (Region.ready md ops listed).contains k && freeC2 md ops cl listed k (descs md ops k) && lexC2 md ops cl fuel (k + 1) (listed.setIfInBounds k true)
theorem anyA_lex2 {K : ASt → Prop} : ∀ (l : List Oper) (cs : List Cls) (k : Nat) (listed : Array Bool) (s : ASt), (∀ j, l[j]? = ops[k + j]?) → (∀ j c, cs[j]? = some c → cl (k + j) = c) →
  lexC2 md ops cl l.length k listed = true → AOps E ops l cs s K → anyA E md ops cl K l.length listed s
 | [], [], _, _, _, _, _, hB, h => ⟨by simpa [lexC2] using hB, h⟩
 | o :: l, c :: cs, k, listed, s, hl, hc, hB, h => by
  have h0 : ops[k]? = some o := by simpa using (hl 0).symm
  have hc0 : cl k = c := by simpa using hc 0 c (by simp)
  simp only [List.length_cons, lexC2, Bool.and_eq_true] at hB;obtain ⟨⟨hr, hf⟩, hB'⟩ := hB;obtain ⟨s', h1, h2⟩ := h;subst hc0;simp only [freeC2, h0, Bool.and_eq_true, List.all_eq_true, List.mem_range] at hf;obtain ⟨hf1, hf2⟩ := hf;refine anyA_first2 h0 (fun j => (descs md ops k).contains j) (fun j hj => ?_) l.length listed s s' (fun j hj => ?_) (fun j oj hoj hne hun hnD => ?_) (by simpa using hr) h1
   (anyA_lex2 l cs (k + 1) _ _ (fun j => by have := hl (j + 1); simpa [Nat.add_assoc, Nat.add_comm 1 j] using this)
    (fun j c hj => by have := hc (j + 1) c (by simpa using hj); simpa [Nat.add_assoc, Nat.add_comm 1 j] using this) hB' h2)
  ·have h3 := (hf2 j (List.contains_iff_mem.1 hj)).2
   cases ho : ops[j]? with
   | none => rw [ho] at h3; cases h3
   | some oj =>
    rw [ho] at h3;obtain ⟨e, he, hb⟩ := Array.any_eq_true'.1 h3;simp only [Bool.and_eq_true, Bool.or_eq_true, beq_iff_eq] at hb;exact ⟨oj, rfl, e, he, hb.1, hb.2⟩
  ·have h3 := (hf2 j (List.contains_iff_mem.1 hj)).1
   simpa using h3
  ·have h3 := hf1 j (Array.getElem?_eq_some_iff.1 hoj).1;simp only [Bool.or_eq_true, beq_iff_eq] at h3
   rcases h3 with ((h3 | h3) | h3) | h3
   ·exact absurd h3 hne
   ·rw [hun] at h3; cases h3
   ·rw [h3] at hnD; cases hnD
   ·rw [hoj] at h3
    simpa using h3
 | [], _ :: _, _, _, _, _, _, _, h => h.elim
 | _ :: _, [], _, _, _, _, _, _, h => h.elim
def lexOk2 (ops : Array Oper) (cs : List Cls) : Bool := lexC2 .any ops (fun i => cs.getD i .k) ops.size 0 (Array.replicate ops.size false)
theorem aw_draw2 {id : Nat} {ops : Array Oper} {Q : Exit → ASt → Prop} {s : ASt} (cs : List Cls) (hB : lexOk2 ops cs = true) (h : AOps E ops ops.toList cs s (Q .normal)) : AWp E w0 M0 (.region id ops true) Q s := by
 intro a w ha;refine wpIn_region_any E.orders ?_;have h1 := anyA_lex2 (md := .any) (cl := fun i => cs.getD i .k) ops.toList cs 0 (Array.replicate ops.size false) s (by simp) (fun j c hj => by simp [hj]) (by simpa [lexOk2] using hB) h;have h2 := anyA.sound (w0 := w0) (M0 := M0) (Q := Q) _ _ s h1 a _ ha.draw
 simpa using h2
end
theorem condS {α : Type} {c c' : Bool} {a b r : α} (h : (bif c then a else b) = r) (h1 : c' = true) (e : c' = c := by simp) : a = r := by subst e; rw [h1] at h; exact h
section
variable {E : Env} {w0 : World} {M0 : Nat → Prop}
theorem MFits.get {w : World} {M : Nat → Prop} : ∀ {es : List (Value × G)} {l : List MapEntry} {j : Nat} {e : MapEntry}, MFits w M es l → l[j]? = some e → ∃ k g, es[j]? = some (k, g) ∧ e.key = k ∧ g.p w M e.val
 | [], [], _, _, _, h => by simp at h
 | (k, g) :: _, e' :: _, 0, e, h, he => by
  simp at he; subst he
  exact ⟨k, g, rfl, h.1.1, h.1.2⟩
 | _ :: _, _ :: _, j + 1, e, h, he => by
  obtain ⟨k, g, h1, h2⟩ := MFits.get h.2 (by simpa using he);exact ⟨k, g, by simpa using h1, h2⟩
 | [], _ :: _, _, _, h, _ => h.elim
 | _ :: _, [], _, _, h, _ => h.elim
theorem MFits.length {w : World} {M : Nat → Prop} : ∀ {es : List (Value × G)} {l : List MapEntry}, MFits w M es l → l.length = es.length
 | [], [], _ => rfl
 | (_, _) :: _, _ :: _, h => by simp [MFits.length h.2]
 | [], _ :: _, h => h.elim
 | _ :: _, [], h => h.elim
end
section
variable {α : Type}
def MOrd (m : List α) (sn : List Nat) (l : List α) : Prop := sn.Nodup ∧ l.map some = sn.reverse.map (fun j => m[j]?)
theorem MOrd.lt {m : List α} {sn : List Nat} {l : List α} (h : MOrd m sn l) {j : Nat} (hj : j ∈ sn) : j < m.length := by
 have h1 : m[j]? ∈ sn.reverse.map (fun j => m[j]?) := List.mem_map.2 ⟨j, List.mem_reverse.2 hj, rfl⟩;rw [← h.2] at h1;obtain ⟨x, _, hx⟩ := List.mem_map.1 h1;exact (List.getElem?_eq_some_iff.1 hx.symm).1
theorem nodup_sub_len {α : Type} [DecidableEq α] : ∀ {a b : List α}, a.Nodup → (∀ x ∈ a, x ∈ b) → a.length ≤ b.length
 | [], _, _, _ => Nat.zero_le _
 | x :: a, b, hn, hs => by
  obtain ⟨h1, h2⟩ := List.nodup_cons.1 hn;have hx := hs x List.mem_cons_self;have := nodup_sub_len (b := b.erase x) h2 fun y hy => (List.mem_erase_of_ne (fun e => h1 (by rw [← e]; exact hy))).2 (hs y (List.mem_cons_of_mem _ hy));rw [List.length_erase_of_mem hx] at this;have : 0 < b.length := List.length_pos_of_mem hx
  simp; omega
theorem MOrd.len {m : List α} {sn : List Nat} {l : List α} (h : MOrd m sn l) : l.length ≤ m.length := by
 have h1 : l.length = sn.length := by have := congrArg List.length h.2; simpa using this
 have := nodup_sub_len h.1 (b := List.range m.length) fun x hx => List.mem_range.2 (h.lt hx)
 simp at this
 omega
end
end Go.Sim
set_option maxRecDepth 10000
namespace Go.Sim
open Go.Proofs
def s1172_l1 (a1 : S1079 → Bool) : List S1079 → Nat → Int
 | [], k2 => (-1)
 | y3 :: t4, k2 => (bif (a1 y3) then ((k2 : Nat) : Int) else s1172_l1 a1 t4 (k2 + 1))
def s1172 (a0 : List S1079) (a1 : S1079 → Bool) : Int :=
 s1172_l1 a1 a0 0
theorem c1172 {g : List (Nat × List Value)} (a0 : List S1079) (a1 : S1079 → Bool) {ca1 : G} {ia1 : FuncId} {ka1 : List G} (ha1 : FnIs ca1 ia1 ka1) (Ka1 : Known Tryz.prog ia1) (Ha1 : ∀ (x0 : S1079), Con (EG g) ia1 ([G.agg [G.int x0.Moment, G.str x0.Kind, G.str x0.Terminal, G.int x0.Seats, G.int x0.Size, G.int x0.Noise, G.str x0.Name]] ++ ka1) (G.bool (a1 x0)))   : Con (EG g) 172 [G.sl 7 (List.map S1079.c a0), ca1] (G.int (s1172 a0 a1)) := by
 generalize hR : s1172 a0 a1 = R;unfold s1172 at hR;refine con_of_aw Tryz.func172 rfl rfl fun w0 M0 => ?_;refine len_sl (f := S1079.c) (l := a0) 0 rfl fun hla0 => ?_;refine aw_seq ?_;refine aw_region [.p] ?_;refine st rfl rfl (eff_assigng rfl rfl) rfl ?_;refine st_nil ?_;refine aw_seq ?_;refine aw_seq ?_;refine aw_region [.p, .p, .p] ?_;refine st rfl rfl (eff_moveg rfl rfl) rfl ?_;refine st rfl rfl (eff_lenM (f := S1079.c) (l := a0) rfl Tryz.underlying25 rfl) rfl ?_;refine st rfl rfl (eff_moveg rfl rfl) rfl ?_;refine st_nil ?_;refine aw_block ?_;refine aw_loop_g (γ := Nat × (List S1079)) (fun g => ([(0, .g (G.sl 7 (List.map S1079.c a0))), (1, .g (ca1)), (7, .g (G.int (List.length a0 : Int))), (8, .g (G.int ((g.1 : Nat) : Int)))], [])) (fun g => a0.drop g.1 = g.2 ∧ s1172_l1 a1 g.2 g.1 = R) (fun g => List.length g.2) ⟨rfl, (0, a0), ⟨rfl, rfl, rfl, rfl, trivial⟩, trivial, rfl, ⟨rfl, hR⟩, trivial⟩ ?_
 ·rintro ⟨k2, t4⟩ ⟨hd, hR⟩;replace hd : a0.drop k2 = t4 := hd;replace hR : s1172_l1 a1 t4 k2 = R := hR;refine aw_seq ?_;refine aw_region [.p] ?_;refine st rfl rfl (eff_lss rfl rfl rfl) rfl ?_;refine st_nil ?_;refine len_sl (f := S1079.c) (l := a0) 0 rfl fun hlz1 => ?_;refine aw_seq ?_;refine aw_cond _ rfl (fun h1 => ?_) (fun h1 => ?_)
  ·replace h1 : (decide (((k2 : Nat) : Int) < (List.length a0 : Int))) = true := h1;obtain ⟨y3, t4, rfl, hx1, hd⟩ := drop_cons hd (decT h1);replace h1 := decT h1;rw [s1172_l1] at hR;(try dsimp only at hR);refine aw_skip ?_;refine aw_seq ?_;refine aw_block ?_;refine aw_seq ?_;refine aw_region [.p, .p] ?_;refine st rfl rfl (eff_moveg rfl rfl) rfl ?_;refine st rfl rfl (eff_assigng rfl rfl) rfl ?_;refine st_nil ?_;refine aw_seq ?_;refine aw_region [.p, .p, .p, .p, .p, .p] ?_;refine st rfl rfl (eff_moveg rfl rfl) rfl ?_;refine st rfl rfl (eff_moveg rfl rfl) rfl ?_;refine st rfl rfl (eff_moveg rfl rfl) rfl ?_;refine st rfl rfl (eff_ix (f := S1079.c) (l := a0) (a := y3) rfl Tryz.underlying25 ty1080 rfl rfl (Int.natCast_nonneg _) hx1) rfl ?_;refine st rfl rfl (eff_loadA rfl ty1080 rfl rfl rfl) rfl ?_;refine st rfl rfl (eff_callf rfl ha1 Ka1 rfl (Ha1 y3) (ag_cons rfl ag_nil)) rfl ?_;refine st_nil ?_;refine aw_cond _ rfl (fun h3 => ?_) (fun h3 => ?_)
   ·replace h3 : ((a1 y3)) = true := h3;replace hR := condT hR h3;(try simp only [Bool.or_eq_true, Bool.and_eq_true, Bool.or_eq_false_iff, Bool.and_eq_false_iff, Bool.not_eq_true', Bool.not_eq_false', decide_eq_true_eq, decide_eq_false_iff_not] at h3);refine aw_seq ?_;refine aw_region [.p, .p] ?_;refine st rfl rfl (eff_moveg rfl rfl) rfl ?_;refine st rfl rfl (eff_assigng rfl rfl) rfl ?_;refine st_nil ?_;refine aw_ret ?_;subst hR;exact res_c rfl (rv_g rfl)
   ·replace h3 : ((a1 y3)) = false := h3;replace hR := condF hR h3;(try simp only [Bool.or_eq_true, Bool.and_eq_true, Bool.or_eq_false_iff, Bool.and_eq_false_iff, Bool.not_eq_true', Bool.not_eq_false', decide_eq_true_eq, decide_eq_false_iff_not] at h3);refine aw_skip ?_;refine aw_region [.p, .p] ?_;refine st rfl rfl (eff_add rfl rfl rfl (by unfold I64; omega)) rfl ?_;refine st rfl rfl (eff_moveg rfl rfl) rfl ?_;refine st_nil ?_;exact ⟨rfl, (k2 + 1, t4), ⟨rfl, rfl, rfl, rfl, trivial⟩, trivial, rfl, ⟨hd, hR⟩, by simp⟩
  ·replace h1 : (decide (((k2 : Nat) : Int) < (List.length a0 : Int))) = false := h1;obtain rfl := drop_nil hd (decF h1);rw [s1172_l1] at hR;refine aw_exit ?_;refine aw_seq ?_;refine aw_region [.p] ?_;refine st rfl rfl (eff_assigng rfl rfl) rfl ?_;refine st_nil ?_;refine aw_ret ?_;subst hR;exact res_c rfl (rv_g rfl)
theorem ix_rng {α : Type} (p : α → Bool) (F : List α → Nat → Int) (h0 : ∀ k, F [] k = -1) (h1 : ∀ y t k, F (y :: t) k = bif p y then ((k : Nat) : Int) else F t (k + 1)) :
  ∀ l k, F l k = -1 ∨ ((k : Int) ≤ F l k ∧ F l k < (k : Int) + (l.length : Int))
 | [], k => .inl (h0 k)
 | y :: t, k => by
  rw [h1, List.length_cons]
  cases p y with
  | true => right; simp; omega
  | false =>
   rcases ix_rng p F h0 h1 t (k + 1) with h | h
   ·left; exact h
   ·right; simp only [cond_false]; push_cast at h ⊢; omega
theorem ix1172 (l : List S1079) (p : S1079 → Bool) : s1172 l p = -1 ∨ (0 ≤ s1172 l p ∧ s1172 l p < (l.length : Int)) := by
 have := ix_rng p (s1172_l1 p) (fun _ => rfl) (fun _ _ _ => rfl) l 0
 simpa [s1172] using this
end Go.Sim
set_option maxRecDepth 10000
namespace Go.Sim
open Go.Proofs
def s1149_j1 (rec1 : Int → Int → (List S1079) → Option ((List S1079) × Nat)) (x2 : Int) (x6 : Int) (x7 : List S1079) : Option ((List S1079) × Nat) :=
 rec1 x6 (x2 + 1) x7
def s1149_l1 (a0 : List S1079) (a1 : S1079 → Bool) : Nat → Int → Int → (List S1079) → Option ((List S1079) × Nat)
 | 0, _, _, _ => none
 | k5 + 1, x1, x2, x3 => (bif decide (x2 < (List.length a0 : Int)) then bindO (ixO x3 x2) fun y9 => (bif !(a1 y9) then bindO (ixO x3 x1) fun y10 => s1149_j1 (fun z0_ z1_ z2_ => s1149_l1 a0 a1 k5 z0_ z1_ z2_) x2 (x1 + 1) (List.set x3 (Int.toNat x1) y9) else s1149_j1 (fun z0_ z1_ z2_ => s1149_l1 a0 a1 k5 z0_ z1_ z2_) x2 x1 x3) else some (List.take (Int.toNat x1) x3, Int.toNat x1))
def s1149 (a0 : List S1079) (a1 : S1079 → Bool) : Option ((List S1079) × Nat) :=
 (bif decide ((s1172 a0 a1) = (-1)) then some (a0, List.length a0) else s1149_l1 a0 a1 ((((List.length a0 : Int) - ((s1172 a0 a1) + 1)).toNat) + 1) (s1172 a0 a1) ((s1172 a0 a1) + 1) a0)
theorem c1149 {g : List (Nat × List Value)} (a0 : List S1079) (a1 : S1079 → Bool) {R : (List S1079) × Nat} {ca1 : G} {ia1 : FuncId} {ka1 : List G} (ha1 : FnIs ca1 ia1 ka1) (Ka1 : Known Tryz.prog ia1) (Ha1 : ∀ (x0 : S1079), Con (EG g) ia1 ([G.agg [G.int x0.Moment, G.str x0.Kind, G.str x0.Terminal, G.int x0.Seats, G.int x0.Size, G.int x0.Noise, G.str x0.Name]] ++ ka1) (G.bool (a1 x0)))  (hR : s1149 a0 a1 = some R) : ConT (EG g) 149 [.osl 0 7 0 (List.length a0), .g (ca1)] 80 7 (List.map S1079.c a0) (List.map S1079.c R.1) R.2 := by
 unfold s1149 at hR;refine conT_of_aw Tryz.func149 rfl rfl fun w0 M0 x => ?_;refine len_osl (f := S1079.c) (l := a0) 0 rfl fun hla0 => ?_;have hix := ix1172 a0 a1;refine aw_seq ?_;refine aw_region [.p] ?_;refine st rfl rfl (eff_assigng rfl rfl) rfl ?_;refine st_nil ?_;refine aw_seq ?_;refine aw_region [.p, .p, .r, .p] ?_;refine st rfl rfl (eff_moveO rfl rfl) rfl ?_;refine st rfl rfl (eff_moveg rfl rfl) rfl ?_;refine st_r rfl rfl (eff_callO rfl K1172 rfl (Con.lend (c1172 a0 a1 ha1 Ka1 Ha1)) (agv_osl rfl rfl (agv_cons rfl agv_nil))) rfl ?_;refine st rfl rfl (eff_assigng rfl rfl) rfl ?_;refine st_nil ?_;refine aw_seq ?_;refine aw_seq ?_;refine aw_region [.p, .p] ?_;refine st rfl rfl (eff_moveg rfl rfl) rfl ?_;refine st rfl rfl (eff_eql rfl rfl rfl) rfl ?_;refine st_nil ?_;refine aw_cond _ rfl (fun h1 => ?_) (fun h1 => ?_)
 ·replace h1 : (decide ((s1172 a0 a1) = (-1))) = true := h1;replace hR := condT hR h1;(try simp only [Bool.or_eq_true, Bool.and_eq_true, Bool.or_eq_false_iff, Bool.and_eq_false_iff, Bool.not_eq_true', Bool.not_eq_false', decide_eq_true_eq, decide_eq_false_iff_not] at h1);refine aw_seq ?_;refine aw_region [.p, .p] ?_;refine st rfl rfl (eff_moveO rfl rfl) rfl ?_;refine st rfl rfl (eff_assignO rfl rfl) rfl ?_;refine st_nil ?_;refine aw_ret ?_;obtain rfl := Option.some.inj hR;show (∃ t_, _ ∧ _) ∧ MemL _ _;exact ⟨⟨_, rfl, rfl⟩, rfl, trivial⟩
 ·replace h1 : (decide ((s1172 a0 a1) = (-1))) = false := h1;replace hR := condF hR h1;(try simp only [Bool.or_eq_true, Bool.and_eq_true, Bool.or_eq_false_iff, Bool.and_eq_false_iff, Bool.not_eq_true', Bool.not_eq_false', decide_eq_true_eq, decide_eq_false_iff_not] at h1);refine aw_skip ?_;refine aw_seq ?_;refine aw_seq ?_;refine aw_region [.p, .p, .p] ?_;refine st rfl rfl (eff_moveg rfl rfl) rfl ?_;refine st rfl rfl (eff_add rfl rfl rfl (by unfold I64; (try dsimp only); omega)) rfl ?_;refine st rfl rfl (eff_assigng rfl rfl) rfl ?_;refine st_nil ?_;refine aw_block ?_;refine aw_loop_g (γ := Nat × Int × Int × (List S1079)) (fun g => ([(0, .osl 0 7 0 (List.length a0)), (1, .g (ca1)), (5, .g (G.int g.2.1)), (6, .g (G.int g.2.2.1))], [(0, .arr 80 7 (List.map S1079.c g.2.2.2))])) (fun g => ((List.length a0 : Int) - g.2.2.1).toNat < g.1 ∧ 0 ≤ g.2.1 ∧ g.2.1 < g.2.2.1 ∧ g.2.2.1 ≤ (List.length a0 : Int) ∧ List.length g.2.2.2 = List.length a0 ∧ s1149_l1 a0 a1 g.1 g.2.1 g.2.2.1 g.2.2.2 = some R) (fun g => g.1) ⟨rfl, ((((List.length a0 : Int) - ((s1172 a0 a1) + 1)).toNat) + 1, (s1172 a0 a1), (s1172 a0 a1) + 1, a0), ⟨rfl, rfl, rfl, rfl, trivial⟩, ⟨rfl, trivial⟩, rfl, ⟨Nat.lt_succ_self _, (by first | omega | (dsimp only; omega) | simp), (by first | omega | (dsimp only; omega) | simp), (by first | omega | (dsimp only; omega) | simp), rfl, hR⟩, trivial⟩ ?_
  ·rintro ⟨k5, x1, x2, x3⟩ ⟨hk1, iv1_0, iv1_1, iv1_2, ln4, hR⟩;replace hk1 : ((List.length a0 : Int) - x2).toNat < k5 := hk1;replace hR : s1149_l1 a0 a1 k5 x1 x2 x3 = some R := hR;replace iv1_0 : 0 ≤ x1 := iv1_0;replace iv1_1 : x1 < x2 := iv1_1;replace iv1_2 : x2 ≤ (List.length a0 : Int) := iv1_2;replace ln4 : List.length x3 = List.length a0 := ln4;obtain ⟨k5, rfl⟩ : ∃ m, k5 = m + 1 := ⟨k5 - 1, by omega⟩;rw [s1149_l1] at hR;(try dsimp only at hR);refine aw_seq ?_;refine aw_seq ?_;refine aw_region [.p, .p, .p, .p] ?_;refine st rfl rfl (eff_moveg rfl rfl) rfl ?_;refine st rfl rfl (eff_moveO rfl rfl) rfl ?_;refine st rfl rfl (eff_lenO0 rfl Tryz.underlying25 rfl) rfl ?_;refine st rfl rfl (eff_lss rfl rfl rfl) rfl ?_;refine st_nil ?_;refine aw_cond _ rfl (fun h2 => ?_) (fun h2 => ?_)
   ·replace h2 : (decide (x2 < (List.length a0 : Int))) = true := h2;replace hR := condT hR h2;(try simp only [Bool.or_eq_true, Bool.and_eq_true, Bool.or_eq_false_iff, Bool.and_eq_false_iff, Bool.not_eq_true', Bool.not_eq_false', decide_eq_true_eq, decide_eq_false_iff_not] at h2);refine aw_skip ?_;refine aw_cut_g (γ := Int × (List S1079)) (fun g => ([(0, .osl 0 7 0 (List.length a0)), (1, .g (ca1)), (5, .g (G.int g.1)), (6, .g (G.int x2))], [(0, .arr 80 7 (List.map S1079.c g.2))])) (fun g => 0 ≤ g.1 ∧ g.1 ≤ x2 ∧ List.length g.2 = List.length a0 ∧ s1149_j1 (fun z0_ z1_ z2_ => s1149_l1 a0 a1 k5 z0_ z1_ z2_) x2 g.1 g.2 = some R) ?_ ?_
    ·refine aw_block ?_;refine aw_seq ?_;obtain ⟨y9, by9, hR⟩ := bindO_inv hR;refine aw_region [.p, .p, .p, .r, .w, .w] ?_;refine st rfl rfl (eff_moveO rfl rfl) rfl ?_;refine st rfl rfl (eff_moveg rfl rfl) rfl ?_;refine st rfl rfl (eff_ixL rfl Tryz.underlying25 ty1080 rfl rfl (ixO_nn by9) (Nat.lt_of_lt_of_eq (get_lt (ixO_get by9)) ln4)) rfl ?_;refine st_r rfl rfl (eff_ldEA (f := S1079.c) (l := x3) (a := y9) rfl ty1080 rfl rfl (ixO_get by9)) rfl ?_;refine st_w rfl rfl (eff_alloc 7 rfl z1080 rfl rfl) rfl ?_;refine st_wn rfl rfl (eff_store (tv := .g (G.agg [G.int y9.Moment, G.str y9.Kind, G.str y9.Terminal, G.int y9.Seats, G.int y9.Size, G.int y9.Noise, G.str y9.Name])) rfl ty1080 rfl rfl rfl rfl rfl) ?_;refine st_nil ?_;refine aw_seq ?_;refine aw_region [.p, .r, .p, .p] ?_;refine st rfl rfl (eff_moveg rfl rfl) rfl ?_;refine st_r rfl rfl (eff_loadOA rfl ty1080 rfl rfl rfl rfl) rfl ?_;refine st rfl rfl (eff_callf rfl ha1 Ka1 rfl (Con.lend (Ha1 y9)) (ag_cons rfl ag_nil)) rfl ?_;refine st rfl rfl (eff_not rfl rfl) rfl ?_;refine st_nil ?_;refine aw_cond _ rfl (fun h3 => ?_) (fun h3 => ?_)
     ·replace h3 : (!(a1 y9)) = true := h3;replace hR := condT hR h3;(try simp only [Bool.or_eq_true, Bool.and_eq_true, Bool.or_eq_false_iff, Bool.and_eq_false_iff, Bool.not_eq_true', Bool.not_eq_false', decide_eq_true_eq, decide_eq_false_iff_not] at h3);refine aw_seq ?_;obtain ⟨y10, by10, hR⟩ := bindO_inv hR;refine aw_region [.p, .p, .r, .p, .w] ?_;refine st rfl rfl (eff_moveO rfl rfl) rfl ?_;refine st rfl rfl (eff_moveg rfl rfl) rfl ?_;refine st_r rfl rfl (eff_loadOA rfl ty1080 rfl rfl rfl rfl) rfl ?_;refine st rfl rfl (eff_ixL rfl Tryz.underlying25 ty1080 rfl rfl (ixO_nn by10) (Nat.lt_of_lt_of_eq (get_lt (ixO_get by10)) ln4)) rfl ?_;refine st_wn rfl rfl (eff_setL (f := S1079.c) (l := x3) (a' := y9) rfl ty1080 rfl rfl rfl (Nat.lt_of_lt_of_eq (Nat.lt_of_lt_of_eq (get_lt (ixO_get by10)) ln4) (Eq.symm ln4)) rfl (fun _ => rfl)) ?_;refine st_nil ?_;refine aw_region [.p, .p, .p] ?_;refine st rfl rfl (eff_moveg rfl rfl) rfl ?_;refine st rfl rfl (eff_add rfl rfl rfl (by unfold I64; (try dsimp only); omega)) rfl ?_;refine st rfl rfl (eff_assigng rfl rfl) rfl ?_;refine st_nil ?_;exact ⟨rfl, (x1 + 1, List.set x3 (Int.toNat x1) y9), ⟨(by simp only [List.length_set]; rfl), rfl, rfl, rfl, trivial⟩, ⟨rfl, trivial⟩, rfl, ⟨(by first | omega | (dsimp only; omega) | (simp at *; omega)), (by first | omega | (dsimp only; omega) | (simp at *; omega)), ((List.length_set ..).trans ln4), hR⟩, trivial⟩
     ·replace h3 : (!(a1 y9)) = false := h3;replace hR := condF hR h3;(try simp only [Bool.or_eq_true, Bool.and_eq_true, Bool.or_eq_false_iff, Bool.and_eq_false_iff, Bool.not_eq_true', Bool.not_eq_false', decide_eq_true_eq, decide_eq_false_iff_not] at h3);refine aw_skip ?_;exact ⟨rfl, (x1, x3), ⟨rfl, rfl, rfl, rfl, trivial⟩, ⟨rfl, trivial⟩, rfl, ⟨(by first | omega | (dsimp only; omega) | (simp at *; omega)), (by first | omega | (dsimp only; omega) | (simp at *; omega)), ln4, hR⟩, trivial⟩
    ·rintro ⟨x6, x7⟩ ⟨jv1_0, jv1_1, ln8, hR⟩;replace jv1_0 : 0 ≤ x6 := jv1_0;replace jv1_1 : x6 ≤ x2 := jv1_1;replace ln8 : List.length x7 = List.length a0 := ln8;replace hR : s1149_j1 (fun z0_ z1_ z2_ => s1149_l1 a0 a1 k5 z0_ z1_ z2_) x2 x6 x7 = some R := hR;unfold s1149_j1 at hR;refine aw_region [.p, .p, .p] ?_;refine st rfl rfl (eff_moveg rfl rfl) rfl ?_;refine st rfl rfl (eff_add rfl rfl rfl (by unfold I64; (try dsimp only); omega)) rfl ?_;refine st rfl rfl (eff_assigng rfl rfl) rfl ?_;refine st_nil ?_;exact ⟨rfl, (k5, x6, x2 + 1, x7), ⟨rfl, rfl, rfl, rfl, trivial⟩, ⟨rfl, trivial⟩, rfl, ⟨(by first | omega | (dsimp only; omega) | (simp at *; omega)), (by first | omega | (dsimp only; omega) | (simp at *; omega)), (by first | omega | (dsimp only; omega) | (simp at *; omega)), (by first | omega | (dsimp only; omega) | (simp at *; omega)), ln8, hR⟩, by simp⟩
   ·replace h2 : (decide (x2 < (List.length a0 : Int))) = false := h2;replace hR := condF hR h2;(try simp only [Bool.or_eq_true, Bool.and_eq_true, Bool.or_eq_false_iff, Bool.and_eq_false_iff, Bool.not_eq_true', Bool.not_eq_false', decide_eq_true_eq, decide_eq_false_iff_not] at h2);refine aw_exit ?_;refine aw_seq ?_;refine aw_region [.p, .p, .p, .w] ?_;refine st rfl rfl (eff_moveO rfl rfl) rfl ?_;refine st rfl rfl (eff_moveg rfl rfl) rfl ?_;refine st rfl rfl (eff_slO (a := Int.toNat x1) (c := List.length a0) rfl Tryz.underlying25 ty1080 rfl (bnd_some rfl (by omega)) bnd_none (by omega) (by omega)) rfl ?_;refine st_wn rfl rfl (eff_clearO (f0 := S1079.c) (l := x3) (a := Int.toNat x1) rfl Tryz.underlying25 z1080 rfl ln4 rfl rfl rfl) ?_;refine st_nil ?_;refine aw_seq ?_;refine aw_region [.p, .p, .p, .p] ?_;refine st rfl rfl (eff_moveO rfl rfl) rfl ?_;refine st rfl rfl (eff_moveg rfl rfl) rfl ?_;refine st rfl rfl (eff_slO (a := 0) (c := Int.toNat x1) rfl Tryz.underlying25 ty1080 rfl bnd_none (bnd_some rfl (by omega)) (by omega) (by omega)) rfl ?_;refine st rfl rfl (eff_assignO rfl rfl) rfl ?_;refine st_nil ?_;refine aw_ret ?_;obtain rfl := Option.some.inj hR;show (∃ t_, _ ∧ _) ∧ MemL _ _;exact ⟨⟨_, rfl, rfl⟩, rfl, trivial⟩
section
variable {α : Type} (p : α → Bool) (n : Nat) (F : Nat → Int → Int → List α → Option (List α × Nat))
theorem del_loop (h1 : ∀ k i j x, F (k + 1) i j x = bif decide (j < (n : Int)) then bindO (ixO x j) fun y => (bif !(p y) then bindO (ixO x i) fun _ => F k (i + 1) (j + 1) (List.set x (Int.toNat i) y) else F k i (j + 1) x) else some (List.take (Int.toNat i) x, Int.toNat i)) :
  ∀ (t x : List α) (k i j : Nat), x.length = n → i < j → j + t.length = n → x.drop j = t → t.length < k → F k (i : Int) (j : Int) x = some (x.take i ++ t.filter (fun y => !(p y)), i + (t.filter (fun y => !(p y))).length)
 | _, x, 0, i, j, _, _, _, _, h => by omega
 | [], x, k + 1, i, j, hx, hij, hjn, _, _ => by
  rw [h1]
  have : ¬ (j : Int) < (n : Int) := by simp at hjn; omega
  rw [decide_eq_false this, cond_false]; simp
 | y :: t, x, k + 1, i, j, hx, hij, hjn, hd, hk => by
  rw [h1];rw [List.length_cons] at hjn hk
  have hlt : j < x.length := by omega
  have hdy := hd;rw [List.drop_eq_getElem_cons hlt] at hdy;have hy : x[j] = y := (List.cons.inj hdy).1;have ht : x.drop (j + 1) = t := (List.cons.inj hdy).2
  have i1 : ixO x (j : Int) = some y := by unfold ixO; rw [decide_eq_true (by omega), cond_true]; simp [hlt, hy]
  have i2 : ixO x (i : Int) = some x[i] := by unfold ixO; rw [decide_eq_true (by omega), cond_true]; simp [show i < x.length by omega]
  rw [decide_eq_true (show (j : Int) < (n : Int) by omega), cond_true, i1];simp only [bindO]
  cases hp : p y
  ·have e1 : ((i : Int) + 1) = ((i + 1 : Nat) : Int) := by push_cast; rfl
   have e2 : ((j : Int) + 1) = ((j + 1 : Nat) : Int) := by push_cast; rfl
   rw [Bool.not_false, cond_true, i2];simp only [];rw [e1, e2, show Int.toNat (i : Int) = i from rfl, del_loop h1 t (x.set i y) k (i + 1) (j + 1) (by simp [hx]) (by omega) (by omega) (by rw [List.drop_set_of_lt (by omega)]; exact ht) (by omega)]
   have e3 : (x.set i y).take (i + 1) = x.take i ++ [y] := by
    rw [List.take_succ_eq_append_getElem (by simp; omega)];rw [List.take_set_of_le (by omega)]
    simp
   rw [e3, List.filter_cons_of_pos (by simp [hp])];simp only [List.append_assoc, List.singleton_append, List.length_cons]
   congr 2; omega
  ·have e2 : ((j : Int) + 1) = ((j + 1 : Nat) : Int) := by push_cast; rfl
   rw [Bool.not_true, cond_false, e2, del_loop h1 t x k i (j + 1) hx (by omega) (by omega) ht (by omega), List.filter_cons_of_neg (by simp [hp])]
theorem ix_first (G : List α → Nat → Int) (h0 : ∀ k, G [] k = -1) (h1 : ∀ y t k, G (y :: t) k = bif p y then ((k : Nat) : Int) else G t (k + 1)) :
  ∀ l k, (G l k = -1 ∧ ∀ y ∈ l, p y = false) ∨ ∃ (i : Nat) (y : α) (t : List α), G l k = ((k + i : Nat) : Int) ∧ l = l.take i ++ y :: t ∧ i < l.length ∧ p y = true ∧ ∀ z ∈ l.take i, p z = false
 | [], k => .inl ⟨h0 k, by simp⟩
 | y :: t, k => by
  rw [h1]
  cases hp : p y with
  | true => exact .inr ⟨0, y, t, by simp, by simp, by simp, hp, by simp⟩
  | false =>
   rcases ix_first G h0 h1 t (k + 1) with ⟨h, h2⟩ | ⟨i, z, s, h2, h3, h4, h5, h6⟩
   ·exact .inl ⟨h, fun w hw => by rcases List.mem_cons.1 hw with e | e; exact e ▸ hp; exact h2 w e⟩
   ·refine .inr ⟨i + 1, z, s, by rw [cond_false, h2]; congr 1; omega, ?_, by simp; omega, h5, ?_⟩
    ·rw [List.take_succ_cons, List.cons_append, ← h3]
    ·intro w hw;rw [List.take_succ_cons] at hw
     rcases List.mem_cons.1 hw with e | e
     ·rw [e]; exact hp
     ·exact h6 w e
theorem del_ok (h1 : ∀ k i j x, F (k + 1) i j x = bif decide (j < (n : Int)) then bindO (ixO x j) fun y => (bif !(p y) then bindO (ixO x i) fun _ => F k (i + 1) (j + 1) (List.set x (Int.toNat i) y) else F k i (j + 1) x) else some (List.take (Int.toNat i) x, Int.toNat i))
  (G : List α → Nat → Int) (g0 : ∀ k, G [] k = -1) (g1 : ∀ y t k, G (y :: t) k = bif p y then ((k : Nat) : Int) else G t (k + 1)) (l : List α) (hn : l.length = n) :
  ∃ L : List α, (bif decide (G l 0 = (-1)) then some (l, l.length) else F ((((n : Int) - (G l 0 + 1)).toNat) + 1) (G l 0) (G l 0 + 1) l) = some (L, (l.filter (fun y => !(p y))).length) ∧ L.take (l.filter (fun y => !(p y))).length = l.filter (fun y => !(p y)) ∧ (l.filter (fun y => !(p y))).length ≤ L.length := by
 rcases ix_first p G g0 g1 l 0 with ⟨h, h2⟩ | ⟨i, y, t, h2, h3, h4, h5, h6⟩
 ·have hf : l.filter (fun y => !(p y)) = l := List.filter_eq_self.2 fun y hy => by simp [h2 y hy]
  rw [h, decide_eq_true rfl, cond_true, hf];exact ⟨l, rfl, by simp, Nat.le_refl _⟩
 ·rw [h2]
  have hne : ¬ (((0 + i : Nat) : Int) = -1) := by omega
  rw [decide_eq_false hne, cond_false, Nat.zero_add]
  have e2 : ((i : Int) + 1) = ((i + 1 : Nat) : Int) := by push_cast; rfl
  have hd : l.drop (i + 1) = t := by
   have hl : (l.take i).length = i := by rw [List.length_take]; omega
   rw [h3, show i + 1 = (l.take i).length + 1 by rw [hl], List.drop_append]
   simp
  have htl : i + 1 + t.length = n := by
   have := congrArg List.length hd;rw [List.length_drop] at this; omega
  have hfl : l.filter (fun y => !(p y)) = l.take i ++ t.filter (fun y => !(p y)) := by
   conv => lhs; rw [h3]
   rw [List.filter_append, List.filter_cons_of_neg (by simp [h5])]
   congr 1
   exact List.filter_eq_self.2 fun z hz => by simp [h6 z hz]
  have hlen : (l.filter (fun y => !(p y))).length = i + (t.filter (fun y => !(p y))).length := by
   rw [hfl, List.length_append, List.length_take]; omega
  rw [e2, del_loop p n F h1 t l _ i (i + 1) hn (by omega) htl hd (by omega), ← hlen, ← hfl];exact ⟨_, rfl, List.take_length, Nat.le_refl _⟩
end
theorem s1149_ok (l : List S1079) (p : S1079 → Bool) : ∃ L : List S1079, s1149 l p = some (L, (l.filter (fun y => !(p y))).length) ∧ L.take (l.filter (fun y => !(p y))).length = l.filter (fun y => !(p y)) ∧ (l.filter (fun y => !(p y))).length ≤ L.length :=
 del_ok p l.length (s1149_l1 l p) (fun _ _ _ _ => rfl) (s1172_l1 p) (fun _ => rfl) (fun _ _ _ => rfl) l rfl
theorem give1149 {l : List S1079} {p : S1079 → Bool} {R : List S1079 × Nat} (h : s1149 l p = some R) : R.2 ≤ R.1.length := by
 obtain ⟨L, h1, _, h3⟩ := s1149_ok l p;rw [h1] at h; cases h; exact h3
theorem num1149 {l : List S1079} {p : S1079 → Bool} {R : List S1079 × Nat} (h : s1149 l p = some R) : R.2 ≤ l.length := by
 obtain ⟨L, h1, _, h3⟩ := s1149_ok l p;rw [h1] at h; cases h; exact List.length_filter_le _ _
end Go.Sim
set_option maxRecDepth 10000
namespace Go.Sim
open Go.Proofs
def s224 (a0 : Int) : Bool :=
 (decide (Int.tmod a0 4 = 0)) && ((decide (Int.tmod a0 100 ≠ 0)) || (decide (Int.tmod a0 400 = 0)))
def lp (y : Int) : Int := bif s224 y then 1 else 0
section
variable {E : Env} {w0 : World} {M0 : Nat → Prop}
theorem TFits.forget {w : World} {M : Nat → Prop} {ρ : Rho} : ∀ {cs : List TV} {vs : List Value} (p : Nat), TFits w M ρ cs vs → TFits w M ρ (cs.set p .any) vs
 | [], [], _, _ => trivial
 | _ :: _, _ :: _, 0, h => ⟨⟨trivial, h.1.2⟩, h.2⟩
 | _ :: _, _ :: _, p + 1, h => ⟨h.1, TFits.forget p h.2⟩
 | [], _ :: _, _, h => h.elim
 | _ :: _, [], _, h => h.elim
theorem TFits.give {w : World} {M : Nat → Prop} {ρ : Rho} {tv : TV} {v : Value} (ht : TRel w M ρ tv v) : ∀ {cs : List TV} {vs : List Value} (p : Nat), TFits w M ρ cs vs → vs[p]? = some v → TFits w M ρ (cs.set p tv) vs
 | [], [], _, _, _ => trivial
 | _ :: _, u :: _, 0, h, hv => by simp at hv; subst hv; exact ⟨⟨ht, h.1.2⟩, h.2⟩
 | _ :: _, _ :: _, p + 1, h, hv => ⟨h.1, TFits.give ht p h.2 (by simpa using hv)⟩
 | [], _ :: _, _, h, _ => h.elim
 | _ :: _, [], _, h, _ => h.elim
theorem rho_same {ρ : Rho} {id : Nat} {ow : Own} (h : ρ id = some (some ow)) : rhoSet ρ id (some ow) = ρ := by
 funext i
 by_cases hi : i = id
 ·subst hi; rw [rhoSet_same]; exact h.symm
 ·simp [rhoSet, hi]
theorem arel_nilcell {a : Act} {w : World} {s : ASt} {b p id k : Nat} {e : TypeId} {cs : List TV} (ha : ARel E w0 M0 s a w) (hb : lookO s.mem b = some (.box cs)) (hc : cs[p]? = some (.g (.lit (.slice none 0 0)))) (hf : lookO s.mem id = none) (hne : Nat.beq id b = false) :
  ARel E w0 M0 ⟨s.n, s.tmps, (b, .box (cs.set p (.osl id k 0 0))) :: (id, .arr e k []) :: s.mem⟩ a w := by
 obtain ⟨ρ, hm, hmk, ht⟩ := ha.ex;have hr := rho_none hm hf;obtain ⟨m1, m2⟩ := mrel_upd (id := id) (x := none) (blk' := .arr e k []) none hm ⟨rfl, rfl, rfl, Nat.le_refl _, fun _ _ _ => rfl⟩ (fun o ho => by cases ho) (.inr ⟨rfl, .inl hr⟩) (fun _ b _ _ => noref_none b) (.inl rfl) (.inl ⟨rhoSet_same _ _ _, rfl⟩)
 have hb' : lookO ((id, Blk.arr e k []) :: s.mem) b = some (.box cs) := by simp only [lookO, hne]; exact hb
 obtain ⟨ow, ty, vs, g1, g2, g3, g4⟩ := m1.blk b _ hb';obtain ⟨v, h4, h5, _⟩ := TFits.get p g4 hc;have hv : v = .slice none 0 0 := h5;subst hv;obtain ⟨n1, n2⟩ := mrel_upd (id := b) (x := some ow) (blk' := .box (cs.set p (.osl id k 0 0))) none m1 ⟨rfl, rfl, rfl, Nat.le_refl _, fun _ _ _ => rfl⟩ (fun o ho => by cases ho; exact ⟨.inr ⟨ow, g1, rfl⟩, (m1.fresh b ow g1).2⟩) (.inr ⟨rfl, .inr g1⟩) (fun _ b _ _ => noref_none b) (.inl rfl)
  ⟨ow, ty, vs, rhoSet_same _ _ _, g2, g3, by rw [rho_same g1]; exact TFits.give (show TRel w (owned M0 (rhoSet ρ id none)) (rhoSet ρ id none) (.osl id k 0 0) (.slice none 0 0) from Or.inl ⟨rhoSet_same _ _ _, rfl, rfl, rfl⟩) p g4 h4⟩
 exact ⟨ha.defers, ha.size, _, n1, ⟨hmk.1, fun d hd => by
  obtain ⟨D, q1, q2, q3⟩ := hmk.2 d hd
  exact ⟨D, q1, q2, n2 (.g (G.mark D)) undef rfl (m2 (.g (G.mark D)) undef rfl q3)⟩⟩, fun i => n2 _ _ (by cases s.get i <;> rfl) (m2 _ _ (by cases s.get i <;> rfl) (ht i))⟩
theorem aw_nilcell {c : Code} {Q : Exit → ASt → Prop} {s : ASt} (b p id k : Nat) (e : TypeId) {cs : List TV} (hb : lookO s.mem b = some (.box cs)) (hc : cs[p]? = some (.g (.lit (.slice none 0 0)))) (hf : lookO s.mem id = none) (hne : Nat.beq id b = false)
  (h : AWp E w0 M0 c Q ⟨s.n, s.tmps, (b, .box (cs.set p (.osl id k 0 0))) :: (id, .arr e k []) :: s.mem⟩) : AWp E w0 M0 c Q s := fun a w ha => h a w (arel_nilcell ha hb hc hf hne)
end
section
variable {E : Env} {ops : Array Oper} {o : Oper} {os : List Oper} {cs : List Cls} {s : ASt} {r : TV} {K : ASt → Prop}
end
section
variable {E : Env} {w0 : World} {M0 : Nat → Prop}
def MemF (s : ASt) (b : Nat) (blk : Blk) : Mem → Prop
 | [] => True
 | (i, B) :: r => (bif Nat.beq i b then B = blk else lookO s.mem i = some B) ∧ MemF s b blk r
theorem memF_look {s : ASt} {b : Nat} {blk : Blk} : ∀ {m : Mem}, MemF s b blk m → ∀ i B, lookO m i = some B → (i = b ∧ B = blk) ∨ (i ≠ b ∧ lookO s.mem i = some B)
 | [], _, _, _, h => by cases h
 | (j, B') :: r, hm, i, B, h => by
  simp only [lookO] at h
  cases hj : Nat.beq j i with
  | true =>
   rw [hj] at h;have hji := Nat.eq_of_beq_eq_true hj;subst hji;simp only [cond_true, Option.some.injEq] at h;subst h;have h1 := hm.1
   cases hb : Nat.beq j b with
   | true => rw [hb] at h1; exact .inl ⟨Nat.eq_of_beq_eq_true hb, h1⟩
   | false =>
    rw [hb] at h1;exact .inr ⟨fun e => by subst e; simp at hb, h1⟩
  | false => rw [hj] at h; exact memF_look hm.2 i B h
theorem aw_frzcell {c : Code} {Q : Exit → ASt → Prop} {s : ASt} (b p id k N : Nat) {e : TypeId} {cs : List TV} {xs : List (List G)} {l : List (Nat × TV)} {m : Mem} (hb : lookO s.mem b = some (.box cs)) (hc : cs[p]? = some (.osl id k 0 N)) (hx : lookO s.mem id = some (.arr e k xs)) (hN : xs.length = N)
  (h1 : WeakL s l) (h2 : MemF s b (.box (cs.set p (.g (.sl k xs)))) m) (h3 : closedB l m = true) (hid : lookO m id = none)
  (h : AWp E w0 M0 c Q (stt s.n l m)) (hbw : bowIn E m = true := by rfl) : AWp E w0 M0 c Q s := by
 intro a w ha;refine h a w ?_;obtain ⟨ρ, hm, hmk, ht⟩ := ha.ex
 let ρ' : Rho := fun id => if (lookO m id).isSome = true then ρ id else none
 have hρ : ∀ id, (lookO m id).isSome = true → ρ' id = ρ id := fun id hi => by simp only [ρ', if_pos hi]
 have hρ' : ∀ id x, ρ' id = some x → ρ id = some x ∧ (lookO m id).isSome = true := by
  intro id x hx;simp only [ρ'] at hx
  split at hx
  ·rename_i hi; exact ⟨hx, hi⟩
  ·cases hx
 have hM : ∀ b, owned M0 ρ' b → owned M0 ρ b := by
  rintro b (hb | ⟨id, o, ho, rfl⟩)
  ·exact .inl hb
  ·exact .inr ⟨id, o, (hρ' id _ ho).1, rfl⟩
 have hlent : lookO E.bow id = none := by
  cases hq : lookO E.bow id with
  | none => rfl
  | some x =>
   have := List.all_eq_true.1 hbw (id, x) (lookO_mem _ hq);simp only [hid] at this
   cases this
 have hno : ∀ ow, ρ id = some (some ow) → ¬ owned M0 ρ' ow.b := by
  rintro ow ho (hM0 | ⟨i, o, hi, he⟩)
  ·exact not_lent hm ho hlent (.inl hM0)
  ·have := hm.inj i id o ow (hρ' i _ hi).1 ho he;subst this;have := (hρ' i _ hi).2;rw [hid] at this; cases this
 simp only [closedB, Bool.and_eq_true, List.all_eq_true] at h3;refine ⟨ha.defers, ha.size, ρ', ⟨hm.below, hm.m0, ?_, ?_, ?_, ?_, ?_, hm.lentM, ?_⟩, hmk.sub hM, ?_⟩
 ·intro g vs hg;have := hm.glob g vs hg;exact ⟨⟨fun hb => this.1.1 (hM _ hb), this.1.2⟩, this.2.mono (fun _ _ _ => rfl) (fun b _ => hM b) this.1.1⟩
 ·intro id x hx;have := (hρ' id x hx).2
  cases hl : lookO m id with
  | none => rw [hl] at this; cases this
  | some b => exact ⟨b, hl⟩
 ·exact fun id ow ho => hm.fresh id ow (hρ' id _ ho).1
 ·exact fun id id' ow ow' ho ho' => hm.inj id id' ow ow' (hρ' id _ ho).1 (hρ' id' _ ho').1
 ·intro id x hx;rw [hρ id (List.all_eq_true.1 hbw (id, x) (lookO_mem _ hx))];exact hm.keep id x hx
 ·intro i blk' hb0;have hb0 : lookO m i = some blk' := hb0
  have hi : (lookO m i).isSome = true := by rw [hb0]; rfl
  rcases memF_look h2 i blk' hb0 with ⟨rfl, rfl⟩ | ⟨_, hold⟩
  ·obtain ⟨ow, ty, vs, g1, g2, g3, g4⟩ := hm.blk i _ hb;have hcl := h3.2 (i, .box (cs.set p (.g (.sl k xs)))) (lookO_mem _ hb0);obtain ⟨v, h4, h5, _⟩ := TFits.get p g4 hc;have hview := osl_view hm hx h5 (Nat.zero_le _) (by rw [hN]; exact Nat.le_refl _);obtain ⟨a', cap, e1, k1, k2, k3, k4, k5, k6⟩ := hview;subst hN;simp only [Nat.sub_zero, List.drop_zero, List.take_length] at e1 k1 k4 k5 k6
   have hv : TRel w (owned M0 ρ') ρ (.g (.sl k xs)) v := by
    refine ⟨a', cap, e1, k1, k2, k5, ?_⟩
    rcases k6 with k6 | ⟨b', o, cur, news, rfl, ⟨ow2, q0, rfl⟩, q1, q2, q3⟩
    ·have : xs = [] := List.eq_nil_of_length_eq_zero k6;subst this;exact .inl ⟨rfl, fun ha => (k3 ha).1⟩
    ·exact .inr ⟨ow2.b, o, rfl, hno ow2 q0, cells_of_fits q1 (q2.mono (fun _ _ _ => rfl) (fun b _ => hM b)) q3⟩
   refine ⟨ow, ty, vs, by rw [hρ i hi]; exact g1, g2, g3, ?_⟩;have hf : TFits w (owned M0 ρ) ρ (cs.set p .any) vs := TFits.forget p g4
   have hf' : TFits w (owned M0 ρ') ρ' (cs.set p .any) vs := hf.sub (m := m) hM hρ fun c hc' => by
    have hall : ∀ c ∈ cs.set p (.g (.sl k xs)), refsIn m c = true := by simpa [blkIn] using hcl
    rcases List.mem_or_eq_of_mem_set hc' with h | rfl
    ·obtain ⟨j, hj⟩ := List.mem_iff_getElem?.1 hc'
     by_cases hjp : p = j
     ·subst hjp;have hlt : p < cs.length := (List.getElem?_eq_some_iff.1 hc).1;rw [List.getElem?_set_self hlt] at hj
      cases hj; rfl
     ·rw [List.getElem?_set_ne hjp] at hj;exact hall c (List.mem_iff_getElem?.2 ⟨j, by rw [List.getElem?_set_ne hjp]; exact hj⟩)
    ·rfl
   have := TFits.give (tv := .g (.sl k xs)) (ρ := ρ') (show TRel w (owned M0 ρ') ρ' (.g (.sl k xs)) v from hv) p hf' h4
   rwa [List.set_set] at this
  ·have := hm.blk i blk' hold
   cases blk' with
   | box cs =>
    obtain ⟨ow, e, vs, g1, g2, g3, g4⟩ := this;have hcl := h3.2 (i, .box cs) (lookO_mem _ hb0);exact ⟨ow, e, vs, by rw [hρ i hi]; exact g1, g2, g3, g4.sub hM hρ (by simpa [blkIn] using hcl)⟩
   | arr e k xs =>
    rcases this with ⟨g1, g2⟩ | ⟨ow, vs, g1, g2, g3, g4, g5, g6, g7⟩
    ·exact .inl ⟨by rw [hρ i hi]; exact g1, g2⟩
    ·exact .inr ⟨ow, vs, by rw [hρ i hi]; exact g1, g2, g3, g4, g5, g6, g7.mono (fun _ _ _ => rfl) (fun b _ => hM b)⟩
   | mp es =>
    obtain ⟨ow, en, cl, g1, g2, g3, g4⟩ := this;exact ⟨ow, en, cl, by rw [hρ i hi]; exact g1, g2, g3.mono (fun _ _ _ => rfl) (fun b _ => hM b), g4⟩
   | obj o =>
    obtain ⟨ow, g1, g2, g3⟩ := this;exact ⟨ow, by rw [hρ i hi]; exact g1, g2, g3⟩
   | mit es seen =>
    obtain ⟨ow, g1, g2, g3⟩ := this;exact ⟨ow, by rw [hρ i hi]; exact g1, g2, g3.mono rfl (fun _ _ _ => rfl) (fun b _ => hM b)⟩
   | gone => trivial
 ·intro i;show TRel _ _ _ (lookT l i) _
  rcases weakL_get h1 i with h4 | ⟨h4, v, h5, h6⟩
  ·rw [h4]; trivial
  ·rw [h4];refine (ht i).sub (m := m) ?_ hM hρ;rw [← h4, h6];exact h3.1 (i, v) h5
end
section
variable {E : Env}
end
theorem refsM {id : Nat} {mem : Mem} (h : (mem.all fun p => Nat.beq p.1 id || (match lookO mem p.1 with | some b => b.noref (some id) | none => true)) = true) : ∀ i blk, lookO mem i = some blk → i ≠ id → blk.noref (some id) = true := by
 intro i blk hb hne;have := List.all_eq_true.1 h (i, blk) (lookO_mem _ hb);simp only [Bool.or_eq_true, hb] at this
 rcases this with h1 | h1
 ·exact absurd (Nat.eq_of_beq_eq_true h1) hne
 ·exact h1
section
variable {E : Env} {w0 : World} {M0 : Nat → Prop}
instance (pre : List G) (id k hi : Nat) : PartT (.agl pre id k hi) (pre.map TV.g ++ [.osl id k 0 hi]) := ⟨fun {w M ρ v} h => by
 obtain ⟨vs, ow, p, rfl, h1, h2, h3, h4⟩ := h;show TFits w M ρ _ (vs ++ [_]).toArray.toList;have h5 := tfits_of_fits (ρ := ρ) h1
 have h6 : ∀ {cs : List TV} {us : List Value}, TFits w M ρ cs us → TFits w M ρ (cs ++ [.osl id k 0 hi]) (us ++ [Value.slice (some ⟨ow.b, p, none⟩) hi ow.cap]) := by
  intro cs
  induction cs with
  | nil =>
   intro us hu
   cases us with
   | nil => exact ⟨⟨.inr ⟨ow, h2, Nat.zero_le _, h3, p, by simp, fun h => by simpa using h4 h⟩, rfl⟩, trivial⟩
   | cons _ _ => exact hu.elim
  | cons c cs ih =>
   intro us hu
   cases us with
   | nil => exact hu.elim
   | cons u us => exact ⟨hu.1, ih hu.2⟩
 simpa using h6 h5⟩
theorem fits_snoc {w : World} {M : Nat → Prop} {g : G} : ∀ {pre : List G} {vs : List Value}, Fits w M (pre ++ [g]) vs → ∃ us u, vs = us ++ [u] ∧ Fits w M pre us ∧ g.p w M u
 | [], [u], h => ⟨[], u, rfl, trivial, h.1.1⟩
 | [], [], h => h.elim
 | [], _ :: _ :: _, h => h.2.elim
 | c :: pre, v :: vs, h => by
  obtain ⟨us, u, rfl, h1, h2⟩ := fits_snoc h.2;exact ⟨v :: us, u, rfl, ⟨h.1, h1⟩, h2⟩
 | _ :: _, [], h => h.elim
theorem eff_buildL {o : Oper} {ev : Operand → TV} {t : TypeId} {x : Operand} {i id k hi : Nat} {zs : List Value} {pl : List (Nat × Nat)} {pre : List G} (ho : o.op = .build t #[(i, x)])
  (hz : zeroK E.P t = some zs) (hz1 : zs.all Value.oneCell' = true) (hp : placesK E.P t = some pl) (hx : ev x = .osl id k 0 hi) (hpos : 0 < hi) (hf : ∀ g : G, fillG (pl.toArray[·]?) (zs.map G.lit) [(i, [g])] = some (pre ++ [g])) (mem : Mem) : Eff E o mem ev (.agl pre id k hi) :=
 eff_same (fun w M ρ e he => by
  have hxv := he x (by rw [ho]; simp [Op.operands]);rw [hx] at hxv
  rcases hxv with ⟨_, _, h0, _⟩ | ⟨ow, g1, _, g2, p, g3, g4⟩
  ·omega
  have g3 : e x = .slice (some ⟨ow.b, p, none⟩) hi ow.cap := by simpa using g3
  have g4 : 0 < ow.cap → p = ow.o := fun h => by simpa using g4 h
  unfold zeroK at hz
  cases hi' : E.P.info? t with
  | none => simp [hi'] at hz
  | some it =>
   cases hzz : it.zero with
   | none => simp [hi', hzz] at hz
   | some z =>
    simp [hi', hzz] at hz
    unfold placesK at hp
    split at hp
    ·rename_i fs hfs
     have hlits : Fits w M (zs.map G.lit) z.cells.toList := by rw [hz]; exact fits_lits (by simpa using hz1)
     have hone : (e x).oneCell' = true := by rw [g3]; rfl
     have hpi : PartIs (G.lit (e x)) [G.lit (e x)] := by
      refine ⟨?_⟩;intro w' M' v h;have hv : v = e x := h
      have hone' : v.oneCell' = true := by rw [hv]; exact hone
      rw [cells_one hone'];exact ⟨⟨h, hone'⟩, trivial⟩
     have hq : PartsG (fun _ => TV.g (G.lit (e x))) [(i, x)] [(i, [G.lit (e x)])] := ⟨rfl, ⟨G.lit (e x), rfl, ⟨hpi⟩⟩, trivial⟩
     obtain ⟨vout, h1, h2⟩ := fill_fits (w := w) (M := M) (ρ := ρ) (e := e) (ev := fun _ => TV.g (G.lit (e x))) (vcells := z.cells) hq (fun q hq => by
      have : q = (i, x) := by simpa using hq
      subst this
      exact (show (G.lit (e x)).p w M (e x) from rfl)) hlits (hf (G.lit (e x)))
     obtain ⟨us, u, h3, h4, h5⟩ := fits_snoc h2;have h5 : u = e x := h5;refine ⟨.agg vout, ?_, us, ow, p, ?_, h4, g1, g2, g4⟩
     ·have hb : E.P.built t (#[(i, x)].map fun (i, x) => (i, e x)).toList = some vout := by
       unfold Program.built;simp only [hi', hfs, hzz, hp];rw [Array.toList_map];exact h1
      have := run_build (P := E.P) w t (#[(i, x)].map fun (i, x) => (i, e x)) vout hb;simp only [execOp, ho];rw [Sem.run_bind, this]
      rfl
     ·rw [← g3, ← h5, ← h3]
    ·cases hp) mem
theorem eff_forget {o : Oper} {mem mem' : Mem} {ev : Operand → TV} {r : TV} {kill : Option Nat} (b p : Nat) {cs : List TV} (hb : lookO mem b = some (.box cs)) (h : EffW E o ((b, .box (cs.set p .any)) :: mem) ev r mem' kill) : EffW E o mem ev r mem' kill := by
 intro w0 M0 ρ w e hm hx;refine h w0 M0 ρ w e ?_ hx;refine ⟨hm.below, hm.m0, hm.glob, ?_, hm.fresh, hm.inj, hm.keep, hm.lentM, ?_⟩
 ·intro id x h;obtain ⟨blk, hk⟩ := hm.dom id x h
  cases hbq : Nat.beq b id with
  | true => exact ⟨_, by simp only [lookO, hbq]; rfl⟩
  | false => exact ⟨blk, by simp only [lookO, hbq]; exact hk⟩
 ·intro id blk h;simp only [lookO] at h
  cases hbq : Nat.beq b id with
  | true =>
   rw [hbq] at h;have := Nat.eq_of_beq_eq_true hbq;subst this
   have : blk = .box (cs.set p .any) := by simpa using h.symm
   subst this;obtain ⟨ow, ty, vs, g1, g2, g3, g4⟩ := hm.blk b _ hb;exact ⟨ow, ty, vs, g1, g2, g3, TFits.forget p g4⟩
  | false =>
   rw [hbq] at h;exact hm.blk id blk h
end
section
variable {E : Env} {w0 : World} {M0 : Nat → Prop}
def G.ifP (P : Prop) : G := ⟨fun _ _ v => ∃ b : Bool, v = .bool b ∧ (b = true → P), fun h _ _ => h⟩
theorem eff_eqNil {α : Type} {f : α → List G} {l : List α} {o : Oper} {ev : Operand → TV} {t t' el : TypeId} {x y : Operand} {k : Nat} (ho : o.op = .binOp .eql t x y t') (ht : E.P.underlying t = some (.slice el)) (hx : ev x = .g (.sl k (l.map f))) (hy : ev y = .g (.lit (.slice none 0 0))) (mem : Mem) : Eff E o mem ev (.g (.ifP (l = []))) :=
 eff_same (fun w M ρ e he => by
  have h1 := he x (by rw [ho]; simp [Op.operands]);rw [hx] at h1;have h2 := he y (by rw [ho]; simp [Op.operands]);rw [hy] at h2;have h2 : e y = .slice none 0 0 := h2;obtain ⟨a, cap, h3, h4, h5, h6, h7⟩ := h1;rw [List.length_map] at h3 h4;have hq := Go.Ex.run_eqNil (P := E.P) w 9999 t el a l.length cap 0 0 ht;refine ⟨.bool a.isNone, ?_, a.isNone, rfl, fun ha => ?_⟩
  ·simp [execOp, ho, h3, h2, eqGuard, binOp, Op.equal, Op.maxDepth, hq]
  ·have ha : a = none := by cases a <;> simp_all
   rcases h7 with ⟨_, h8⟩ | ⟨b, oo, h8, _⟩
   ·have := h8 ha;exact List.eq_nil_of_length_eq_zero (by omega)
   ·rw [ha] at h8; cases h8) mem
theorem aw_condP {c : Operand} {x y : Code} {P : Prop} {Q : Exit → ASt → Prop} {s : ASt} (hb : s.eval E c = .g (.ifP P)) (ht : P → AWp E w0 M0 x Q s) (hf : AWp E w0 M0 y Q s) : AWp E w0 M0 (.cond c x y) Q s := by
 intro a w ha;obtain ⟨ρ, _, hx⟩ := ha.rel;have hc := hx c;rw [hb] at hc;obtain ⟨b, hc, hP⟩ := hc;have hc' : a.eval c = .bool b := hc
 cases b with
 | true => exact wpIn_cond_true hc' (ht (hP rfl) a w ha)
 | false => exact wpIn_cond_false hc' (hf a w ha)
end
end Go.Sim
set_option maxRecDepth 10000
namespace Go.Sim
open Go.Proofs
theorem n1150 {g : List (Nat × List Value)} (a0 : List S1079) (hb : a0.length ≤ 1000) : ConN (EG g) 150 [G.sl 7 (List.map S1079.c a0)] 80 7 (List.map S1079.c a0) := by
 refine conN_of_aw Tryz.func150 rfl rfl fun w0 M0 => ?_;refine aw_seq ?_;refine aw_region [.p] ?_;refine st rfl rfl (eff_assigng rfl rfl) rfl ?_;refine st_nil ?_;refine aw_seq ?_;refine aw_seq ?_;refine aw_region [.p, .p] ?_;refine st rfl rfl (eff_moveg rfl rfl) rfl ?_;refine st rfl rfl (eff_eqNil (f := S1079.c) (l := a0) rfl Tryz.underlying25 rfl rfl) rfl ?_;refine st_nil ?_;refine aw_condP rfl (fun h => ?_) ?_
 ·refine aw_seq ?_;refine aw_region [.p] ?_;refine st rfl rfl (eff_assigng rfl rfl) rfl ?_;refine st_nil ?_;refine aw_ret ?_;exact doneN_nil (E := EG g) rfl rfl (by rw [h]; rfl)
 ·refine aw_skip ?_;refine aw_seq ?_;refine aw_region [.w, .p, .k, .p] ?_;refine st_w rfl rfl (eff_buildSO (xs := List.map S1079.c []) 5 rfl Tryz.underlying25 ty1080 z1080 rfl ps_nil rfl (by simp) (by decide) rfl) rfl ?_;refine st rfl rfl (eff_moveg rfl rfl) rfl ?_;refine st_k rfl rfl (eff_appL (f := S1079.c) (out := []) (new := a0) rfl app1025 rfl rfl (src_eq rfl (src_sl (by decide) (by simp [S1079.c]))) (refsN rfl) (by simp; omega)) rfl ?_;refine st rfl rfl (eff_assignO rfl rfl) rfl ?_;refine st_nil ?_;refine aw_ret ?_;exact doneN_own (E := EG g) rfl rfl rfl (List.length_map ..)
end Go.Sim
set_option maxRecDepth 10000
namespace Go.Sim
open Go.Proofs
def s1116 (a0 : S1063) (a1 : S1079) : Bool :=
 ((decide (a0.Terminal = (⟨#[]⟩))) || (decide (a0.Terminal = a1.Terminal))) && ((decide (a0.Kind = (⟨#[84]⟩))) || (decide (a0.Kind = a1.Kind)))
theorem c1116 {g : List (Nat × List Value)} (a0 : S1063) (a1 : S1079)    : Con (EG g) 116 [G.agg [G.str a0.Terminal, G.str a0.Kind, G.int a0.Length, G.int a0.Step, G.int a0.Most], G.agg [G.int a1.Moment, G.str a1.Kind, G.str a1.Terminal, G.int a1.Seats, G.int a1.Size, G.int a1.Noise, G.str a1.Name]] (G.bool (s1116 a0 a1)) := by
 generalize hR : s1116 a0 a1 = R;unfold s1116 at hR;refine con_of_aw Tryz.func116 rfl rfl fun w0 M0 => ?_;refine aw_seq ?_;refine aw_region [.p, .p, .p] ?_;refine st rfl rfl (eff_box rfl rfl) rfl ?_;refine st rfl rfl (eff_box rfl rfl) rfl ?_;refine st rfl rfl (eff_assigng rfl rfl) rfl ?_;refine st_nil ?_;refine aw_seq ?_;refine aw_region [.p, .p, .p, .p, .p, .p, .p, .p, .p, .p, .p, .p, .p, .p, .p, .p, .p, .p, .p, .p, .p, .p, .p] ?_;refine st rfl rfl (eff_fieldAddr rfl fl1064_0 rfl) rfl ?_;refine st rfl rfl (eff_load rfl ty9 rfl) rfl ?_;refine st rfl rfl (eff_seq rfl rfl rfl) rfl ?_;refine st rfl rfl (eff_moveg rfl rfl) rfl ?_;refine st_g rfl rfl rfl (gb_bool _ _) (fun h => eff_fieldAddr rfl fl1064_0 rfl) rfl ?_;refine st_g rfl rfl rfl (gb_bool _ _) (fun h => eff_load rfl ty9 (gd h rfl)) rfl ?_;refine st_g rfl rfl rfl (gb_bool _ _) (fun h => eff_fieldAddr rfl fl1080_2 rfl) rfl ?_;refine st_g rfl rfl rfl (gb_bool _ _) (fun h => eff_load rfl ty9 (gd h rfl)) rfl ?_;refine st_g rfl rfl rfl (gb_bool _ _) (fun h => eff_seq rfl (gd h rfl) (gd h rfl)) rfl ?_;refine st rfl rfl (eff_or rfl rfl rfl rfl) rfl ?_;refine st rfl rfl (eff_moveg rfl rfl) rfl ?_;refine st_g rfl rfl rfl (gb_bool _ _) (fun h => eff_fieldAddr rfl fl1064_1 rfl) rfl ?_;refine st_g rfl rfl rfl (gb_bool _ _) (fun h => eff_load rfl ty9 (gd h rfl)) rfl ?_;refine st_g rfl rfl rfl (gb_bool _ _) (fun h => eff_seq rfl (gd h rfl) rfl) rfl ?_;refine st_g rfl rfl rfl (gb_bool _ _) (fun h => eff_moveg rfl (gd h rfl)) rfl ?_;refine st_g rfl rfl rfl (gb_if _ _ _) (fun h => eff_fieldAddr rfl fl1064_1 rfl) rfl ?_;refine st_g rfl rfl rfl (gb_if _ _ _) (fun h => eff_load rfl ty9 (gd h rfl)) rfl ?_;refine st_g rfl rfl rfl (gb_if _ _ _) (fun h => eff_fieldAddr rfl fl1080_1 rfl) rfl ?_;refine st_g rfl rfl rfl (gb_if _ _ _) (fun h => eff_load rfl ty9 (gd h rfl)) rfl ?_;refine st_g rfl rfl rfl (gb_if _ _ _) (fun h => eff_seq rfl (gd h rfl) (gd h rfl)) rfl ?_;refine st_g rfl rfl rfl (gb_bool _ _) (fun h => eff_or rfl (gd h rfl) rfl (gd2 h rfl)) rfl ?_;refine st rfl rfl (eff_and rfl rfl rfl rfl) rfl ?_;refine st rfl rfl (eff_assigng rfl rfl) rfl ?_;refine st_nil ?_;refine aw_ret ?_;subst hR;exact res_c rfl (rv_g rfl)
def s1151 (a0 : S1079) (a1 : S1063) : Bool :=
 !(s1116 a1 a0)
theorem c1151 {g : List (Nat × List Value)} (a0 : S1079) (a1 : S1063)    : Con (EG g) 151 [G.agg [G.int a0.Moment, G.str a0.Kind, G.str a0.Terminal, G.int a0.Seats, G.int a0.Size, G.int a0.Noise, G.str a0.Name], G.ref [G.str a1.Terminal, G.str a1.Kind, G.int a1.Length, G.int a1.Step, G.int a1.Most]] (G.bool (s1151 a0 a1)) := by
 generalize hR : s1151 a0 a1 = R;unfold s1151 at hR;refine con_of_aw Tryz.func151 rfl rfl fun w0 M0 => ?_;refine aw_seq ?_;refine aw_region [.p, .p] ?_;refine st rfl rfl (eff_box rfl rfl) rfl ?_;refine st rfl rfl (eff_assigng rfl rfl) rfl ?_;refine st_nil ?_;refine aw_seq ?_;refine aw_region [.p, .p, .p, .p, .p] ?_;refine st rfl rfl (eff_loadA rfl ty1064 rfl rfl rfl) rfl ?_;refine st rfl rfl (eff_loadA rfl ty1080 rfl rfl rfl) rfl ?_;refine st rfl rfl (eff_call rfl K1116 rfl (c1116 a1 a0) (ag_cons rfl (ag_cons rfl ag_nil))) rfl ?_;refine st rfl rfl (eff_not rfl rfl) rfl ?_;refine st rfl rfl (eff_assigng rfl rfl) rfl ?_;refine st_nil ?_;refine aw_ret ?_;subst hR;exact res_c rfl (rv_g rfl)
def s202 (a0 : Int) : Bool :=
 decide (a0 ≠ a0)
theorem c202 {g : List (Nat × List Value)} (a0 : Int)    : Con (EG g) 174 [G.int a0] (G.bool (s202 a0)) := by
 generalize hR : s202 a0 = R;unfold s202 at hR;refine con_of_aw Tryz.func174 rfl rfl fun w0 M0 => ?_;refine aw_seq ?_;refine aw_region [.p] ?_;refine st rfl rfl (eff_assigng rfl rfl) rfl ?_;refine st_nil ?_;refine aw_seq ?_;refine aw_region [.p, .p, .p, .p] ?_;refine st rfl rfl (eff_moveg rfl rfl) rfl ?_;refine st rfl rfl (eff_moveg rfl rfl) rfl ?_;refine st rfl rfl (eff_neq rfl rfl rfl) rfl ?_;refine st rfl rfl (eff_assigng rfl rfl) rfl ?_;refine st_nil ?_;refine aw_ret ?_;subst hR;exact res_c rfl (rv_g rfl)
def s167 (a0 : Int) (a1 : Int) : Int :=
 (bif (s202 a0) then (bif (s202 a1) then 0 else (-1)) else (bif (s202 a1) then 1 else (bif decide (a0 < a1) then (-1) else (bif decide (a1 < a0) then 1 else 0))))
theorem c167 {g : List (Nat × List Value)} (a0 : Int) (a1 : Int)    : Con (EG g) 154 [G.int a0, G.int a1] (G.int (s167 a0 a1)) := by
 generalize hR : s167 a0 a1 = R;unfold s167 at hR;refine con_of_aw Tryz.func154 rfl rfl fun w0 M0 => ?_;refine aw_seq ?_;refine aw_region [.p] ?_;refine st rfl rfl (eff_assigng rfl rfl) rfl ?_;refine st_nil ?_;refine aw_seq ?_;refine aw_region [.p, .p, .p] ?_;refine st rfl rfl (eff_moveg rfl rfl) rfl ?_;refine st rfl rfl (eff_call rfl K202 rfl (c202 a0) (ag_cons rfl ag_nil)) rfl ?_;refine st rfl rfl (eff_assigng rfl rfl) rfl ?_;refine st_nil ?_;refine aw_seq ?_;refine aw_region [.p, .p, .p] ?_;refine st rfl rfl (eff_moveg rfl rfl) rfl ?_;refine st rfl rfl (eff_call rfl K202 rfl (c202 a1) (ag_cons rfl ag_nil)) rfl ?_;refine st rfl rfl (eff_assigng rfl rfl) rfl ?_;refine st_nil ?_;refine aw_seq ?_;refine aw_seq ?_;refine aw_region [.p] ?_;refine st rfl rfl (eff_moveg rfl rfl) rfl ?_;refine st_nil ?_;refine aw_cond _ rfl (fun h1 => ?_) (fun h1 => ?_)
 ·replace h1 : ((s202 a0)) = true := h1;replace hR := condT hR h1;(try simp only [Bool.or_eq_true, Bool.and_eq_true, Bool.or_eq_false_iff, Bool.and_eq_false_iff, Bool.not_eq_true', Bool.not_eq_false', decide_eq_true_eq, decide_eq_false_iff_not] at h1);refine aw_seq ?_;refine aw_seq ?_;refine aw_region [.p] ?_;refine st rfl rfl (eff_moveg rfl rfl) rfl ?_;refine st_nil ?_;refine aw_cond _ rfl (fun h2 => ?_) (fun h2 => ?_)
  ·replace h2 : ((s202 a1)) = true := h2;replace hR := condT hR h2;(try simp only [Bool.or_eq_true, Bool.and_eq_true, Bool.or_eq_false_iff, Bool.and_eq_false_iff, Bool.not_eq_true', Bool.not_eq_false', decide_eq_true_eq, decide_eq_false_iff_not] at h2);refine aw_seq ?_;refine aw_region [.p] ?_;refine st rfl rfl (eff_assigng rfl rfl) rfl ?_;refine st_nil ?_;refine aw_ret ?_;subst hR;exact res_c rfl (rv_g rfl)
  ·replace h2 : ((s202 a1)) = false := h2;replace hR := condF hR h2;(try simp only [Bool.or_eq_true, Bool.and_eq_true, Bool.or_eq_false_iff, Bool.and_eq_false_iff, Bool.not_eq_true', Bool.not_eq_false', decide_eq_true_eq, decide_eq_false_iff_not] at h2);refine aw_skip ?_;refine aw_seq ?_;refine aw_region [.p] ?_;refine st rfl rfl (eff_assigng rfl rfl) rfl ?_;refine st_nil ?_;refine aw_ret ?_;subst hR;exact res_c rfl (rv_g rfl)
 ·replace h1 : ((s202 a0)) = false := h1;replace hR := condF hR h1;(try simp only [Bool.or_eq_true, Bool.and_eq_true, Bool.or_eq_false_iff, Bool.and_eq_false_iff, Bool.not_eq_true', Bool.not_eq_false', decide_eq_true_eq, decide_eq_false_iff_not] at h1);refine aw_skip ?_;refine aw_seq ?_;refine aw_seq ?_;refine aw_region [.p] ?_;refine st rfl rfl (eff_moveg rfl rfl) rfl ?_;refine st_nil ?_;refine aw_cond _ rfl (fun h3 => ?_) (fun h3 => ?_)
  ·replace h3 : ((s202 a1)) = true := h3;replace hR := condT hR h3;(try simp only [Bool.or_eq_true, Bool.and_eq_true, Bool.or_eq_false_iff, Bool.and_eq_false_iff, Bool.not_eq_true', Bool.not_eq_false', decide_eq_true_eq, decide_eq_false_iff_not] at h3);refine aw_seq ?_;refine aw_region [.p] ?_;refine st rfl rfl (eff_assigng rfl rfl) rfl ?_;refine st_nil ?_;refine aw_ret ?_;subst hR;exact res_c rfl (rv_g rfl)
  ·replace h3 : ((s202 a1)) = false := h3;replace hR := condF hR h3;(try simp only [Bool.or_eq_true, Bool.and_eq_true, Bool.or_eq_false_iff, Bool.and_eq_false_iff, Bool.not_eq_true', Bool.not_eq_false', decide_eq_true_eq, decide_eq_false_iff_not] at h3);refine aw_skip ?_;refine aw_seq ?_;refine aw_seq ?_;refine aw_region [.p, .p, .p] ?_;refine st rfl rfl (eff_moveg rfl rfl) rfl ?_;refine st rfl rfl (eff_moveg rfl rfl) rfl ?_;refine st rfl rfl (eff_lss rfl rfl rfl) rfl ?_;refine st_nil ?_;refine aw_cond _ rfl (fun h4 => ?_) (fun h4 => ?_)
   ·replace h4 : (decide (a0 < a1)) = true := h4;replace hR := condT hR h4;(try simp only [Bool.or_eq_true, Bool.and_eq_true, Bool.or_eq_false_iff, Bool.and_eq_false_iff, Bool.not_eq_true', Bool.not_eq_false', decide_eq_true_eq, decide_eq_false_iff_not] at h4);refine aw_seq ?_;refine aw_region [.p] ?_;refine st rfl rfl (eff_assigng rfl rfl) rfl ?_;refine st_nil ?_;refine aw_ret ?_;subst hR;exact res_c rfl (rv_g rfl)
   ·replace h4 : (decide (a0 < a1)) = false := h4;replace hR := condF hR h4;(try simp only [Bool.or_eq_true, Bool.and_eq_true, Bool.or_eq_false_iff, Bool.and_eq_false_iff, Bool.not_eq_true', Bool.not_eq_false', decide_eq_true_eq, decide_eq_false_iff_not] at h4);refine aw_skip ?_;refine aw_seq ?_;refine aw_seq ?_;refine aw_region [.p, .p, .p] ?_;refine st rfl rfl (eff_moveg rfl rfl) rfl ?_;refine st rfl rfl (eff_moveg rfl rfl) rfl ?_;refine st rfl rfl (eff_gtr rfl rfl rfl) rfl ?_;refine st_nil ?_;refine aw_cond _ rfl (fun h5 => ?_) (fun h5 => ?_)
    ·replace h5 : (decide (a1 < a0)) = true := h5;replace hR := condT hR h5;(try simp only [Bool.or_eq_true, Bool.and_eq_true, Bool.or_eq_false_iff, Bool.and_eq_false_iff, Bool.not_eq_true', Bool.not_eq_false', decide_eq_true_eq, decide_eq_false_iff_not] at h5);refine aw_seq ?_;refine aw_region [.p] ?_;refine st rfl rfl (eff_assigng rfl rfl) rfl ?_;refine st_nil ?_;refine aw_ret ?_;subst hR;exact res_c rfl (rv_g rfl)
    ·replace h5 : (decide (a1 < a0)) = false := h5;replace hR := condF hR h5;(try simp only [Bool.or_eq_true, Bool.and_eq_true, Bool.or_eq_false_iff, Bool.and_eq_false_iff, Bool.not_eq_true', Bool.not_eq_false', decide_eq_true_eq, decide_eq_false_iff_not] at h5);refine aw_skip ?_;refine aw_seq ?_;refine aw_region [.p] ?_;refine st rfl rfl (eff_assigng rfl rfl) rfl ?_;refine st_nil ?_;refine aw_ret ?_;subst hR;exact res_c rfl (rv_g rfl)
def s1153 (a0 : S1079) (a1 : S1079) : Int :=
 (s167 a0.Moment a1.Moment)
theorem c1153 {g : List (Nat × List Value)} (a0 : S1079) (a1 : S1079)    : Con (EG g) 153 [G.agg [G.int a0.Moment, G.str a0.Kind, G.str a0.Terminal, G.int a0.Seats, G.int a0.Size, G.int a0.Noise, G.str a0.Name], G.agg [G.int a1.Moment, G.str a1.Kind, G.str a1.Terminal, G.int a1.Seats, G.int a1.Size, G.int a1.Noise, G.str a1.Name]] (G.int (s1153 a0 a1)) := by
 generalize hR : s1153 a0 a1 = R;unfold s1153 at hR;refine con_of_aw Tryz.func153 rfl rfl fun w0 M0 => ?_;refine aw_seq ?_;refine aw_region [.p, .p, .p] ?_;refine st rfl rfl (eff_box rfl rfl) rfl ?_;refine st rfl rfl (eff_box rfl rfl) rfl ?_;refine st rfl rfl (eff_assigng rfl rfl) rfl ?_;refine st_nil ?_;refine aw_seq ?_;refine aw_region [.p, .p, .p, .p, .p, .p] ?_;refine st rfl rfl (eff_fieldAddr rfl fl1080_0 rfl) rfl ?_;refine st rfl rfl (eff_load rfl ty3 rfl) rfl ?_;refine st rfl rfl (eff_fieldAddr rfl fl1080_0 rfl) rfl ?_;refine st rfl rfl (eff_load rfl ty3 rfl) rfl ?_;refine st rfl rfl (eff_call rfl K167 rfl (c167 a0.Moment a1.Moment) (ag_cons rfl (ag_cons rfl ag_nil))) rfl ?_;refine st rfl rfl (eff_assigng rfl rfl) rfl ?_;refine st_nil ?_;refine aw_ret ?_;subst hR;exact res_c rfl (rv_g rfl)
def s1192_l2 (rec1 : Int → (List S1079) → Option (List S1079)) (a1 : Int) (a3 : S1079 → S1079 → Option Int) (x1 : Int) : Nat → Int → (List S1079) → Option (List S1079)
 | 0, _, _ => none
 | k8 + 1, x5, x6 => bindO (bif decide (a1 < x5) then ixO x6 x5 else some default) fun y9 => bindO (bif decide (a1 < x5) then ixO x6 (x5 - 1) else some default) fun y10 => bindO (bif decide (a1 < x5) then a3 y9 y10 else some default) fun r11 => (bif (decide (a1 < x5)) && (decide (r11 < 0)) then bindO (ixO x6 (x5 - 1)) fun y12 => bindO (ixO x6 x5) fun y13 => bindO (ixO x6 x5) fun y14 => bindO (ixO (List.set x6 (Int.toNat x5) y12) (x5 - 1)) fun y15 => s1192_l2 rec1 a1 a3 x1 k8 (x5 - 1) (List.set (List.set x6 (Int.toNat x5) y12) (Int.toNat (x5 - 1)) y13) else rec1 (x1 + 1) x6)
def s1192_l1 (a1 : Int) (a3 : S1079 → S1079 → Option Int) : Nat → Int → (List S1079) → Option (List S1079)
 | 0, x1, x2 => some x2
 | k4 + 1, x1, x2 => s1192_l2 (fun z0_ z1_ => s1192_l1 a1 a3 k4 z0_ z1_) a1 a3 x1 (((x1 - a1).toNat) + 1) x1 x2
def s1192 (a0 : List S1079) (a1 : Int) (a2 : Int) (a3 : S1079 → S1079 → Option Int) : Option (List S1079) :=
 s1192_l1 a1 a3 ((a2 - (a1 + 1)).toNat) (a1 + 1) a0
theorem c1192 {g : List (Nat × List Value)} (a0 : List S1079) (a1 : Int) (a2 : Int) (a3 : S1079 → S1079 → Option Int) {R : List S1079} {N0 : Nat} (hN0 : List.length a0 = N0) {ca3 : G} {ia3 : FuncId} {ka3 : List G} (ha3 : FnIs ca3 ia3 ka3) (Ka3 : Known Tryz.prog ia3) (Ha3 : ∀ (x0 : S1079) (x1 : S1079) (r : Int), a3 x0 x1 = some r → Con (EG g) ia3 ([G.agg [G.int x0.Moment, G.str x0.Kind, G.str x0.Terminal, G.int x0.Seats, G.int x0.Size, G.int x0.Noise, G.str x0.Name], G.agg [G.int x1.Moment, G.str x1.Kind, G.str x1.Terminal, G.int x1.Seats, G.int x1.Size, G.int x1.Noise, G.str x1.Name]] ++ ka3) (G.int r)) (hA : 0 ≤ a1) (hA2 : a1 ≤ 1000000) (hB : a2 ≤ 1000000) (hR : s1192 a0 a1 a2 a3 = some R) : ConB (EG g) 192 [.osl 0 7 0 N0, .g (G.int a1), .g (G.int a2), .g (ca3)] [(0, .arr 80 7 (List.map S1079.c a0))] (G.tup []) [(0, .arr 80 7 (List.map S1079.c R))] := by
 unfold s1192 at hR;refine conB_of_aw Tryz.func192 rfl rfl rfl fun w0 M0 x => ?_;refine len_osl (f := S1079.c) (l := a0) 0 rfl fun hla0 => ?_;refine aw_seq ?_;refine aw_region [.p, .p, .p] ?_;refine st rfl rfl (eff_moveg rfl rfl) rfl ?_;refine st rfl rfl (eff_add rfl rfl rfl (by unfold I64; (try dsimp only); omega)) rfl ?_;refine st rfl rfl (eff_assigng rfl rfl) rfl ?_;refine st_nil ?_;refine aw_block ?_;refine aw_loop_g (γ := Nat × Int × (List S1079)) (fun g => ([(0, .osl 0 7 0 (N0)), (1, .g (G.int a1)), (2, .g (G.int a2)), (3, .g (ca3)), (8, .g (G.int g.2.1))], [(0, .arr 80 7 (List.map S1079.c g.2.2))])) (fun g => g.1 = (a2 - g.2.1).toNat ∧ (a1 + 1) ≤ g.2.1 ∧ List.length g.2.2 = N0 ∧ s1192_l1 a1 a3 g.1 g.2.1 g.2.2 = some R) (fun g => g.1) ⟨rfl, ((a2 - (a1 + 1)).toNat, a1 + 1, a0), ⟨rfl, rfl, rfl, rfl, rfl, trivial⟩, ⟨rfl, trivial⟩, rfl, ⟨rfl, (by first | omega | (dsimp only; omega) | simp), hN0, hR⟩, trivial⟩ ?_
 ·rintro ⟨k4, x1, x2⟩ ⟨hk1, iv1_0, ln3, hR⟩;replace hk1 : k4 = (a2 - x1).toNat := hk1;replace hR : s1192_l1 a1 a3 k4 x1 x2 = some R := hR;replace iv1_0 : (a1 + 1) ≤ x1 := iv1_0;replace ln3 : List.length x2 = N0 := ln3;refine aw_seq ?_;refine aw_seq ?_;refine aw_region [.p, .p, .p] ?_;refine st rfl rfl (eff_moveg rfl rfl) rfl ?_;refine st rfl rfl (eff_moveg rfl rfl) rfl ?_;refine st rfl rfl (eff_lss rfl rfl rfl) rfl ?_;refine st_nil ?_;refine aw_cond _ rfl (fun h1 => ?_) (fun h1 => ?_)
  ·replace h1 : (decide (x1 < a2)) = true := h1;replace h1 := decT h1;obtain ⟨k4, rfl⟩ : ∃ m, k4 = m + 1 := ⟨k4 - 1, by omega⟩;rw [s1192_l1] at hR;(try dsimp only at hR);refine aw_skip ?_;refine aw_seq ?_;refine aw_block ?_;refine aw_seq ?_;refine aw_region [.p, .p] ?_;refine st rfl rfl (eff_moveg rfl rfl) rfl ?_;refine st rfl rfl (eff_assigng rfl rfl) rfl ?_;refine st_nil ?_;refine aw_block ?_;refine aw_loop_g (γ := Nat × Int × (List S1079)) (fun g => ([(0, .osl 0 7 0 (N0)), (1, .g (G.int a1)), (2, .g (G.int a2)), (3, .g (ca3)), (8, .g (G.int x1)), (9, .g (G.int g.2.1))], [(0, .arr 80 7 (List.map S1079.c g.2.2))])) (fun g => (g.2.1 - a1).toNat < g.1 ∧ a1 ≤ g.2.1 ∧ g.2.1 ≤ 1000000 ∧ List.length g.2.2 = N0 ∧ s1192_l2 (fun z0_ z1_ => s1192_l1 a1 a3 k4 z0_ z1_) a1 a3 x1 g.1 g.2.1 g.2.2 = some R) (fun g => g.1) ⟨rfl, (((x1 - a1).toNat) + 1, x1, x2), ⟨rfl, rfl, rfl, rfl, rfl, rfl, trivial⟩, ⟨rfl, trivial⟩, rfl, ⟨Nat.lt_succ_self _, (by first | omega | (dsimp only; omega) | simp), (by first | omega | (dsimp only; omega) | simp), ln3, hR⟩, trivial⟩ ?_
   ·rintro ⟨k8, x5, x6⟩ ⟨hk2, iv2_0, iv2_1, ln7, hR⟩;replace hk2 : (x5 - a1).toNat < k8 := hk2;replace hR : s1192_l2 (fun z0_ z1_ => s1192_l1 a1 a3 k4 z0_ z1_) a1 a3 x1 k8 x5 x6 = some R := hR;replace iv2_0 : a1 ≤ x5 := iv2_0;replace iv2_1 : x5 ≤ 1000000 := iv2_1;replace ln7 : List.length x6 = N0 := ln7;obtain ⟨k8, rfl⟩ : ∃ m, k8 = m + 1 := ⟨k8 - 1, by omega⟩;rw [s1192_l2] at hR;(try dsimp only at hR);refine aw_seq ?_;refine aw_seq ?_;obtain ⟨y9, by9, hR⟩ := bindO_inv hR;obtain ⟨y10, by10, hR⟩ := bindO_inv hR;obtain ⟨r11, br11, hR⟩ := bindO_inv hR;refine aw_draw [.p, .p, .p, .p, .p, .p, .p, .p, .r, .p, .p, .p, .p, .r, .p, .p, .p] (by kernel_rfl) ?_;refine st rfl rfl (eff_moveg rfl rfl) rfl ?_;refine st rfl rfl (eff_moveg rfl rfl) rfl ?_;refine st rfl rfl (eff_gtr rfl rfl rfl) rfl ?_;refine st rfl rfl (eff_moveg rfl rfl) rfl ?_;refine st_g rfl rfl rfl (gb_bool _ _) (fun h => eff_moveg rfl rfl) rfl ?_;refine st_g rfl rfl rfl (gb_bool _ _) (fun h => eff_moveO rfl rfl) rfl ?_;refine st_g rfl rfl rfl (gb_bool _ _) (fun h => eff_moveg rfl rfl) rfl ?_;refine st_g rfl rfl rfl (gb_bool _ _) (fun h => eff_ixL rfl Tryz.underlying25 ty1080 (gd h rfl) (gd h rfl) (ixO_nn (condT1 by9 h)) (Nat.lt_of_lt_of_eq (get_lt (ixO_get (condT1 by9 h))) ln7)) rfl ?_;refine st_gr rfl rfl rfl (gb_bool _ _) (fun h => eff_ldEA (f := S1079.c) (l := x6) (a := y9) rfl ty1080 (gd h rfl) rfl (ixO_get (condT1 by9 h))) rfl ?_;refine st_g rfl rfl rfl (gb_bool _ _) (fun h => eff_moveO rfl rfl) rfl ?_;refine st_g rfl rfl rfl (gb_bool _ _) (fun h => eff_moveg rfl rfl) rfl ?_;refine st_g rfl rfl rfl (gb_bool _ _) (fun h => eff_sub rfl (gd h rfl) rfl (by unfold I64; (try dsimp only); omega)) rfl ?_;refine st_g rfl rfl rfl (gb_bool _ _) (fun h => eff_ixL rfl Tryz.underlying25 ty1080 (gd h rfl) (gd h rfl) (ixO_nn (condT1 by10 h)) (Nat.lt_of_lt_of_eq (get_lt (ixO_get (condT1 by10 h))) ln7)) rfl ?_;refine st_gr rfl rfl rfl (gb_bool _ _) (fun h => eff_ldEA (f := S1079.c) (l := x6) (a := y10) rfl ty1080 (gd h rfl) rfl (ixO_get (condT1 by10 h))) rfl ?_;refine st_g rfl rfl rfl (gb_bool _ _) (fun h => eff_callf rfl ha3 Ka3 (gd h rfl) (Con.lend (Ha3 y9 y10 _ (condT1 br11 h))) (ag_cons (gd h rfl) (ag_cons (gd h rfl) ag_nil))) rfl ?_;refine st_g rfl rfl rfl (gb_bool _ _) (fun h => eff_lss rfl (gd h rfl) rfl) rfl ?_;refine st rfl rfl (eff_and rfl rfl rfl rfl) rfl ?_;refine st_nil ?_;refine aw_cond _ rfl (fun h3 => ?_) (fun h3 => ?_)
    ·replace h3 : ((decide (a1 < x5)) && (decide (r11 < 0))) = true := h3;replace hR := condT hR h3;(try simp only [Bool.or_eq_true, Bool.and_eq_true, Bool.or_eq_false_iff, Bool.and_eq_false_iff, Bool.not_eq_true', Bool.not_eq_false', decide_eq_true_eq, decide_eq_false_iff_not] at h3);refine aw_skip ?_;refine aw_seq ?_;refine aw_block ?_;obtain ⟨y12, by12, hR⟩ := bindO_inv hR;obtain ⟨y13, by13, hR⟩ := bindO_inv hR;obtain ⟨y14, by14, hR⟩ := bindO_inv hR;obtain ⟨y15, by15, hR⟩ := bindO_inv hR;refine aw_draw [.p, .p, .p, .p, .p, .p, .p, .p, .p, .r, .p, .p, .p, .r, .p, .w, .p, .w] (by kernel_rfl) ?_;refine st rfl rfl (eff_moveO rfl rfl) rfl ?_;refine st rfl rfl (eff_moveg rfl rfl) rfl ?_;refine st rfl rfl (eff_moveO rfl rfl) rfl ?_;refine st rfl rfl (eff_moveg rfl rfl) rfl ?_;refine st rfl rfl (eff_sub rfl rfl rfl (by unfold I64; (try dsimp only); omega)) rfl ?_;refine st rfl rfl (eff_moveO rfl rfl) rfl ?_;refine st rfl rfl (eff_moveg rfl rfl) rfl ?_;refine st rfl rfl (eff_sub rfl rfl rfl (by unfold I64; (try dsimp only); omega)) rfl ?_;refine st rfl rfl (eff_ixL rfl Tryz.underlying25 ty1080 rfl rfl (ixO_nn by12) (Nat.lt_of_lt_of_eq (get_lt (ixO_get by12)) ln7)) rfl ?_;refine st_r rfl rfl (eff_ldEA (f := S1079.c) (l := x6) (a := y12) rfl ty1080 rfl rfl (ixO_get by12)) rfl ?_;refine st rfl rfl (eff_moveO rfl rfl) rfl ?_;refine st rfl rfl (eff_moveg rfl rfl) rfl ?_;refine st rfl rfl (eff_ixL rfl Tryz.underlying25 ty1080 rfl rfl (ixO_nn by13) (Nat.lt_of_lt_of_eq (get_lt (ixO_get by13)) ln7)) rfl ?_;refine st_r rfl rfl (eff_ldEA (f := S1079.c) (l := x6) (a := y13) rfl ty1080 rfl rfl (ixO_get by13)) rfl ?_;refine st rfl rfl (eff_ixL rfl Tryz.underlying25 ty1080 rfl rfl (ixO_nn by14) (Nat.lt_of_lt_of_eq (get_lt (ixO_get by14)) ln7)) rfl ?_;refine st_wn rfl rfl (eff_setL (f := S1079.c) (l := x6) (a' := y12) rfl ty1080 rfl rfl rfl (Nat.lt_of_lt_of_eq (Nat.lt_of_lt_of_eq (get_lt (ixO_get by14)) ln7) (Eq.symm ln7)) rfl (fun _ => rfl)) ?_;refine st rfl rfl (eff_ixL rfl Tryz.underlying25 ty1080 rfl rfl (ixO_nn by15) (Nat.lt_of_lt_of_eq (get_lt (ixO_get by15)) ((List.length_set ..).trans ln7))) rfl ?_;refine st_wn rfl rfl (eff_setL (f := S1079.c) (l := List.set x6 (Int.toNat x5) y12) (a' := y13) rfl ty1080 rfl rfl rfl (Nat.lt_of_lt_of_eq (Nat.lt_of_lt_of_eq (get_lt (ixO_get by15)) ((List.length_set ..).trans ln7)) (Eq.symm ((List.length_set ..).trans ln7))) rfl (fun _ => rfl)) ?_;refine st_nil ?_;refine aw_region [.p, .p, .p] ?_;refine st rfl rfl (eff_moveg rfl rfl) rfl ?_;refine st rfl rfl (eff_sub rfl rfl rfl (by unfold I64; (try dsimp only); omega)) rfl ?_;refine st rfl rfl (eff_assigng rfl rfl) rfl ?_;refine st_nil ?_;exact ⟨rfl, (k8, x5 - 1, List.set (List.set x6 (Int.toNat x5) y12) (Int.toNat (x5 - 1)) y13), ⟨(by simp only [List.length_set]; rfl), rfl, rfl, rfl, rfl, rfl, trivial⟩, ⟨rfl, trivial⟩, rfl, ⟨(by first | omega | (dsimp only; omega) | (simp at *; omega)), (by first | omega | (dsimp only; omega) | (simp at *; omega)), (by first | omega | (dsimp only; omega) | (simp at *; omega)), ((List.length_set ..).trans ((List.length_set ..).trans ln7)), hR⟩, by simp⟩
    ·replace h3 : ((decide (a1 < x5)) && (decide (r11 < 0))) = false := h3;replace hR := condF hR h3;(try simp only [Bool.or_eq_true, Bool.and_eq_true, Bool.or_eq_false_iff, Bool.and_eq_false_iff, Bool.not_eq_true', Bool.not_eq_false', decide_eq_true_eq, decide_eq_false_iff_not] at h3);refine aw_exit ?_;refine aw_region [.p, .p, .p] ?_;refine st rfl rfl (eff_moveg rfl rfl) rfl ?_;refine st rfl rfl (eff_add rfl rfl rfl (by (try dsimp only); unfold I64; omega)) rfl ?_;refine st rfl rfl (eff_assigng rfl rfl) rfl ?_;refine st_nil ?_;exact ⟨rfl, (k4, x1 + 1, x6), ⟨rfl, rfl, rfl, rfl, rfl, trivial⟩, ⟨rfl, trivial⟩, rfl, ⟨(by first | omega | (dsimp only; omega) | (simp at *; omega)), (by first | omega | (dsimp only; omega) | (simp at *; omega)), ln7, hR⟩, by simp⟩
  ·replace h1 : (decide (x1 < a2)) = false := h1;replace h1 := decF h1
   obtain rfl : k4 = 0 := by omega
   rw [s1192_l1] at hR;refine aw_exit ?_;obtain rfl := Option.some.inj hR;show ResOk _ _ _ _ ∧ MemL _ _;exact ⟨res0 rfl, ⟨rfl, trivial⟩⟩
theorem len1192_l2 (rec1 : Int → List S1079 → Option (List S1079)) (hrec : ∀ x l r, rec1 x l = some r → r.length = l.length) (a1 : Int) (a3 : S1079 → S1079 → Option Int) (x1 : Int) : ∀ (k : Nat) (x : Int) (l r : List S1079), s1192_l2 rec1 a1 a3 x1 k x l = some r → r.length = l.length
 | 0, _, _, _, h => by rw [s1192_l2] at h; cases h
 | k + 1, x, l, r, h => by
  rw [s1192_l2] at h;obtain ⟨y1, _, h⟩ := bindO_inv h;obtain ⟨y2, _, h⟩ := bindO_inv h;obtain ⟨y3, _, h⟩ := bindO_inv h
  cases hc : (decide (a1 < x) && decide (y3 < 0)) with
  | true =>
   have h := condT h hc;obtain ⟨y4, _, h⟩ := bindO_inv h;obtain ⟨y5, _, h⟩ := bindO_inv h;obtain ⟨y6, _, h⟩ := bindO_inv h;obtain ⟨y7, _, h⟩ := bindO_inv h;have := len1192_l2 rec1 hrec a1 a3 x1 k _ _ _ h
   simpa using this
  | false => exact hrec _ _ _ (condF h hc)
theorem len1192_l1 (a1 : Int) (a3 : S1079 → S1079 → Option Int) : ∀ (k : Nat) (x : Int) (l r : List S1079), s1192_l1 a1 a3 k x l = some r → r.length = l.length
 | 0, _, _, _, h => by rw [s1192_l1] at h; cases h; rfl
 | k + 1, x, l, r, h => by
  rw [s1192_l1] at h;exact len1192_l2 _ (fun x l r h => len1192_l1 a1 a3 k x l r h) a1 a3 x _ _ _ _ h
theorem len1192 {a0 : List S1079} {a1 a2 : Int} {a3 : S1079 → S1079 → Option Int} {R : List S1079} (h : s1192 a0 a1 a2 a3 = some R) : R.length = a0.length := len1192_l1 _ _ _ _ _ _ h
end Go.Sim
