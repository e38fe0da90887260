/-
  What is proved: lemmas and contracts of functions on the way to the law topBeaconShares (part 7).
-/
import Derived.Test.YtcpkkolljgpalaaGreatDoorVrA6
import Derived.Test.YtcpkkolljgpalaaGreatDoorVrA5
import Derived.RangeFuncBox
import Derived.RangeFuncNested
import Derived.RangeFuncBound
import Derived.RangeFuncCalls
import Derived.RangeFuncLeaves
import Derived.Shelf.Abstract
import Derived.Shelf.RegionOpen
import Derived.WalkKit
import Derived.OwnWalkIn
import Derived.TacticsInMore
import Derived.LoopNIn
import Derived.LoopIn
import Derived.Maps.AppendAt
import Derived.Lib.Hide
import Derived.Stop.RegionWithIn
import Derived.Sort.QuietIn
import Derived.Test.YtcpkkolljgpalaaGreatDoorVrA4
import Derived.Scope
set_option linter.unusedSectionVars false
set_option linter.unusedSimpArgs false
set_option linter.unusedVariables false
set_option linter.unnecessarySimpa false
set_option linter.deprecated false
set_option maxRecDepth 10000
namespace Go.Sim
open Go.Proofs
def s86 (a0 : Bool) (a1 : Int) : Int :=
 (bif a0 then a1 else 0)
theorem c86 {g : List (Nat × List Value)} (a0 : Bool) (a1 : Int)    : Con (EG g) 72 [G.bool a0, G.int a1] (G.int (s86 a0 a1)) := by
 generalize hR : s86 a0 a1 = R;unfold s86 at hR;refine con_of_aw Tryz.func72 rfl rfl fun w0 M0 => ?_;refine aw_seq ?_;refine aw_region [.p] ?_;refine sa rfl rfl ?_;refine st_nil ?_;refine aw_seq ?_;refine aw_seq ?_;refine aw_region [.p] ?_;refine sm rfl rfl ?_;refine st_nil ?_;refine aw_cond _ rfl (fun h1 => ?_) (fun h1 => ?_)
 ·replace h1 : (a0) = true := h1;replace hR := condT hR h1;(try simp only [bB] at h1);refine aw_seq ?_;refine aw_region [.p, .p] ?_;refine sm rfl rfl ?_;refine sa rfl rfl ?_;refine st_nil ?_;refine aw_ret ?_;subst hR;exact res_c rfl (rv_g rfl)
 ·replace h1 : (a0) = false := h1;replace hR := condF hR h1;(try simp only [bB] at h1);refine aw_skip ?_;refine aw_seq ?_;refine aw_region [.p] ?_;refine sa rfl rfl ?_;refine st_nil ?_;refine aw_ret ?_;subst hR;exact res_c rfl (rv_g rfl)
def s85 (a0 : Int) (a1 : Int) (a2 : Int) : Int :=
 (s86 ((decide (a0 < a1)) || (decide (a2 < a0))) 3)
theorem c85 {g : List (Nat × List Value)} (a0 : Int) (a1 : Int) (a2 : Int)    : Con (EG g) 34 [G.int a0, G.int a1, G.int a2] (G.int (s85 a0 a1 a2)) := by
 generalize hR : s85 a0 a1 a2 = R;unfold s85 at hR;refine con_of_aw Tryz.func34 rfl rfl fun w0 M0 => ?_;refine aw_seq ?_;refine aw_region [.p] ?_;refine sa rfl rfl ?_;refine st_nil ?_;refine aw_seq ?_;refine aw_region [.p, .p, .p, .p, .p, .p, .p, .p, .p, .p] ?_;refine sm rfl rfl ?_;refine sm rfl rfl ?_;refine su (eff_lss rfl rfl rfl) rfl ?_;refine sm rfl rfl ?_;refine sg rfl rfl (fun h => eff_moveg rfl rfl) rfl ?_;refine sg rfl rfl (fun h => eff_moveg rfl rfl) rfl ?_;refine sg rfl rfl (fun h => eff_gtr rfl (gd h rfl) (gd h rfl)) rfl ?_;refine su (eff_or rfl rfl rfl rfl) rfl ?_;refine su (eff_call rfl K86 rfl (c86 ((decide (a0 < a1)) || (decide (a2 < a0))) 3) (ag_cons rfl (ag_cons rfl ag_nil))) rfl ?_;refine sa rfl rfl ?_;refine st_nil ?_;refine aw_ret ?_;subst hR;exact res_c rfl (rv_g rfl)
def s84_l1  : List Int → Nat → Int
 | [], k2 => 0
 | y3 :: t4, k2 => (bif decide (y3 ≠ 0) then y3 else s84_l1  t4 (k2 + 1))
def s84 (a0 : List Int) : Int :=
 s84_l1 a0 0
theorem c84 {g : List (Nat × List Value)} (a0 : List Int)    : Con (EG g) 30 [G.sl 1 (List.map cInt a0)] (G.int (s84 a0)) := by
 generalize hR : s84 a0 = R;unfold s84 at hR;refine con_of_aw Tryz.func30 rfl rfl fun w0 M0 => ?_;refine len_sl (f := cInt) (l := a0) 0 rfl fun hla0 => ?_;refine aw_seq ?_;refine aw_region [.p] ?_;refine sa rfl rfl ?_;refine st_nil ?_;refine aw_seq ?_;refine aw_seq ?_;refine aw_region [.p, .p, .p] ?_;refine sm rfl rfl ?_;refine su (eff_lenM (f := cInt) (l := a0) rfl Tryz.underlying156 rfl) rfl ?_;refine sm rfl rfl ?_;refine st_nil ?_;refine aw_block ?_;refine aw_loop_g (γ := Nat × (List Int)) (fun g => ([(5, .g (G.sl 1 (List.map cInt a0))), (6, .g (G.int (List.length a0 : Int))), (7, .g (G.int ((g.1 : Nat) : Int)))], [])) (fun g => a0.drop g.1 = g.2 ∧ s84_l1  g.2 g.1 = R) (fun g => List.length g.2) ⟨rfl, (0, a0), ⟨rfl, rfl, rfl, trivial⟩, trivial, rfl, ⟨rfl, hR⟩, trivial⟩ ?_
 ·rintro ⟨k2, t4⟩ ⟨hd, hR⟩;replace hd : a0.drop k2 = t4 := hd;replace hR : s84_l1  t4 k2 = R := hR;refine aw_seq ?_;refine aw_region [.p] ?_;refine su (eff_lss rfl rfl rfl) rfl ?_;refine st_nil ?_;refine len_sl (f := cInt) (l := a0) 5 rfl fun hlz1 => ?_;refine aw_seq ?_;refine aw_cond _ rfl (fun h1 => ?_) (fun h1 => ?_)
  ·replace h1 : (decide (((k2 : Nat) : Int) < (List.length a0 : Int))) = true := h1;obtain ⟨y3, t4, rfl, hx1, hd⟩ := drop_cons hd (decT h1);replace h1 := decT h1;rw [s84_l1] at hR;(try dsimp only at hR);refine aw_skip ?_;refine aw_seq ?_;refine aw_block ?_;refine aw_seq ?_;refine aw_region [.p, .p, .p] ?_;refine su (eff_ix (f := cInt) (l := a0) (a := y3) rfl Tryz.underlying156 ty37 rfl rfl (Int.natCast_nonneg _) hx1) rfl ?_;refine su (eff_load rfl ty37 rfl) rfl ?_;refine sa rfl rfl ?_;refine st_nil ?_;refine aw_seq ?_;refine aw_region [.p, .p] ?_;refine sm rfl rfl ?_;refine su (eff_neq rfl rfl rfl) rfl ?_;refine st_nil ?_;refine aw_cond _ rfl (fun h3 => ?_) (fun h3 => ?_)
   ·replace h3 : (decide (y3 ≠ 0)) = true := h3;replace hR := condT hR h3;(try simp only [bB] at h3);refine aw_seq ?_;refine aw_region [.p, .p] ?_;refine sm rfl rfl ?_;refine sa rfl rfl ?_;refine st_nil ?_;refine aw_ret ?_;subst hR;exact res_c rfl (rv_g rfl)
   ·replace h3 : (decide (y3 ≠ 0)) = false := h3;replace hR := condF hR h3;(try simp only [bB] at h3);refine aw_skip ?_;refine aw_region [.p, .p] ?_;refine su (eff_add rfl rfl rfl iE) rfl ?_;refine sm rfl rfl ?_;refine st_nil ?_;exact ⟨rfl, (k2 + 1, t4), ⟨rfl, rfl, rfl, trivial⟩, trivial, rfl, ⟨hd, hR⟩, by simp⟩
  ·replace h1 : (decide (((k2 : Nat) : Int) < (List.length a0 : Int))) = false := h1;obtain rfl := drop_nil hd (decF h1);rw [s84_l1] at hR;refine aw_exit ?_;refine aw_seq ?_;refine aw_region [.p] ?_;refine sa rfl rfl ?_;refine st_nil ?_;refine aw_ret ?_;subst hR;exact res_c rfl (rv_g rfl)
def s90 (a0 : Int) (a1 : Int) (a2 : Int) : Int :=
 (bif (decide (a0 < a1)) || (decide (a2 < a0)) then 3 else 0)
theorem c90 {g : List (Nat × List Value)} (a0 : Int) (a1 : Int) (a2 : Int)    : Con (EG g) 25 [G.int a0, G.int a1, G.int a2] (G.int (s90 a0 a1 a2)) := by
 generalize hR : s90 a0 a1 a2 = R;unfold s90 at hR;refine con_of_aw Tryz.func25 rfl rfl fun w0 M0 => ?_;refine aw_seq ?_;refine aw_region [.p] ?_;refine sa rfl rfl ?_;refine st_nil ?_;refine aw_seq ?_;refine aw_seq ?_;refine aw_region [.p, .p, .p, .p, .p, .p, .p, .p] ?_;refine sm rfl rfl ?_;refine sm rfl rfl ?_;refine su (eff_lss rfl rfl rfl) rfl ?_;refine sm rfl rfl ?_;refine sg rfl rfl (fun h => eff_moveg rfl rfl) rfl ?_;refine sg rfl rfl (fun h => eff_moveg rfl rfl) rfl ?_;refine sg rfl rfl (fun h => eff_gtr rfl (gd h rfl) (gd h rfl)) rfl ?_;refine su (eff_or rfl rfl rfl rfl) rfl ?_;refine st_nil ?_;refine aw_cond _ rfl (fun h1 => ?_) (fun h1 => ?_)
 ·replace h1 : ((decide (a0 < a1)) || (decide (a2 < a0))) = true := h1;replace hR := condT hR h1;(try simp only [bB] at h1);refine aw_seq ?_;refine aw_region [.p] ?_;refine sa rfl rfl ?_;refine st_nil ?_;refine aw_ret ?_;subst hR;exact res_c rfl (rv_g rfl)
 ·replace h1 : ((decide (a0 < a1)) || (decide (a2 < a0))) = false := h1;replace hR := condF hR h1;(try simp only [bB] at h1);refine aw_skip ?_;refine aw_seq ?_;refine aw_region [.p] ?_;refine sa rfl rfl ?_;refine st_nil ?_;refine aw_ret ?_;subst hR;exact res_c rfl (rv_g rfl)
def s89_l1  : List Int → Nat → Int
 | [], k2 => 0
 | y3 :: t4, k2 => (bif decide (y3 ≠ 0) then y3 else s89_l1  t4 (k2 + 1))
def s89 (a0 : List Int) : Int :=
 s89_l1 a0 0
def s154 (a0 : Bool) (a1 : Int) : Int :=
 (bif a0 then a1 else 0)
theorem c154 {g : List (Nat × List Value)} (a0 : Bool) (a1 : Int)    : Con (EG g) 75 [G.bool a0, G.int a1] (G.int (s154 a0 a1)) := by
 generalize hR : s154 a0 a1 = R;unfold s154 at hR;refine con_of_aw Tryz.func75 rfl rfl fun w0 M0 => ?_;refine aw_seq ?_;refine aw_region [.p] ?_;refine sa rfl rfl ?_;refine st_nil ?_;refine aw_seq ?_;refine aw_seq ?_;refine aw_region [.p] ?_;refine sm rfl rfl ?_;refine st_nil ?_;refine aw_cond _ rfl (fun h1 => ?_) (fun h1 => ?_)
 ·replace h1 : (a0) = true := h1;replace hR := condT hR h1;(try simp only [bB] at h1);refine aw_seq ?_;refine aw_region [.p, .p] ?_;refine sm rfl rfl ?_;refine sa rfl rfl ?_;refine st_nil ?_;refine aw_ret ?_;subst hR;exact res_c rfl (rv_g rfl)
 ·replace h1 : (a0) = false := h1;replace hR := condF hR h1;(try simp only [bB] at h1);refine aw_skip ?_;refine aw_seq ?_;refine aw_region [.p] ?_;refine sa rfl rfl ?_;refine st_nil ?_;refine aw_ret ?_;subst hR;exact res_c rfl (rv_g rfl)
def s155 (a0 : Int) (a1 : Int) (a2 : Int) : Int :=
 (s154 ((decide (a0 < a1)) || (decide (a2 < a0))) 3)
theorem c155 {g : List (Nat × List Value)} (a0 : Int) (a1 : Int) (a2 : Int)    : Con (EG g) 76 [G.int a0, G.int a1, G.int a2] (G.int (s155 a0 a1 a2)) := by
 generalize hR : s155 a0 a1 a2 = R;unfold s155 at hR;refine con_of_aw Tryz.func76 rfl rfl fun w0 M0 => ?_;refine aw_seq ?_;refine aw_region [.p] ?_;refine sa rfl rfl ?_;refine st_nil ?_;refine aw_seq ?_;refine aw_region [.p, .p, .p, .p, .p, .p, .p, .p, .p, .p] ?_;refine sm rfl rfl ?_;refine sm rfl rfl ?_;refine su (eff_lss rfl rfl rfl) rfl ?_;refine sm rfl rfl ?_;refine sg rfl rfl (fun h => eff_moveg rfl rfl) rfl ?_;refine sg rfl rfl (fun h => eff_moveg rfl rfl) rfl ?_;refine sg rfl rfl (fun h => eff_gtr rfl (gd h rfl) (gd h rfl)) rfl ?_;refine su (eff_or rfl rfl rfl rfl) rfl ?_;refine su (eff_call rfl K154 rfl (c154 ((decide (a0 < a1)) || (decide (a2 < a0))) 3) (ag_cons rfl (ag_cons rfl ag_nil))) rfl ?_;refine sa rfl rfl ?_;refine st_nil ?_;refine aw_ret ?_;subst hR;exact res_c rfl (rv_g rfl)
def s152_l1  : List Int → Nat → Int
 | [], k2 => 0
 | y3 :: t4, k2 => (bif decide (y3 ≠ 0) then y3 else s152_l1  t4 (k2 + 1))
def s152 (a0 : List Int) : Int :=
 s152_l1 a0 0
theorem c152 {g : List (Nat × List Value)} (a0 : List Int)    : Con (EG g) 50 [G.sl 1 (List.map cInt a0)] (G.int (s152 a0)) := by
 generalize hR : s152 a0 = R;unfold s152 at hR;refine con_of_aw Tryz.func50 rfl rfl fun w0 M0 => ?_;refine len_sl (f := cInt) (l := a0) 0 rfl fun hla0 => ?_;refine aw_seq ?_;refine aw_region [.p] ?_;refine sa rfl rfl ?_;refine st_nil ?_;refine aw_seq ?_;refine aw_seq ?_;refine aw_region [.p, .p, .p] ?_;refine sm rfl rfl ?_;refine su (eff_lenM (f := cInt) (l := a0) rfl Tryz.underlying156 rfl) rfl ?_;refine sm rfl rfl ?_;refine st_nil ?_;refine aw_block ?_;refine aw_loop_g (γ := Nat × (List Int)) (fun g => ([(5, .g (G.sl 1 (List.map cInt a0))), (6, .g (G.int (List.length a0 : Int))), (7, .g (G.int ((g.1 : Nat) : Int)))], [])) (fun g => a0.drop g.1 = g.2 ∧ s152_l1  g.2 g.1 = R) (fun g => List.length g.2) ⟨rfl, (0, a0), ⟨rfl, rfl, rfl, trivial⟩, trivial, rfl, ⟨rfl, hR⟩, trivial⟩ ?_
 ·rintro ⟨k2, t4⟩ ⟨hd, hR⟩;replace hd : a0.drop k2 = t4 := hd;replace hR : s152_l1  t4 k2 = R := hR;refine aw_seq ?_;refine aw_region [.p] ?_;refine su (eff_lss rfl rfl rfl) rfl ?_;refine st_nil ?_;refine len_sl (f := cInt) (l := a0) 5 rfl fun hlz1 => ?_;refine aw_seq ?_;refine aw_cond _ rfl (fun h1 => ?_) (fun h1 => ?_)
  ·replace h1 : (decide (((k2 : Nat) : Int) < (List.length a0 : Int))) = true := h1;obtain ⟨y3, t4, rfl, hx1, hd⟩ := drop_cons hd (decT h1);replace h1 := decT h1;rw [s152_l1] at hR;(try dsimp only at hR);refine aw_skip ?_;refine aw_seq ?_;refine aw_block ?_;refine aw_seq ?_;refine aw_region [.p, .p, .p] ?_;refine su (eff_ix (f := cInt) (l := a0) (a := y3) rfl Tryz.underlying156 ty37 rfl rfl (Int.natCast_nonneg _) hx1) rfl ?_;refine su (eff_load rfl ty37 rfl) rfl ?_;refine sa rfl rfl ?_;refine st_nil ?_;refine aw_seq ?_;refine aw_region [.p, .p] ?_;refine sm rfl rfl ?_;refine su (eff_neq rfl rfl rfl) rfl ?_;refine st_nil ?_;refine aw_cond _ rfl (fun h3 => ?_) (fun h3 => ?_)
   ·replace h3 : (decide (y3 ≠ 0)) = true := h3;replace hR := condT hR h3;(try simp only [bB] at h3);refine aw_seq ?_;refine aw_region [.p, .p] ?_;refine sm rfl rfl ?_;refine sa rfl rfl ?_;refine st_nil ?_;refine aw_ret ?_;subst hR;exact res_c rfl (rv_g rfl)
   ·replace h3 : (decide (y3 ≠ 0)) = false := h3;replace hR := condF hR h3;(try simp only [bB] at h3);refine aw_skip ?_;refine aw_region [.p, .p] ?_;refine su (eff_add rfl rfl rfl iE) rfl ?_;refine sm rfl rfl ?_;refine st_nil ?_;exact ⟨rfl, (k2 + 1, t4), ⟨rfl, rfl, rfl, trivial⟩, trivial, rfl, ⟨hd, hR⟩, by simp⟩
  ·replace h1 : (decide (((k2 : Nat) : Int) < (List.length a0 : Int))) = false := h1;obtain rfl := drop_nil hd (decF h1);rw [s152_l1] at hR;refine aw_exit ?_;refine aw_seq ?_;refine aw_region [.p] ?_;refine sa rfl rfl ?_;refine st_nil ?_;refine aw_ret ?_;subst hR;exact res_c rfl (rv_g rfl)
def s148_l1 (a1 : ByteArray) : List ByteArray → Nat → Int
 | [], k2 => (-1)
 | y3 :: t4, k2 => (bif decide (a1 = y3) then ((k2 : Nat) : Int) else s148_l1 a1 t4 (k2 + 1))
def s148 (a0 : List ByteArray) (a1 : ByteArray) : Int :=
 s148_l1 a1 a0 0
theorem c148 {g : List (Nat × List Value)} (a0 : List ByteArray) (a1 : ByteArray)    : Con (EG g) 161 [G.sl 1 (List.map cStr a0), G.str a1] (G.int (s148 a0 a1)) := by
 generalize hR : s148 a0 a1 = R;unfold s148 at hR;refine con_of_aw Tryz.func161 rfl rfl fun w0 M0 => ?_;refine len_sl (f := cStr) (l := a0) 0 rfl fun hla0 => ?_;refine aw_seq ?_;refine aw_region [.p] ?_;refine sa rfl rfl ?_;refine st_nil ?_;refine aw_seq ?_;refine aw_seq ?_;refine aw_region [.p, .p, .p] ?_;refine sm rfl rfl ?_;refine su (eff_lenM (f := cStr) (l := a0) rfl Tryz.underlying45 rfl) rfl ?_;refine sm rfl rfl ?_;refine st_nil ?_;refine aw_block ?_;refine aw_loop_g (γ := Nat × (List ByteArray)) (fun g => ([(0, .g (G.sl 1 (List.map cStr a0))), (1, .g (G.str a1)), (7, .g (G.int (List.length a0 : Int))), (8, .g (G.int ((g.1 : Nat) : Int)))], [])) (fun g => a0.drop g.1 = g.2 ∧ s148_l1 a1 g.2 g.1 = R) (fun g => List.length g.2) ⟨rfl, (0, a0), ⟨rfl, rfl, rfl, rfl, trivial⟩, trivial, rfl, ⟨rfl, hR⟩, trivial⟩ ?_
 ·rintro ⟨k2, t4⟩ ⟨hd, hR⟩;replace hd : a0.drop k2 = t4 := hd;replace hR : s148_l1 a1 t4 k2 = R := hR;refine aw_seq ?_;refine aw_region [.p] ?_;refine su (eff_lss rfl rfl rfl) rfl ?_;refine st_nil ?_;refine len_sl (f := cStr) (l := a0) 0 rfl fun hlz1 => ?_;refine aw_seq ?_;refine aw_cond _ rfl (fun h1 => ?_) (fun h1 => ?_)
  ·replace h1 : (decide (((k2 : Nat) : Int) < (List.length a0 : Int))) = true := h1;obtain ⟨y3, t4, rfl, hx1, hd⟩ := drop_cons hd (decT h1);replace h1 := decT h1;rw [s148_l1] at hR;(try dsimp only at hR);refine aw_skip ?_;refine aw_seq ?_;refine aw_block ?_;refine aw_seq ?_;refine aw_region [.p, .p] ?_;refine sm rfl rfl ?_;refine sa rfl rfl ?_;refine st_nil ?_;refine aw_seq ?_;refine aw_region [.p, .p, .p, .p, .p, .p] ?_;refine sm rfl rfl ?_;refine sm rfl rfl ?_;refine sm rfl rfl ?_;refine su (eff_ix (f := cStr) (l := a0) (a := y3) rfl Tryz.underlying45 ty9 rfl rfl (Int.natCast_nonneg _) hx1) rfl ?_;refine su (eff_load rfl ty9 rfl) rfl ?_;refine su (eff_seq rfl rfl rfl) rfl ?_;refine st_nil ?_;refine aw_cond _ rfl (fun h3 => ?_) (fun h3 => ?_)
   ·replace h3 : (decide (a1 = y3)) = true := h3;replace hR := condT hR h3;(try simp only [bB] at h3);refine aw_seq ?_;refine aw_region [.p, .p] ?_;refine sm rfl rfl ?_;refine sa rfl rfl ?_;refine st_nil ?_;refine aw_ret ?_;subst hR;exact res_c rfl (rv_g rfl)
   ·replace h3 : (decide (a1 = y3)) = false := h3;replace hR := condF hR h3;(try simp only [bB] at h3);refine aw_skip ?_;refine aw_region [.p, .p] ?_;refine su (eff_add rfl rfl rfl iE) rfl ?_;refine sm rfl rfl ?_;refine st_nil ?_;exact ⟨rfl, (k2 + 1, t4), ⟨rfl, rfl, rfl, rfl, trivial⟩, trivial, rfl, ⟨hd, hR⟩, by simp⟩
  ·replace h1 : (decide (((k2 : Nat) : Int) < (List.length a0 : Int))) = false := h1;obtain rfl := drop_nil hd (decF h1);rw [s148_l1] at hR;refine aw_exit ?_;refine aw_seq ?_;refine aw_region [.p] ?_;refine sa rfl rfl ?_;refine st_nil ?_;refine aw_ret ?_;subst hR;exact res_c rfl (rv_g rfl)
def s88 (a0 : List ByteArray) (a1 : ByteArray) : Bool :=
 decide (0 ≤ (s148 a0 a1))
theorem c88 {g : List (Nat × List Value)} (a0 : List ByteArray) (a1 : ByteArray)    : Con (EG g) 87 [G.sl 1 (List.map cStr a0), G.str a1] (G.bool (s88 a0 a1)) := by
 generalize hR : s88 a0 a1 = R;unfold s88 at hR;refine con_of_aw Tryz.func87 rfl rfl fun w0 M0 => ?_;refine len_sl (f := cStr) (l := a0) 0 rfl fun hla0 => ?_;refine aw_seq ?_;refine aw_region [.p] ?_;refine sa rfl rfl ?_;refine st_nil ?_;refine aw_seq ?_;refine aw_region [.p, .p, .p, .p, .p] ?_;refine sm rfl rfl ?_;refine sm rfl rfl ?_;refine su (eff_call rfl K148 rfl (c148 a0 a1) (ag_cons rfl (ag_cons rfl ag_nil))) rfl ?_;refine su (eff_geq rfl rfl rfl) rfl ?_;refine sa rfl rfl ?_;refine st_nil ?_;refine aw_ret ?_;subst hR;exact res_c rfl (rv_g rfl)
def s101 (a0 : ByteArray) : Int :=
 (s86 ((!decide (a0 = (⟨#[65]⟩))) && (!decide (a0 = (⟨#[68]⟩)))) 13)
theorem c101 {g : List (Nat × List Value)} (a0 : ByteArray)    : Con (EG g) 32 [G.str a0] (G.int (s101 a0)) := by
 generalize hR : s101 a0 = R;unfold s101 at hR;refine con_of_aw Tryz.func32 rfl rfl fun w0 M0 => ?_;refine aw_seq ?_;refine aw_region [.p] ?_;refine sa rfl rfl ?_;refine st_nil ?_;refine aw_seq ?_;refine aw_region [.p, .p, .p, .p, .p, .p, .p, .p] ?_;refine sm rfl rfl ?_;refine su (eff_sne rfl rfl rfl) rfl ?_;refine sm rfl rfl ?_;refine sg rfl rfl (fun h => eff_moveg rfl rfl) rfl ?_;refine sg rfl rfl (fun h => eff_sne rfl (gd h rfl) rfl) rfl ?_;refine su (eff_and rfl rfl rfl rfl) rfl ?_;refine su (eff_call rfl K86 rfl (c86 ((!decide (a0 = (⟨#[65]⟩))) && (!decide (a0 = (⟨#[68]⟩)))) 13) (ag_cons rfl (ag_cons rfl ag_nil))) rfl ?_;refine sa rfl rfl ?_;refine st_nil ?_;refine aw_ret ?_;subst hR;exact res_c rfl (rv_g rfl)
def s150 (a0 : Bool) (a1 : Int) : Int :=
 (s86 a0 a1)
theorem c150 {g : List (Nat × List Value)} (a0 : Bool) (a1 : Int)    : Con (EG g) 164 [G.bool a0, G.int a1] (G.int (s150 a0 a1)) := by
 generalize hR : s150 a0 a1 = R;unfold s150 at hR;refine con_of_aw Tryz.func164 rfl rfl fun w0 M0 => ?_;refine aw_seq ?_;refine aw_region [.p] ?_;refine sa rfl rfl ?_;refine st_nil ?_;refine aw_seq ?_;refine aw_region [.p, .p, .p, .p] ?_;refine sm rfl rfl ?_;refine sm rfl rfl ?_;refine su (eff_call rfl K86 rfl (c86 a0 a1) (ag_cons rfl (ag_cons rfl ag_nil))) rfl ?_;refine sa rfl rfl ?_;refine st_nil ?_;refine aw_ret ?_;subst hR;exact res_c rfl (rv_g rfl)
def s151 (a0 : Int) : Int :=
 (s85 a0 0 99999)
theorem c151 {g : List (Nat × List Value)} (a0 : Int)    : Con (EG g) 165 [G.int a0] (G.int (s151 a0)) := by
 generalize hR : s151 a0 = R;unfold s151 at hR;refine con_of_aw Tryz.func165 rfl rfl fun w0 M0 => ?_;refine aw_seq ?_;refine aw_region [.p] ?_;refine sa rfl rfl ?_;refine st_nil ?_;refine aw_seq ?_;refine aw_region [.p, .p, .p] ?_;refine sm rfl rfl ?_;refine su (eff_call rfl K85 rfl (c85 a0 0 99999) (ag_cons rfl (ag_cons rfl (ag_cons rfl ag_nil)))) rfl ?_;refine sa rfl rfl ?_;refine st_nil ?_;refine aw_ret ?_;subst hR;exact res_c rfl (rv_g rfl)
def s149 (a0 : ByteArray) : Bool × Bool × Bool × Bool × Bool :=
 (!decide (a0 = (⟨#[119, 101, 97, 116, 104, 101, 114]⟩)), decide (a0 = (⟨#[102, 108, 121]⟩)), !decide (a0 = (⟨#[102, 108, 121]⟩)), decide (a0 = (⟨#[99, 97, 110, 99, 101, 108]⟩)), decide (a0 = (⟨#[98, 97, 99, 107]⟩)))
theorem c149 {g : List (Nat × List Value)} (a0 : ByteArray)    : Con (EG g) 163 [G.str a0] (G.tup [G.bool ((s149 a0).1), G.bool ((s149 a0).2.1), G.bool ((s149 a0).2.2.1), G.bool ((s149 a0).2.2.2.1), G.bool ((s149 a0).2.2.2.2)]) := by
 generalize hR : s149 a0 = R;unfold s149 at hR;refine con_of_aw Tryz.func163 rfl rfl fun w0 M0 => ?_;refine aw_seq ?_;refine aw_region [.p, .p, .p, .p, .p] ?_;refine sa rfl rfl ?_;refine sa rfl rfl ?_;refine sa rfl rfl ?_;refine sa rfl rfl ?_;refine sa rfl rfl ?_;refine st_nil ?_;refine aw_seq ?_;refine aw_region [.p, .p, .p, .p, .p, .p, .p, .p, .p, .p, .p, .p, .p, .p, .p] ?_;refine sm rfl rfl ?_;refine su (eff_sne rfl rfl rfl) rfl ?_;refine sm rfl rfl ?_;refine su (eff_seq rfl rfl rfl) rfl ?_;refine sm rfl rfl ?_;refine su (eff_sne rfl rfl rfl) rfl ?_;refine sm rfl rfl ?_;refine su (eff_seq rfl rfl rfl) rfl ?_;refine sm rfl rfl ?_;refine su (eff_seq rfl rfl rfl) rfl ?_;refine sa rfl rfl ?_;refine sa rfl rfl ?_;refine sa rfl rfl ?_;refine sa rfl rfl ?_;refine sa rfl rfl ?_;refine st_nil ?_;refine aw_ret ?_;subst hR;exact resN rfl ⟨rv_g rfl, rv_g rfl, rv_g rfl, rv_g rfl, rv_g rfl, trivial⟩ (by simp)
def s109 (a0 : Int) : Int :=
 (s90 a0 0 99999)
theorem c109 {g : List (Nat × List Value)} (a0 : Int)    : Con (EG g) 53 [G.int a0] (G.int (s109 a0)) := by
 generalize hR : s109 a0 = R;unfold s109 at hR;refine con_of_aw Tryz.func53 rfl rfl fun w0 M0 => ?_;refine aw_seq ?_;refine aw_region [.p] ?_;refine sa rfl rfl ?_;refine st_nil ?_;refine aw_seq ?_;refine aw_region [.p, .p, .p] ?_;refine sm rfl rfl ?_;refine su (eff_call rfl K90 rfl (c90 a0 0 99999) (ag_cons rfl (ag_cons rfl (ag_cons rfl ag_nil)))) rfl ?_;refine sa rfl rfl ?_;refine st_nil ?_;refine aw_ret ?_;subst hR;exact res_c rfl (rv_g rfl)
def s93_l1 (a1 : S151 → Int) : List S151 → Nat → (List Int) → List Int
 | [], k3, x1 => x1
 | y4 :: t5, k3, x1 => s93_l1 a1 t5 (k3 + 1) (x1 ++ [(a1 y4)])
def s93 (a0 : List S151) (a1 : S151 → Int) : List Int :=
 s93_l1 a1 a0 0 []
theorem c93 {g : List (Nat × List Value)} (a0 : List S151) (a1 : S151 → Int) {ca1 : G} {ia1 : FuncId} {ka1 : List G} (ha1 : FnIs ca1 ia1 ka1) (Ka1 : Known Tryz.prog ia1) (Ha1 : ∀ (x0 : S151), Con (EG g) ia1 ([G.agg [G.str x0.Name, G.int x0.Moment, G.str x0.Kind]] ++ ka1) (G.int (a1 x0))) (hb0 : a0.length * 8 ≤ 140737488351232)  : Con (EG g) 138 [G.sl 3 (List.map S151.c a0), ca1] (G.sl 1 (List.map cInt (s93 a0 a1))) := by
 generalize hR : s93 a0 a1 = R;unfold s93 at hR;refine con_of_aw Tryz.func138 rfl rfl fun w0 M0 => ?_;refine len_sl (f := S151.c) (l := a0) 0 rfl fun hla0 => ?_;refine aw_seq ?_;refine aw_region [.w] ?_;refine sw (eff_nilL 4 40 1 rfl rfl rfl) rfl ?_;refine st_nil ?_;refine aw_seq ?_;refine aw_region [.w] ?_;refine sw (eff_nilL 5 40 1 rfl rfl rfl) rfl ?_;refine st_nil ?_;refine aw_seq ?_;refine aw_seq ?_;refine aw_region [.p, .p, .p] ?_;refine sm rfl rfl ?_;refine su (eff_lenM (f := S151.c) (l := a0) rfl Tryz.underlying39 rfl) rfl ?_;refine sm rfl rfl ?_;refine st_nil ?_;refine aw_block ?_;refine aw_loop_g (γ := Nat × (List S151) × (List Int)) (fun g => ([(1, .g (ca1)), (5, .osl 5 1 0 (List.length g.2.2)), (8, .g (G.sl 3 (List.map S151.c a0))), (9, .g (G.int (List.length a0 : Int))), (10, .g (G.int ((g.1 : Nat) : Int)))], [(5, .arr 40 1 (List.map cInt g.2.2))])) (fun g => g.2.2.length ≤ g.1 ∧ a0.drop g.1 = g.2.1 ∧ s93_l1 a1 g.2.1 g.1 g.2.2 = R) (fun g => List.length g.2.1) ⟨rfl, (0, a0, []), ⟨rfl, rfl, rfl, rfl, rfl, trivial⟩, ⟨rfl, trivial⟩, rfl, ⟨iH, rfl, hR⟩, trivial⟩ ?_
 ·rintro ⟨k3, t5, x1⟩ ⟨iv1_0, hd, hR⟩;replace hd : a0.drop k3 = t5 := hd;replace hR : s93_l1 a1 t5 k3 x1 = R := hR;replace iv1_0 : x1.length ≤ k3 := iv1_0;refine aw_seq ?_;refine aw_region [.p] ?_;refine su (eff_lss rfl rfl rfl) rfl ?_;refine st_nil ?_;refine len_sl (f := S151.c) (l := a0) 8 rfl fun hlz1 => ?_;refine aw_seq ?_;refine aw_cond _ rfl (fun h1 => ?_) (fun h1 => ?_)
  ·replace h1 : (decide (((k3 : Nat) : Int) < (List.length a0 : Int))) = true := h1;obtain ⟨y4, t5, rfl, hx1, hd⟩ := drop_cons hd (decT h1);replace h1 := decT h1;rw [s93_l1] at hR;(try dsimp only at hR);refine aw_skip ?_;refine aw_seq ?_;refine aw_block ?_;refine aw_seq ?_;refine aw_region [.p, .p, .w, .w] ?_;refine su (eff_ix (f := S151.c) (l := a0) (a := y4) rfl Tryz.underlying39 ty152 rfl rfl (Int.natCast_nonneg _) hx1) rfl ?_;refine su (eff_loadA rfl ty152 rfl rfl rfl) rfl ?_;refine sw (eff_alloc 7 rfl z152 rfl rfl) rfl ?_;refine st_wn rfl rfl (eff_store (tv := .g (G.agg [G.str y4.Name, G.int y4.Moment, G.str y4.Kind])) rfl ty152 rfl rfl rfl rfl rfl) ?_;refine st_nil ?_;refine aw_region [.p, .p, .r, .p, .p, .k, .p] ?_;refine su (eff_moveO rfl rfl) rfl ?_;refine sm rfl rfl ?_;refine sr (eff_loadOA rfl ty152 rfl rfl rfl rfl) rfl ?_;refine su (eff_callf rfl ha1 Ka1 rfl (Ha1 y4) (ag_cons rfl ag_nil)) rfl ?_;refine su (eff_buildSlice rfl Tryz.underlying156 ty37 z37 rfl (ps_cons rfl ps_nil) rfl (by simp []) (by decide)) rfl ?_;refine st_k rfl rfl (eff_appL (f := cInt) (out := x1) (new := [(a1 y4)]) rfl app170 rfl rfl (src_eq rfl (src_sl (by decide) (by simp []))) (refsN rfl) (by simp; omega)) rfl ?_;refine su (eff_assignO rfl rfl) rfl ?_;refine st_nil ?_;refine aw_region [.p, .p] ?_;refine su (eff_add rfl rfl rfl iE) rfl ?_;refine sm rfl rfl ?_;refine st_nil ?_;exact ⟨rfl, (k3 + 1, t5, x1 ++ [(a1 y4)]), ⟨rfl, rfl, rfl, rfl, rfl, trivial⟩, ⟨rfl, trivial⟩, rfl, ⟨iB, hd, hR⟩, by simp⟩
  ·replace h1 : (decide (((k3 : Nat) : Int) < (List.length a0 : Int))) = false := h1;obtain rfl := drop_nil hd (decF h1);rw [s93_l1] at hR;refine aw_exit ?_;refine aw_seq ?_;refine aw_region [.p, .p] ?_;refine su (eff_moveO rfl rfl) rfl ?_;refine su (eff_assignO rfl rfl) rfl ?_;refine st_nil ?_;refine aw_ret ?_;subst hR;exact res_c rfl (rv_viewL rfl rfl)
def s98_l1 (a1 : S104 → Int) : List S104 → Nat → (List Int) → List Int
 | [], k3, x1 => x1
 | y4 :: t5, k3, x1 => s98_l1 a1 t5 (k3 + 1) (x1 ++ [(a1 y4)])
def s98 (a0 : List S104) (a1 : S104 → Int) : List Int :=
 s98_l1 a1 a0 0 []
theorem c98 {g : List (Nat × List Value)} (a0 : List S104) (a1 : S104 → Int) {ca1 : G} {ia1 : FuncId} {ka1 : List G} (ha1 : FnIs ca1 ia1 ka1) (Ka1 : Known Tryz.prog ia1) (Ha1 : ∀ (x0 : S104), Con (EG g) ia1 ([G.agg [G.str x0.Kind, G.str x0.Name, G.int x0.Moment, G.str x0.Move, G.int x0.fFrom, G.int x0.fTo, G.str x0.Cause, G.int x0.Told]] ++ ka1) (G.int (a1 x0))) (hb0 : a0.length * 8 ≤ 140737488351232)  : Con (EG g) 90 [G.sl 8 (List.map S104.c a0), ca1] (G.sl 1 (List.map cInt (s98 a0 a1))) := by
 generalize hR : s98 a0 a1 = R;unfold s98 at hR;refine con_of_aw Tryz.func90 rfl rfl fun w0 M0 => ?_;refine len_sl (f := S104.c) (l := a0) 0 rfl fun hla0 => ?_;refine aw_seq ?_;refine aw_region [.w] ?_;refine sw (eff_nilL 4 40 1 rfl rfl rfl) rfl ?_;refine st_nil ?_;refine aw_seq ?_;refine aw_region [.w] ?_;refine sw (eff_nilL 5 40 1 rfl rfl rfl) rfl ?_;refine st_nil ?_;refine aw_seq ?_;refine aw_seq ?_;refine aw_region [.p, .p, .p] ?_;refine sm rfl rfl ?_;refine su (eff_lenM (f := S104.c) (l := a0) rfl Tryz.underlying24 rfl) rfl ?_;refine sm rfl rfl ?_;refine st_nil ?_;refine aw_block ?_;refine aw_loop_g (γ := Nat × (List S104) × (List Int)) (fun g => ([(1, .g (ca1)), (5, .osl 5 1 0 (List.length g.2.2)), (8, .g (G.sl 8 (List.map S104.c a0))), (9, .g (G.int (List.length a0 : Int))), (10, .g (G.int ((g.1 : Nat) : Int)))], [(5, .arr 40 1 (List.map cInt g.2.2))])) (fun g => g.2.2.length ≤ g.1 ∧ a0.drop g.1 = g.2.1 ∧ s98_l1 a1 g.2.1 g.1 g.2.2 = R) (fun g => List.length g.2.1) ⟨rfl, (0, a0, []), ⟨rfl, rfl, rfl, rfl, rfl, trivial⟩, ⟨rfl, trivial⟩, rfl, ⟨iH, rfl, hR⟩, trivial⟩ ?_
 ·rintro ⟨k3, t5, x1⟩ ⟨iv1_0, hd, hR⟩;replace hd : a0.drop k3 = t5 := hd;replace hR : s98_l1 a1 t5 k3 x1 = R := hR;replace iv1_0 : x1.length ≤ k3 := iv1_0;refine aw_seq ?_;refine aw_region [.p] ?_;refine su (eff_lss rfl rfl rfl) rfl ?_;refine st_nil ?_;refine len_sl (f := S104.c) (l := a0) 8 rfl fun hlz1 => ?_;refine aw_seq ?_;refine aw_cond _ rfl (fun h1 => ?_) (fun h1 => ?_)
  ·replace h1 : (decide (((k3 : Nat) : Int) < (List.length a0 : Int))) = true := h1;obtain ⟨y4, t5, rfl, hx1, hd⟩ := drop_cons hd (decT h1);replace h1 := decT h1;rw [s98_l1] at hR;(try dsimp only at hR);refine aw_skip ?_;refine aw_seq ?_;refine aw_block ?_;refine aw_seq ?_;refine aw_region [.p, .p, .w, .w] ?_;refine su (eff_ix (f := S104.c) (l := a0) (a := y4) rfl Tryz.underlying24 ty105 rfl rfl (Int.natCast_nonneg _) hx1) rfl ?_;refine su (eff_loadA rfl ty105 rfl rfl rfl) rfl ?_;refine sw (eff_alloc 7 rfl z105 rfl rfl) rfl ?_;refine st_wn rfl rfl (eff_store (tv := .g (G.agg [G.str y4.Kind, G.str y4.Name, G.int y4.Moment, G.str y4.Move, G.int y4.fFrom, G.int y4.fTo, G.str y4.Cause, G.int y4.Told])) rfl ty105 rfl rfl rfl rfl rfl) ?_;refine st_nil ?_;refine aw_region [.p, .p, .r, .p, .p, .k, .p] ?_;refine su (eff_moveO rfl rfl) rfl ?_;refine sm rfl rfl ?_;refine sr (eff_loadOA rfl ty105 rfl rfl rfl rfl) rfl ?_;refine su (eff_callf rfl ha1 Ka1 rfl (Ha1 y4) (ag_cons rfl ag_nil)) rfl ?_;refine su (eff_buildSlice rfl Tryz.underlying156 ty37 z37 rfl (ps_cons rfl ps_nil) rfl (by simp []) (by decide)) rfl ?_;refine st_k rfl rfl (eff_appL (f := cInt) (out := x1) (new := [(a1 y4)]) rfl app170 rfl rfl (src_eq rfl (src_sl (by decide) (by simp []))) (refsN rfl) (by simp; omega)) rfl ?_;refine su (eff_assignO rfl rfl) rfl ?_;refine st_nil ?_;refine aw_region [.p, .p] ?_;refine su (eff_add rfl rfl rfl iE) rfl ?_;refine sm rfl rfl ?_;refine st_nil ?_;exact ⟨rfl, (k3 + 1, t5, x1 ++ [(a1 y4)]), ⟨rfl, rfl, rfl, rfl, rfl, trivial⟩, ⟨rfl, trivial⟩, rfl, ⟨iB, hd, hR⟩, by simp⟩
  ·replace h1 : (decide (((k3 : Nat) : Int) < (List.length a0 : Int))) = false := h1;obtain rfl := drop_nil hd (decF h1);rw [s98_l1] at hR;refine aw_exit ?_;refine aw_seq ?_;refine aw_region [.p, .p] ?_;refine su (eff_moveO rfl rfl) rfl ?_;refine su (eff_assignO rfl rfl) rfl ?_;refine st_nil ?_;refine aw_ret ?_;subst hR;exact res_c rfl (rv_viewL rfl rfl)
def s147_l1  : List (Int × Int) → Bool
 | [] => true
 | y2 :: t3 => (bif (!(((decide (65 ≤ y2.2)) && (decide (y2.2 ≤ 90))) || ((decide (97 ≤ y2.2)) && (decide (y2.2 ≤ 122))))) && ((decide (y2.1 = 0)) || ((decide (y2.2 ≠ 95)) && ((decide (y2.2 < 48)) || (decide (57 < y2.2))))) then false else s147_l1 t3)
def s147 (a0 : ByteArray) : Bool :=
 (bif (decide ((ByteArray.size a0 : Int) = 0)) || (decide (24 < (ByteArray.size a0 : Int))) then false else s147_l1 (runes a0))
theorem c147 {g : List (Nat × List Value)} (a0 : ByteArray)    : Con (EG g) 73 [G.str a0] (G.bool (s147 a0)) := by
 generalize hR : s147 a0 = R;unfold s147 at hR;refine con_of_aw Tryz.func73 rfl rfl fun w0 M0 => ?_;refine aw_seq ?_;refine aw_region [.p] ?_;refine sa rfl rfl ?_;refine st_nil ?_;refine aw_seq ?_;refine aw_seq ?_;refine aw_region [.p, .p, .p, .p, .p, .p, .p, .p] ?_;refine sm rfl rfl ?_;refine su (eff_lenS rfl Tryz.underlying9 rfl) rfl ?_;refine su (eff_eql rfl rfl rfl) rfl ?_;refine sm rfl rfl ?_;refine sg rfl rfl (fun h => eff_moveg rfl rfl) rfl ?_;refine sg rfl rfl (fun h => eff_lenS rfl Tryz.underlying9 (gd h rfl)) rfl ?_;refine sg rfl rfl (fun h => eff_gtr rfl (gd h rfl) rfl) rfl ?_;refine su (eff_or rfl rfl rfl rfl) rfl ?_;refine st_nil ?_;refine aw_cond _ rfl (fun h1 => ?_) (fun h1 => ?_)
 ·replace h1 : ((decide ((ByteArray.size a0 : Int) = 0)) || (decide (24 < (ByteArray.size a0 : Int)))) = true := h1;replace hR := condT hR h1;(try simp only [bB] at h1);refine aw_seq ?_;refine aw_region [.p] ?_;refine sa rfl rfl ?_;refine st_nil ?_;refine aw_ret ?_;subst hR;exact res_c rfl (rv_g rfl)
 ·replace h1 : ((decide ((ByteArray.size a0 : Int) = 0)) || (decide (24 < (ByteArray.size a0 : Int)))) = false := h1;replace hR := condF hR h1;(try simp only [bB] at h1);refine aw_skip ?_;refine aw_seq ?_;refine aw_seq ?_;refine aw_region [.p, .w] ?_;refine sm rfl rfl ?_;refine sw (eff_rangeS 15 rfl Tryz.underlying9 rfl rfl) rfl ?_;refine st_nil ?_;refine aw_block ?_;refine aw_loop_g (γ := Nat × (List (Int × Int))) (fun g => ([(15, .ptr 15 0)], [(15, .it a0 g.1)])) (fun g => RunesAt a0 g.1 g.2 ∧ s147_l1 g.2 = R) (fun g => List.length g.2) ⟨rfl, (0, runes a0), ⟨rfl, trivial⟩, ⟨rfl, trivial⟩, rfl, ⟨runesAt_start _, hR⟩, trivial⟩ ?_
  ·rintro ⟨p1, t3⟩ ⟨hP, hR⟩;replace hP : RunesAt a0 p1 t3 := hP;replace hR : s147_l1 t3 = R := hR
   cases t3 with
   | nil =>
    rw [s147_l1] at hR;refine aw_seq ?_;refine aw_region [.r, .p] ?_;refine sr (eff_nextE rfl rfl rfl (runesAt_nil hP)) rfl ?_;refine su (eff_extract rfl rfl rfl) rfl ?_;refine st_nil ?_;refine aw_seq ?_;refine aw_cond _ rfl (fun h2 => ?_) (fun h2 => ?_)
    ·exact Bool.noConfusion h2
    ·refine aw_exit ?_;refine aw_seq ?_;refine aw_region [.p] ?_;refine sa rfl rfl ?_;refine st_nil ?_;refine aw_ret ?_;subst hR;exact res_c rfl (rv_g rfl)
   | cons y2 t3 =>
    obtain ⟨hlt, hy, hP⟩ := runesAt_cons hP;rw [s147_l1] at hR;refine aw_seq ?_;refine aw_region [.w, .p] ?_;refine sw (eff_nextY (y := y2) rfl rfl rfl hlt hy) rfl ?_;refine su (eff_extract rfl rfl rfl) rfl ?_;refine st_nil ?_;refine aw_seq ?_;refine aw_cond _ rfl (fun h3 => ?_) (fun h3 => ?_)
    ·refine aw_skip ?_;refine aw_block ?_;refine aw_seq ?_;refine aw_region [.p, .p, .p, .p] ?_;refine su (eff_extract rfl rfl rfl) rfl ?_;refine su (eff_extract rfl rfl rfl) rfl ?_;refine sa rfl rfl ?_;refine sa rfl rfl ?_;refine st_nil ?_;refine aw_seq ?_;refine aw_region [.p, .p, .p, .p, .p, .p, .p, .p, .p, .p, .p, .p, .p, .p, .p] ?_;refine sm rfl rfl ?_;refine su (eff_geq rfl rfl rfl) rfl ?_;refine sm rfl rfl ?_;refine sg rfl rfl (fun h => eff_moveg rfl rfl) rfl ?_;refine sg rfl rfl (fun h => eff_leq rfl (gd h rfl) rfl) rfl ?_;refine su (eff_and rfl rfl rfl rfl) rfl ?_;refine sm rfl rfl ?_;refine sg rfl rfl (fun h => eff_moveg rfl rfl) rfl ?_;refine sg rfl rfl (fun h => eff_geq rfl (gd h rfl) rfl) rfl ?_;refine sg rfl rfl (fun h => eff_moveg rfl (gd h rfl)) rfl ?_;refine st_g rfl rfl rfl (gb_if _ _ _) (fun h => eff_moveg rfl rfl) rfl ?_;refine st_g rfl rfl rfl (gb_if _ _ _) (fun h => eff_leq rfl (gd h rfl) rfl) rfl ?_;refine sg rfl rfl (fun h => eff_and rfl (gd h rfl) rfl (gd2 h rfl)) rfl ?_;refine su (eff_or rfl rfl rfl rfl) rfl ?_;refine sa rfl rfl ?_;refine st_nil ?_;refine aw_seq ?_;refine aw_region [.p, .p, .p, .p, .p, .p, .p, .p, .p, .p, .p, .p, .p, .p, .p, .p, .p, .p] ?_;refine sm rfl rfl ?_;refine su (eff_not rfl rfl) rfl ?_;refine sm rfl rfl ?_;refine sg rfl rfl (fun h => eff_moveg rfl rfl) rfl ?_;refine sg rfl rfl (fun h => eff_eql rfl (gd h rfl) rfl) rfl ?_;refine sg rfl rfl (fun h => eff_moveg rfl (gd h rfl)) rfl ?_;refine st_g rfl rfl rfl (gb_if _ _ _) (fun h => eff_moveg rfl rfl) rfl ?_;refine st_g rfl rfl rfl (gb_if _ _ _) (fun h => eff_neq rfl (gd h rfl) rfl) rfl ?_;refine st_g rfl rfl rfl (gb_if _ _ _) (fun h => eff_moveg rfl (gd h rfl)) rfl ?_;refine st_g rfl rfl rfl (gb_if _ _ _) (fun h => eff_moveg rfl rfl) rfl ?_;refine st_g rfl rfl rfl (gb_if _ _ _) (fun h => eff_lss rfl (gd h rfl) rfl) rfl ?_;refine st_g rfl rfl rfl (gb_if _ _ _) (fun h => eff_moveg rfl (gd h rfl)) rfl ?_;refine st_g rfl rfl rfl (gb_if _ _ _) (fun h => eff_moveg rfl rfl) rfl ?_;refine st_g rfl rfl rfl (gb_if _ _ _) (fun h => eff_gtr rfl (gd h rfl) rfl) rfl ?_;refine st_g rfl rfl rfl (gb_if _ _ _) (fun h => eff_or rfl (gd h rfl) rfl (gd2 h rfl)) rfl ?_;refine st_g rfl rfl rfl (gb_if _ _ _) (fun h => eff_and rfl (gd h rfl) rfl (gd2 h rfl)) rfl ?_;refine sg rfl rfl (fun h => eff_or rfl (gd h rfl) rfl (gd2 h rfl)) rfl ?_;refine su (eff_and rfl rfl rfl rfl) rfl ?_;refine st_nil ?_;refine aw_cond _ rfl (fun h4 => ?_) (fun h4 => ?_)
     ·replace h4 : ((!(((decide (65 ≤ y2.2)) && (decide (y2.2 ≤ 90))) || ((decide (97 ≤ y2.2)) && (decide (y2.2 ≤ 122))))) && ((decide (y2.1 = 0)) || ((decide (y2.2 ≠ 95)) && ((decide (y2.2 < 48)) || (decide (57 < y2.2)))))) = true := h4;replace hR := condT hR h4;(try simp only [bB] at h4);refine aw_seq ?_;refine aw_region [.p] ?_;refine sa rfl rfl ?_;refine st_nil ?_;refine aw_ret ?_;subst hR;exact res_c rfl (rv_g rfl)
     ·replace h4 : ((!(((decide (65 ≤ y2.2)) && (decide (y2.2 ≤ 90))) || ((decide (97 ≤ y2.2)) && (decide (y2.2 ≤ 122))))) && ((decide (y2.1 = 0)) || ((decide (y2.2 ≠ 95)) && ((decide (y2.2 < 48)) || (decide (57 < y2.2)))))) = false := h4;replace hR := condF hR h4;(try simp only [bB] at h4);refine aw_skip ?_;exact ⟨rfl, ((p1 + (Utf8.decode a0 p1).2), t3), ⟨rfl, trivial⟩, ⟨rfl, trivial⟩, rfl, ⟨hP, hR⟩, by simp⟩
    ·exact Bool.noConfusion h3
def s87 (a0 : ByteArray) : Int :=
 (s86 (!(s147 a0)) 8)
theorem c87 {g : List (Nat × List Value)} (a0 : ByteArray)    : Con (EG g) 31 [G.str a0] (G.int (s87 a0)) := by
 generalize hR : s87 a0 = R;unfold s87 at hR;refine con_of_aw Tryz.func31 rfl rfl fun w0 M0 => ?_;refine aw_seq ?_;refine aw_region [.p] ?_;refine sa rfl rfl ?_;refine st_nil ?_;refine aw_seq ?_;refine aw_region [.p, .p, .p, .p, .p] ?_;refine sm rfl rfl ?_;refine su (eff_call rfl K147 rfl (c147 a0) (ag_cons rfl ag_nil)) rfl ?_;refine su (eff_not rfl rfl) rfl ?_;refine su (eff_call rfl K86 rfl (c86 (!(s147 a0)) 8) (ag_cons rfl (ag_cons rfl ag_nil))) rfl ?_;refine sa rfl rfl ?_;refine st_nil ?_;refine aw_ret ?_;subst hR;exact res_c rfl (rv_g rfl)
def s94 (a0 : S151) : Int :=
 (s84 [(s87 a0.Name), (s85 a0.Moment 0 143999999), (s101 a0.Kind)])
theorem c94 {g : List (Nat × List Value)} (a0 : S151)    : Con (EG g) 139 [G.agg [G.str a0.Name, G.int a0.Moment, G.str a0.Kind]] (G.int (s94 a0)) := by
 generalize hR : s94 a0 = R;unfold s94 at hR;refine con_of_aw Tryz.func139 rfl rfl fun w0 M0 => ?_;refine aw_seq ?_;refine aw_region [.p, .p] ?_;refine su (eff_box rfl rfl) rfl ?_;refine sa rfl rfl ?_;refine st_nil ?_;refine aw_seq ?_;refine aw_draw [.p, .p, .p, .p, .p, .p, .p, .p, .p, .p, .p, .p] (by kernel_rfl) ?_;refine su (eff_fieldAddr rfl fl152_0 rfl) rfl ?_;refine su (eff_load rfl ty9 rfl) rfl ?_;refine su (eff_call rfl K87 rfl (c87 a0.Name) (ag_cons rfl ag_nil)) rfl ?_;refine su (eff_fieldAddr rfl fl152_1 rfl) rfl ?_;refine su (eff_load rfl ty3 rfl) rfl ?_;refine su (eff_call rfl K85 rfl (c85 a0.Moment 0 143999999) (ag_cons rfl (ag_cons rfl (ag_cons rfl ag_nil)))) rfl ?_;refine su (eff_fieldAddr rfl fl152_2 rfl) rfl ?_;refine su (eff_load rfl ty9 rfl) rfl ?_;refine su (eff_call rfl K101 rfl (c101 a0.Kind) (ag_cons rfl ag_nil)) rfl ?_;refine su (eff_buildSlice rfl Tryz.underlying156 ty37 z37 rfl (ps_cons rfl (ps_cons rfl (ps_cons rfl ps_nil))) rfl (by simp []) (by decide)) rfl ?_;refine su (eff_call rfl K84 rfl (c84 [(s87 a0.Name), (s85 a0.Moment 0 143999999), (s101 a0.Kind)]) (ag_cons rfl ag_nil)) rfl ?_;refine sa rfl rfl ?_;refine st_nil ?_;refine aw_ret ?_;subst hR;exact res_c rfl (rv_g rfl)
def s25 (a0 : List S151) : Int :=
 (bif decide (512 < (List.length a0 : Int)) then 5 else (s84 (s93 a0 s94)))
theorem c25 {g : List (Nat × List Value)} (a0 : List S151)    : Con (EG g) 78 [G.sl 3 (List.map S151.c a0)] (G.int (s25 a0)) := by
 generalize hR : s25 a0 = R;unfold s25 at hR;refine con_of_aw Tryz.func78 rfl rfl fun w0 M0 => ?_;refine len_sl (f := S151.c) (l := a0) 0 rfl fun hla0 => ?_;refine aw_seq ?_;refine aw_region [.p] ?_;refine sa rfl rfl ?_;refine st_nil ?_;refine aw_seq ?_;refine aw_seq ?_;refine aw_region [.p, .p, .p] ?_;refine sm rfl rfl ?_;refine su (eff_lenM (f := S151.c) (l := a0) rfl Tryz.underlying39 rfl) rfl ?_;refine su (eff_gtr rfl rfl rfl) rfl ?_;refine st_nil ?_;refine aw_cond _ rfl (fun h1 => ?_) (fun h1 => ?_)
 ·replace h1 : (decide (512 < (List.length a0 : Int))) = true := h1;replace hR := condT hR h1;(try simp only [bB] at h1);refine aw_seq ?_;refine aw_region [.p] ?_;refine sa rfl rfl ?_;refine st_nil ?_;refine aw_ret ?_;subst hR;exact res_c rfl (rv_g rfl)
 ·replace h1 : (decide (512 < (List.length a0 : Int))) = false := h1;replace hR := condF hR h1;(try simp only [bB] at h1);refine aw_skip ?_;refine aw_seq ?_;refine aw_region [.p, .p, .p, .p] ?_;refine sm rfl rfl ?_;refine su (eff_call rfl K93 rfl (c93 a0 s94 fnis_lit K94 (fun x0 => c94 x0) iA) (ag_cons rfl (ag_cons rfl ag_nil))) rfl ?_;refine su (eff_call rfl K84 rfl (c84 (s93 a0 s94)) (ag_cons rfl ag_nil)) rfl ?_;refine sa rfl rfl ?_;refine st_nil ?_;refine aw_ret ?_;subst hR;exact res_c rfl (rv_g rfl)
def s23_l1 (a0 : S23) : List ByteArray → Nat → Int
 | [], k2 => (s84 [(s85 a0.Off 0 720), (s85 a0.Run 1 512)])
 | y3 :: t4, k2 => (bif decide ((s84 [(s87 y3), (s86 (s88 (List.take (Int.toNat ((k2 : Nat) : Int)) a0.Causes) y3) 9)]) ≠ 0) then (s84 [(s87 y3), (s86 (s88 (List.take (Int.toNat ((k2 : Nat) : Int)) a0.Causes) y3) 9)]) else s23_l1 a0 t4 (k2 + 1))
def s23 (a0 : S23) : Int :=
 (bif decide ((s84 [(s85 a0.Before 0 720), (s85 a0.After 0 720), (s85 a0.Notice 0 365), (s85 a0.Share 1 100), (s86 (decide (16 < (List.length a0.Causes : Int))) 5)]) ≠ 0) then (s84 [(s85 a0.Before 0 720), (s85 a0.After 0 720), (s85 a0.Notice 0 365), (s85 a0.Share 1 100), (s86 (decide (16 < (List.length a0.Causes : Int))) 5)]) else s23_l1 a0 a0.Causes 0)
theorem c23 {g : List (Nat × List Value)} (a0 : S23)    : Con (EG g) 43 [G.agg [G.int a0.Before, G.int a0.After, G.int a0.Notice, G.int a0.Share, G.sl 1 (List.map cStr a0.Causes), G.int a0.Off, G.int a0.Run]] (G.int (s23 a0)) := by
 generalize hR : s23 a0 = R;unfold s23 at hR;refine con_of_aw Tryz.func43 rfl rfl fun w0 M0 => ?_;refine aw_seq ?_;refine aw_region [.p, .p] ?_;refine su (eff_box rfl rfl) rfl ?_;refine sa rfl rfl ?_;refine st_nil ?_;refine aw_seq ?_;refine aw_seq ?_;refine aw_draw [.p, .p, .p, .p, .p, .p, .p, .p, .p, .p, .p, .p, .p, .p, .p, .p, .p, .p, .p, .p] (by kernel_rfl) ?_;refine su (eff_fieldAddr rfl fl24_0 rfl) rfl ?_;refine su (eff_load rfl ty3 rfl) rfl ?_;refine su (eff_call rfl K85 rfl (c85 a0.Before 0 720) (ag_cons rfl (ag_cons rfl (ag_cons rfl ag_nil)))) rfl ?_;refine su (eff_fieldAddr rfl fl24_1 rfl) rfl ?_;refine su (eff_load rfl ty3 rfl) rfl ?_;refine su (eff_call rfl K85 rfl (c85 a0.After 0 720) (ag_cons rfl (ag_cons rfl (ag_cons rfl ag_nil)))) rfl ?_;refine su (eff_fieldAddr rfl fl24_2 rfl) rfl ?_;refine su (eff_load rfl ty3 rfl) rfl ?_;refine su (eff_call rfl K85 rfl (c85 a0.Notice 0 365) (ag_cons rfl (ag_cons rfl (ag_cons rfl ag_nil)))) rfl ?_;refine su (eff_fieldAddr rfl fl24_3 rfl) rfl ?_;refine su (eff_load rfl ty3 rfl) rfl ?_;refine su (eff_call rfl K85 rfl (c85 a0.Share 1 100) (ag_cons rfl (ag_cons rfl (ag_cons rfl ag_nil)))) rfl ?_;refine su (eff_fieldAddr rfl fl24_4 rfl) rfl ?_;refine su (eff_load rfl ty22 rfl) rfl ?_;refine su (eff_lenM (f := cStr) (l := a0.Causes) rfl Tryz.underlying45 rfl) rfl ?_;refine su (eff_gtr rfl rfl rfl) rfl ?_;refine su (eff_call rfl K86 rfl (c86 (decide (16 < (List.length a0.Causes : Int))) 5) (ag_cons rfl (ag_cons rfl ag_nil))) rfl ?_;refine su (eff_buildSlice rfl Tryz.underlying156 ty37 z37 rfl (ps_cons rfl (ps_cons rfl (ps_cons rfl (ps_cons rfl (ps_cons rfl ps_nil))))) rfl (by simp []) (by decide)) rfl ?_;refine su (eff_call rfl K84 rfl (c84 [(s85 a0.Before 0 720), (s85 a0.After 0 720), (s85 a0.Notice 0 365), (s85 a0.Share 1 100), (s86 (decide (16 < (List.length a0.Causes : Int))) 5)]) (ag_cons rfl ag_nil)) rfl ?_;refine sa rfl rfl ?_;refine st_nil ?_;refine aw_seq ?_;refine aw_region [.p, .p] ?_;refine sm rfl rfl ?_;refine su (eff_neq rfl rfl rfl) rfl ?_;refine st_nil ?_;refine aw_cond _ rfl (fun h1 => ?_) (fun h1 => ?_)
 ·replace h1 : (decide ((s84 [(s85 a0.Before 0 720), (s85 a0.After 0 720), (s85 a0.Notice 0 365), (s85 a0.Share 1 100), (s86 (decide (16 < (List.length a0.Causes : Int))) 5)]) ≠ 0)) = true := h1;replace hR := condT hR h1;(try simp only [bB] at h1);refine aw_seq ?_;refine aw_region [.p, .p] ?_;refine sm rfl rfl ?_;refine sa rfl rfl ?_;refine st_nil ?_;refine aw_ret ?_;subst hR;exact res_c rfl (rv_g rfl)
 ·replace h1 : (decide ((s84 [(s85 a0.Before 0 720), (s85 a0.After 0 720), (s85 a0.Notice 0 365), (s85 a0.Share 1 100), (s86 (decide (16 < (List.length a0.Causes : Int))) 5)]) ≠ 0)) = false := h1;replace hR := condF hR h1;(try simp only [bB] at h1);refine aw_skip ?_;refine aw_seq ?_;refine aw_seq ?_;refine aw_region [.p, .p, .p, .p] ?_;refine su (eff_fieldAddr rfl fl24_4 rfl) rfl ?_;refine su (eff_load rfl ty22 rfl) rfl ?_;refine su (eff_lenM (f := cStr) (l := a0.Causes) rfl Tryz.underlying45 rfl) rfl ?_;refine sm rfl rfl ?_;refine st_nil ?_;refine aw_block ?_;refine aw_loop_g (γ := Nat × (List ByteArray)) (fun g => ([(1, .g (G.ref [G.int a0.Before, G.int a0.After, G.int a0.Notice, G.int a0.Share, G.sl 1 (List.map cStr a0.Causes), G.int a0.Off, G.int a0.Run])), (30, .g (G.sl 1 (List.map cStr a0.Causes))), (31, .g (G.int (List.length a0.Causes : Int))), (32, .g (G.int ((g.1 : Nat) : Int)))], [])) (fun g => a0.Causes.drop g.1 = g.2 ∧ s23_l1 a0 g.2 g.1 = R) (fun g => List.length g.2) ⟨rfl, (0, a0.Causes), ⟨rfl, rfl, rfl, rfl, trivial⟩, trivial, rfl, ⟨rfl, hR⟩, trivial⟩ ?_
  ·rintro ⟨k2, t4⟩ ⟨hd, hR⟩;replace hd : a0.Causes.drop k2 = t4 := hd;replace hR : s23_l1 a0 t4 k2 = R := hR;refine aw_seq ?_;refine aw_region [.p] ?_;refine su (eff_lss rfl rfl rfl) rfl ?_;refine st_nil ?_;refine len_sl (f := cStr) (l := a0.Causes) 30 rfl fun hlz1 => ?_;refine aw_seq ?_;refine aw_cond _ rfl (fun h2 => ?_) (fun h2 => ?_)
   ·replace h2 : (decide (((k2 : Nat) : Int) < (List.length a0.Causes : Int))) = true := h2;obtain ⟨y3, t4, rfl, hx1, hd⟩ := drop_cons hd (decT h2);replace h2 := decT h2;rw [s23_l1] at hR;(try dsimp only at hR);refine aw_skip ?_;refine aw_seq ?_;refine aw_block ?_;refine aw_seq ?_;refine aw_region [.p, .p, .p, .p, .p] ?_;refine sm rfl rfl ?_;refine su (eff_ix (f := cStr) (l := a0.Causes) (a := y3) rfl Tryz.underlying45 ty9 rfl rfl (Int.natCast_nonneg _) hx1) rfl ?_;refine su (eff_load rfl ty9 rfl) rfl ?_;refine sa rfl rfl ?_;refine sa rfl rfl ?_;refine st_nil ?_;refine aw_seq ?_;refine aw_draw [.p, .p, .p, .p, .p, .p, .p, .p, .p, .p, .p, .p] (by kernel_rfl) ?_;refine sm rfl rfl ?_;refine su (eff_call rfl K87 rfl (c87 y3) (ag_cons rfl ag_nil)) rfl ?_;refine su (eff_fieldAddr rfl fl24_4 rfl) rfl ?_;refine su (eff_load rfl ty22 rfl) rfl ?_;refine sm rfl rfl ?_;refine su (eff_slG (f := cStr) (l := a0.Causes) rfl Tryz.underlying45 ty9 rfl bnd_none (bnd_some rfl (Int.natCast_nonneg _)) (Nat.zero_le _) (le_get hx1)) rfl ?_;refine sm rfl rfl ?_;refine su (eff_call rfl K88 rfl (c88 (List.take (Int.toNat ((k2 : Nat) : Int)) a0.Causes) y3) (ag_cons rfl (ag_cons rfl ag_nil))) rfl ?_;refine su (eff_call rfl K86 rfl (c86 (s88 (List.take (Int.toNat ((k2 : Nat) : Int)) a0.Causes) y3) 9) (ag_cons rfl (ag_cons rfl ag_nil))) rfl ?_;refine su (eff_buildSlice rfl Tryz.underlying156 ty37 z37 rfl (ps_cons rfl (ps_cons rfl ps_nil)) rfl (by simp []) (by decide)) rfl ?_;refine su (eff_call rfl K84 rfl (c84 [(s87 y3), (s86 (s88 (List.take (Int.toNat ((k2 : Nat) : Int)) a0.Causes) y3) 9)]) (ag_cons rfl ag_nil)) rfl ?_;refine sa rfl rfl ?_;refine st_nil ?_;refine aw_seq ?_;refine aw_region [.p, .p] ?_;refine sm rfl rfl ?_;refine su (eff_neq rfl rfl rfl) rfl ?_;refine st_nil ?_;refine aw_cond _ rfl (fun h4 => ?_) (fun h4 => ?_)
    ·replace h4 : (decide ((s84 [(s87 y3), (s86 (s88 (List.take (Int.toNat ((k2 : Nat) : Int)) a0.Causes) y3) 9)]) ≠ 0)) = true := h4;replace hR := condT hR h4;(try simp only [bB] at h4);refine aw_seq ?_;refine aw_region [.p, .p] ?_;refine sm rfl rfl ?_;refine sa rfl rfl ?_;refine st_nil ?_;refine aw_ret ?_;subst hR;exact res_c rfl (rv_g rfl)
    ·replace h4 : (decide ((s84 [(s87 y3), (s86 (s88 (List.take (Int.toNat ((k2 : Nat) : Int)) a0.Causes) y3) 9)]) ≠ 0)) = false := h4;replace hR := condF hR h4;(try simp only [bB] at h4);refine aw_skip ?_;refine aw_region [.p, .p] ?_;refine su (eff_add rfl rfl rfl iE) rfl ?_;refine sm rfl rfl ?_;refine st_nil ?_;exact ⟨rfl, (k2 + 1, t4), ⟨rfl, rfl, rfl, rfl, trivial⟩, trivial, rfl, ⟨hd, hR⟩, by simp⟩
   ·replace h2 : (decide (((k2 : Nat) : Int) < (List.length a0.Causes : Int))) = false := h2;obtain rfl := drop_nil hd (decF h2);rw [s23_l1] at hR;refine aw_exit ?_;refine aw_seq ?_;refine aw_draw [.p, .p, .p, .p, .p, .p, .p, .p, .p] (by kernel_rfl) ?_;refine su (eff_fieldAddr rfl fl24_5 rfl) rfl ?_;refine su (eff_load rfl ty3 rfl) rfl ?_;refine su (eff_call rfl K85 rfl (c85 a0.Off 0 720) (ag_cons rfl (ag_cons rfl (ag_cons rfl ag_nil)))) rfl ?_;refine su (eff_fieldAddr rfl fl24_6 rfl) rfl ?_;refine su (eff_load rfl ty3 rfl) rfl ?_;refine su (eff_call rfl K85 rfl (c85 a0.Run 1 512) (ag_cons rfl (ag_cons rfl (ag_cons rfl ag_nil)))) rfl ?_;refine su (eff_buildSlice rfl Tryz.underlying156 ty37 z37 rfl (ps_cons rfl (ps_cons rfl ps_nil)) rfl (by simp []) (by decide)) rfl ?_;refine su (eff_call rfl K84 rfl (c84 [(s85 a0.Off 0 720), (s85 a0.Run 1 512)]) (ag_cons rfl ag_nil)) rfl ?_;refine sa rfl rfl ?_;refine st_nil ?_;refine aw_ret ?_;subst hR;exact res_c rfl (rv_g rfl)
def s187 (a0 : Int) (a1 : Int) : Bool :=
 decide (andI (shrI a0 a1) 1 = 1)
theorem c187 {g : List (Nat × List Value)} (a0 : Int) (a1 : Int)  (hw : 0 ≤ a1)  : Con (EG g) 93 [G.int a0, G.int a1] (G.bool (s187 a0 a1)) := by
 generalize hR : s187 a0 a1 = R;unfold s187 at hR;refine con_of_aw Tryz.func93 rfl rfl fun w0 M0 => ?_;refine aw_seq ?_;refine aw_region [.p] ?_;refine sa rfl rfl ?_;refine st_nil ?_;refine aw_seq ?_;refine aw_region [.p, .p, .p, .p, .p, .p] ?_;refine sm rfl rfl ?_;refine sm rfl rfl ?_;refine su (eff_shr rfl rfl rfl (by omega)) rfl ?_;refine su (eff_and2 rfl rfl rfl) rfl ?_;refine su (eff_eql rfl rfl rfl) rfl ?_;refine sa rfl rfl ?_;refine st_nil ?_;refine aw_ret ?_;subst hR;exact res_c rfl (rv_g rfl)
def s188 (a0 : Int) : Int :=
 Int.tmod (IntKind.i64.wrap (a0 + 5)) 7
theorem c188 {g : List (Nat × List Value)} (a0 : Int)    : Con (EG g) 83 [G.int a0] (G.int (s188 a0)) := by
 generalize hR : s188 a0 = R;unfold s188 at hR;refine con_of_aw Tryz.func83 rfl rfl fun w0 M0 => ?_;refine aw_seq ?_;refine aw_region [.p] ?_;refine sa rfl rfl ?_;refine st_nil ?_;refine aw_seq ?_;refine aw_region [.p, .p, .p, .p] ?_;refine sm rfl rfl ?_;refine su (eff_addw rfl rfl rfl) rfl ?_;refine su (eff_remt rfl rfl rfl (by decide)) rfl ?_;refine sa rfl rfl ?_;refine st_nil ?_;refine aw_ret ?_;subst hR;exact res_c rfl (rv_g rfl)
def s153 (a0 : Int) : Int :=
 (s155 a0 0 99999)
theorem c153 {g : List (Nat × List Value)} (a0 : Int)    : Con (EG g) 74 [G.int a0] (G.int (s153 a0)) := by
 generalize hR : s153 a0 = R;unfold s153 at hR;refine con_of_aw Tryz.func74 rfl rfl fun w0 M0 => ?_;refine aw_seq ?_;refine aw_region [.p] ?_;refine sa rfl rfl ?_;refine st_nil ?_;refine aw_seq ?_;refine aw_region [.p, .p, .p] ?_;refine sm rfl rfl ?_;refine su (eff_call rfl K155 rfl (c155 a0 0 99999) (ag_cons rfl (ag_cons rfl (ag_cons rfl ag_nil)))) rfl ?_;refine sa rfl rfl ?_;refine st_nil ?_;refine aw_ret ?_;subst hR;exact res_c rfl (rv_g rfl)
def s102 (a0 : S45) : Int :=
 (bif decide ((s152 [(s153 a0.fFrom), (s153 a0.fTo)]) ≠ 0) then (s152 [(s153 a0.fFrom), (s153 a0.fTo)]) else (s152 [(s154 (decide (a0.fTo < a0.fFrom)) 11), (s154 (decide (400 < IntKind.i64.wrap (a0.fTo - a0.fFrom))) 4), (s155 a0.Days 1 127)]))
theorem c102 {g : List (Nat × List Value)} (a0 : S45)    : Con (EG g) 33 [G.agg [G.int a0.fFrom, G.int a0.fTo, G.int a0.Days]] (G.int (s102 a0)) := by
 generalize hR : s102 a0 = R;unfold s102 at hR;refine con_of_aw Tryz.func33 rfl rfl fun w0 M0 => ?_;refine aw_seq ?_;refine aw_region [.p, .p] ?_;refine su (eff_box rfl rfl) rfl ?_;refine sa rfl rfl ?_;refine st_nil ?_;refine aw_seq ?_;refine aw_seq ?_;refine aw_draw [.p, .p, .p, .p, .p, .p, .p, .p, .p] (by kernel_rfl) ?_;refine su (eff_fieldAddr rfl fl46_0 rfl) rfl ?_;refine su (eff_load rfl ty3 rfl) rfl ?_;refine su (eff_call rfl K153 rfl (c153 a0.fFrom) (ag_cons rfl ag_nil)) rfl ?_;refine su (eff_fieldAddr rfl fl46_1 rfl) rfl ?_;refine su (eff_load rfl ty3 rfl) rfl ?_;refine su (eff_call rfl K153 rfl (c153 a0.fTo) (ag_cons rfl ag_nil)) rfl ?_;refine su (eff_buildSlice rfl Tryz.underlying156 ty37 z37 rfl (ps_cons rfl (ps_cons rfl ps_nil)) rfl (by simp []) (by decide)) rfl ?_;refine su (eff_call rfl K152 rfl (c152 [(s153 a0.fFrom), (s153 a0.fTo)]) (ag_cons rfl ag_nil)) rfl ?_;refine sa rfl rfl ?_;refine st_nil ?_;refine aw_seq ?_;refine aw_region [.p, .p] ?_;refine sm rfl rfl ?_;refine su (eff_neq rfl rfl rfl) rfl ?_;refine st_nil ?_;refine aw_cond _ rfl (fun h1 => ?_) (fun h1 => ?_)
 ·replace h1 : (decide ((s152 [(s153 a0.fFrom), (s153 a0.fTo)]) ≠ 0)) = true := h1;replace hR := condT hR h1;(try simp only [bB] at h1);refine aw_seq ?_;refine aw_region [.p, .p] ?_;refine sm rfl rfl ?_;refine sa rfl rfl ?_;refine st_nil ?_;refine aw_ret ?_;subst hR;exact res_c rfl (rv_g rfl)
 ·replace h1 : (decide ((s152 [(s153 a0.fFrom), (s153 a0.fTo)]) ≠ 0)) = false := h1;replace hR := condF hR h1;(try simp only [bB] at h1);refine aw_skip ?_;refine aw_seq ?_;refine aw_draw [.p, .p, .p, .p, .p, .p, .p, .p, .p, .p, .p, .p, .p, .p, .p, .p, .p, .p, .p] (by kernel_rfl) ?_;refine su (eff_fieldAddr rfl fl46_1 rfl) rfl ?_;refine su (eff_load rfl ty3 rfl) rfl ?_;refine su (eff_fieldAddr rfl fl46_0 rfl) rfl ?_;refine su (eff_load rfl ty3 rfl) rfl ?_;refine su (eff_lss rfl rfl rfl) rfl ?_;refine su (eff_call rfl K154 rfl (c154 (decide (a0.fTo < a0.fFrom)) 11) (ag_cons rfl (ag_cons rfl ag_nil))) rfl ?_;refine su (eff_fieldAddr rfl fl46_1 rfl) rfl ?_;refine su (eff_load rfl ty3 rfl) rfl ?_;refine su (eff_fieldAddr rfl fl46_0 rfl) rfl ?_;refine su (eff_load rfl ty3 rfl) rfl ?_;refine su (eff_subw rfl rfl rfl) rfl ?_;refine su (eff_gtr rfl rfl rfl) rfl ?_;refine su (eff_call rfl K154 rfl (c154 (decide (400 < IntKind.i64.wrap (a0.fTo - a0.fFrom))) 4) (ag_cons rfl (ag_cons rfl ag_nil))) rfl ?_;refine su (eff_fieldAddr rfl fl46_2 rfl) rfl ?_;refine su (eff_load rfl ty3 rfl) rfl ?_;refine su (eff_call rfl K155 rfl (c155 a0.Days 1 127) (ag_cons rfl (ag_cons rfl (ag_cons rfl ag_nil)))) rfl ?_;refine su (eff_buildSlice rfl Tryz.underlying156 ty37 z37 rfl (ps_cons rfl (ps_cons rfl (ps_cons rfl ps_nil))) rfl (by simp []) (by decide)) rfl ?_;refine su (eff_call rfl K152 rfl (c152 [(s154 (decide (a0.fTo < a0.fFrom)) 11), (s154 (decide (400 < IntKind.i64.wrap (a0.fTo - a0.fFrom))) 4), (s155 a0.Days 1 127)]) (ag_cons rfl ag_nil)) rfl ?_;refine sa rfl rfl ?_;refine st_nil ?_;refine aw_ret ?_;subst hR;exact res_c rfl (rv_g rfl)
end Go.Sim
set_option maxRecDepth 10000
namespace Go.Sim
open Go.Proofs
def s99 (a0 : S104) : Int :=
 (bif !(s88 [⟨#[102, 108, 121]⟩, ⟨#[98, 97, 99, 107]⟩, ⟨#[99, 97, 110, 99, 101, 108]⟩, ⟨#[119, 101, 97, 116, 104, 101, 114]⟩] a0.Kind) then 13 else (s84 [(s150 ((s149 a0.Kind).1) (s87 a0.Name)), (s150 ((s149 a0.Kind).2.1) (s85 a0.Moment 0 143999999)), (s150 ((s149 a0.Kind).2.1) (s101 a0.Move)), (s150 ((s149 a0.Kind).2.2.1) (s151 a0.fFrom)), (s150 ((s149 a0.Kind).2.2.1) (s151 a0.fTo)), (s150 ((s149 a0.Kind).2.2.1) (s86 (decide (a0.fTo < a0.fFrom)) 11)), (s150 ((s149 a0.Kind).2.2.2.1) (s87 a0.Cause)), (s150 ((s149 a0.Kind).2.2.2.2) (s151 a0.Told)), (s86 ((((((!((s149 a0.Kind).1)) && (!decide (a0.Name = (⟨#[]⟩)))) || ((!((s149 a0.Kind).2.1)) && ((decide (a0.Moment ≠ 0)) || (!decide (a0.Move = (⟨#[]⟩)))))) || ((!((s149 a0.Kind).2.2.1)) && ((decide (a0.fFrom ≠ 0)) || (decide (a0.fTo ≠ 0))))) || ((!((s149 a0.Kind).2.2.2.1)) && (!decide (a0.Cause = (⟨#[]⟩))))) || ((!((s149 a0.Kind).2.2.2.2)) && (decide (a0.Told ≠ 0)))) 1)]))
theorem c99 {g : List (Nat × List Value)} (a0 : S104)    : Con (EG g) 91 [G.agg [G.str a0.Kind, G.str a0.Name, G.int a0.Moment, G.str a0.Move, G.int a0.fFrom, G.int a0.fTo, G.str a0.Cause, G.int a0.Told]] (G.int (s99 a0)) := by
 generalize hR : s99 a0 = R;unfold s99 at hR;refine con_of_aw Tryz.func91 rfl rfl fun w0 M0 => ?_;refine aw_seq ?_;refine aw_region [.p, .p] ?_;refine su (eff_box rfl rfl) rfl ?_;refine sa rfl rfl ?_;refine st_nil ?_;refine aw_seq ?_;refine aw_seq ?_;refine aw_region [.p, .p, .p, .p, .p] ?_;refine su (eff_buildSlice rfl Tryz.underlying45 ty9 z9 rfl (ps_cons rfl (ps_cons rfl (ps_cons rfl (ps_cons rfl ps_nil)))) rfl (by simp []) (by decide)) rfl ?_;refine su (eff_fieldAddr rfl fl105_0 rfl) rfl ?_;refine su (eff_load rfl ty9 rfl) rfl ?_;refine su (eff_call rfl K88 rfl (c88 [⟨#[102, 108, 121]⟩, ⟨#[98, 97, 99, 107]⟩, ⟨#[99, 97, 110, 99, 101, 108]⟩, ⟨#[119, 101, 97, 116, 104, 101, 114]⟩] a0.Kind) (ag_cons rfl (ag_cons rfl ag_nil))) rfl ?_;refine su (eff_not rfl rfl) rfl ?_;refine st_nil ?_;refine aw_cond _ rfl (fun h1 => ?_) (fun h1 => ?_)
 ·replace h1 : (!(s88 [⟨#[102, 108, 121]⟩, ⟨#[98, 97, 99, 107]⟩, ⟨#[99, 97, 110, 99, 101, 108]⟩, ⟨#[119, 101, 97, 116, 104, 101, 114]⟩] a0.Kind)) = true := h1;replace hR := condT hR h1;(try simp only [bB] at h1);refine aw_seq ?_;refine aw_region [.p] ?_;refine sa rfl rfl ?_;refine st_nil ?_;refine aw_ret ?_;subst hR;exact res_c rfl (rv_g rfl)
 ·replace h1 : (!(s88 [⟨#[102, 108, 121]⟩, ⟨#[98, 97, 99, 107]⟩, ⟨#[99, 97, 110, 99, 101, 108]⟩, ⟨#[119, 101, 97, 116, 104, 101, 114]⟩] a0.Kind)) = false := h1;replace hR := condF hR h1;(try simp only [bB] at h1);refine aw_skip ?_;refine aw_seq ?_;refine aw_region [.p, .p, .p, .p, .p, .p, .p, .p, .p, .p, .p, .p, .p, .p] ?_;refine su (eff_fieldAddr rfl fl105_0 rfl) rfl ?_;refine su (eff_load rfl ty9 rfl) rfl ?_;refine su (eff_call rfl K149 rfl (c149 a0.Kind) (ag_cons rfl ag_nil)) rfl ?_;refine sm rfl rfl ?_;refine su (eff_extract rfl rfl rfl) rfl ?_;refine su (eff_extract rfl rfl rfl) rfl ?_;refine su (eff_extract rfl rfl rfl) rfl ?_;refine su (eff_extract rfl rfl rfl) rfl ?_;refine su (eff_extract rfl rfl rfl) rfl ?_;refine sa rfl rfl ?_;refine sa rfl rfl ?_;refine sa rfl rfl ?_;refine sa rfl rfl ?_;refine sa rfl rfl ?_;refine st_nil ?_;refine aw_seq ?_;refine aw_region [.p, .p, .p, .p, .p, .p, .p, .p, .p, .p, .p, .p, .p, .p, .p, .p, .p, .p, .p, .p, .p, .p, .p, .p, .p, .p, .p, .p, .p, .p, .p, .p, .p, .p, .p, .p, .p, .p, .p, .p, .p, .p, .p, .p, .p, .p, .p, .p, .p, .p, .p, .p, .p, .p] ?_;refine sm rfl rfl ?_;refine su (eff_not rfl rfl) rfl ?_;refine sm rfl rfl ?_;refine sg rfl rfl (fun h => eff_fieldAddr rfl fl105_1 rfl) rfl ?_;refine sg rfl rfl (fun h => eff_load rfl ty9 (gd h rfl)) rfl ?_;refine sg rfl rfl (fun h => eff_sne rfl (gd h rfl) rfl) rfl ?_;refine su (eff_and rfl rfl rfl rfl) rfl ?_;refine sm rfl rfl ?_;refine sg rfl rfl (fun h => eff_moveg rfl rfl) rfl ?_;refine sg rfl rfl (fun h => eff_not rfl (gd h rfl)) rfl ?_;refine sg rfl rfl (fun h => eff_moveg rfl (gd h rfl)) rfl ?_;refine st_g rfl rfl rfl (gb_if _ _ _) (fun h => eff_fieldAddr rfl fl105_2 rfl) rfl ?_;refine st_g rfl rfl rfl (gb_if _ _ _) (fun h => eff_load rfl ty3 (gd h rfl)) rfl ?_;refine st_g rfl rfl rfl (gb_if _ _ _) (fun h => eff_neq rfl (gd h rfl) rfl) rfl ?_;refine st_g rfl rfl rfl (gb_if _ _ _) (fun h => eff_moveg rfl (gd h rfl)) rfl ?_;refine st_g rfl rfl rfl (gb_if _ _ _) (fun h => eff_fieldAddr rfl fl105_3 rfl) rfl ?_;refine st_g rfl rfl rfl (gb_if _ _ _) (fun h => eff_load rfl ty9 (gd h rfl)) rfl ?_;refine st_g rfl rfl rfl (gb_if _ _ _) (fun h => eff_sne rfl (gd h rfl) rfl) rfl ?_;refine st_g rfl rfl rfl (gb_if _ _ _) (fun h => eff_or rfl (gd h rfl) rfl (gd2 h rfl)) rfl ?_;refine sg rfl rfl (fun h => eff_and rfl (gd h rfl) rfl (gd2 h rfl)) rfl ?_;refine su (eff_or rfl rfl rfl rfl) rfl ?_;refine sm rfl rfl ?_;refine sg rfl rfl (fun h => eff_moveg rfl rfl) rfl ?_;refine sg rfl rfl (fun h => eff_not rfl (gd h rfl)) rfl ?_;refine sg rfl rfl (fun h => eff_moveg rfl (gd h rfl)) rfl ?_;refine st_g rfl rfl rfl (gb_if _ _ _) (fun h => eff_fieldAddr rfl fl105_4 rfl) rfl ?_;refine st_g rfl rfl rfl (gb_if _ _ _) (fun h => eff_load rfl ty3 (gd h rfl)) rfl ?_;refine st_g rfl rfl rfl (gb_if _ _ _) (fun h => eff_neq rfl (gd h rfl) rfl) rfl ?_;refine st_g rfl rfl rfl (gb_if _ _ _) (fun h => eff_moveg rfl (gd h rfl)) rfl ?_;refine st_g rfl rfl rfl (gb_if _ _ _) (fun h => eff_fieldAddr rfl fl105_5 rfl) rfl ?_;refine st_g rfl rfl rfl (gb_if _ _ _) (fun h => eff_load rfl ty3 (gd h rfl)) rfl ?_;refine st_g rfl rfl rfl (gb_if _ _ _) (fun h => eff_neq rfl (gd h rfl) rfl) rfl ?_;refine st_g rfl rfl rfl (gb_if _ _ _) (fun h => eff_or rfl (gd h rfl) rfl (gd2 h rfl)) rfl ?_;refine sg rfl rfl (fun h => eff_and rfl (gd h rfl) rfl (gd2 h rfl)) rfl ?_;refine su (eff_or rfl rfl rfl rfl) rfl ?_;refine sm rfl rfl ?_;refine sg rfl rfl (fun h => eff_moveg rfl rfl) rfl ?_;refine sg rfl rfl (fun h => eff_not rfl (gd h rfl)) rfl ?_;refine sg rfl rfl (fun h => eff_moveg rfl (gd h rfl)) rfl ?_;refine st_g rfl rfl rfl (gb_if _ _ _) (fun h => eff_fieldAddr rfl fl105_6 rfl) rfl ?_;refine st_g rfl rfl rfl (gb_if _ _ _) (fun h => eff_load rfl ty9 (gd h rfl)) rfl ?_;refine st_g rfl rfl rfl (gb_if _ _ _) (fun h => eff_sne rfl (gd h rfl) rfl) rfl ?_;refine sg rfl rfl (fun h => eff_and rfl (gd h rfl) rfl (gd2 h rfl)) rfl ?_;refine su (eff_or rfl rfl rfl rfl) rfl ?_;refine sm rfl rfl ?_;refine sg rfl rfl (fun h => eff_moveg rfl rfl) rfl ?_;refine sg rfl rfl (fun h => eff_not rfl (gd h rfl)) rfl ?_;refine sg rfl rfl (fun h => eff_moveg rfl (gd h rfl)) rfl ?_;refine st_g rfl rfl rfl (gb_if _ _ _) (fun h => eff_fieldAddr rfl fl105_7 rfl) rfl ?_;refine st_g rfl rfl rfl (gb_if _ _ _) (fun h => eff_load rfl ty3 (gd h rfl)) rfl ?_;refine st_g rfl rfl rfl (gb_if _ _ _) (fun h => eff_neq rfl (gd h rfl) rfl) rfl ?_;refine sg rfl rfl (fun h => eff_and rfl (gd h rfl) rfl (gd2 h rfl)) rfl ?_;refine su (eff_or rfl rfl rfl rfl) rfl ?_;refine sa rfl rfl ?_;refine st_nil ?_;refine aw_seq ?_;refine aw_draw [.p, .p, .p, .p, .p, .p, .p, .p, .p, .p, .p, .p, .p, .p, .p, .p, .p, .p, .p, .p, .p, .p, .p, .p, .p, .p, .p, .p, .p, .p, .p, .p, .p, .p, .p, .p, .p, .p, .p, .p, .p, .p, .p, .p, .p, .p, .p, .p] (by kernel_rfl) ?_;refine sm rfl rfl ?_;refine su (eff_fieldAddr rfl fl105_1 rfl) rfl ?_;refine su (eff_load rfl ty9 rfl) rfl ?_;refine su (eff_call rfl K87 rfl (c87 a0.Name) (ag_cons rfl ag_nil)) rfl ?_;refine su (eff_call rfl K150 rfl (c150 ((s149 a0.Kind).1) (s87 a0.Name)) (ag_cons rfl (ag_cons rfl ag_nil))) rfl ?_;refine sm rfl rfl ?_;refine su (eff_fieldAddr rfl fl105_2 rfl) rfl ?_;refine su (eff_load rfl ty3 rfl) rfl ?_;refine su (eff_call rfl K85 rfl (c85 a0.Moment 0 143999999) (ag_cons rfl (ag_cons rfl (ag_cons rfl ag_nil)))) rfl ?_;refine su (eff_call rfl K150 rfl (c150 ((s149 a0.Kind).2.1) (s85 a0.Moment 0 143999999)) (ag_cons rfl (ag_cons rfl ag_nil))) rfl ?_;refine sm rfl rfl ?_;refine su (eff_fieldAddr rfl fl105_3 rfl) rfl ?_;refine su (eff_load rfl ty9 rfl) rfl ?_;refine su (eff_call rfl K101 rfl (c101 a0.Move) (ag_cons rfl ag_nil)) rfl ?_;refine su (eff_call rfl K150 rfl (c150 ((s149 a0.Kind).2.1) (s101 a0.Move)) (ag_cons rfl (ag_cons rfl ag_nil))) rfl ?_;refine sm rfl rfl ?_;refine su (eff_fieldAddr rfl fl105_4 rfl) rfl ?_;refine su (eff_load rfl ty3 rfl) rfl ?_;refine su (eff_call rfl K151 rfl (c151 a0.fFrom) (ag_cons rfl ag_nil)) rfl ?_;refine su (eff_call rfl K150 rfl (c150 ((s149 a0.Kind).2.2.1) (s151 a0.fFrom)) (ag_cons rfl (ag_cons rfl ag_nil))) rfl ?_;refine sm rfl rfl ?_;refine su (eff_fieldAddr rfl fl105_5 rfl) rfl ?_;refine su (eff_load rfl ty3 rfl) rfl ?_;refine su (eff_call rfl K151 rfl (c151 a0.fTo) (ag_cons rfl ag_nil)) rfl ?_;refine su (eff_call rfl K150 rfl (c150 ((s149 a0.Kind).2.2.1) (s151 a0.fTo)) (ag_cons rfl (ag_cons rfl ag_nil))) rfl ?_;refine sm rfl rfl ?_;refine su (eff_fieldAddr rfl fl105_5 rfl) rfl ?_;refine su (eff_load rfl ty3 rfl) rfl ?_;refine su (eff_fieldAddr rfl fl105_4 rfl) rfl ?_;refine su (eff_load rfl ty3 rfl) rfl ?_;refine su (eff_lss rfl rfl rfl) rfl ?_;refine su (eff_call rfl K86 rfl (c86 (decide (a0.fTo < a0.fFrom)) 11) (ag_cons rfl (ag_cons rfl ag_nil))) rfl ?_;refine su (eff_call rfl K150 rfl (c150 ((s149 a0.Kind).2.2.1) (s86 (decide (a0.fTo < a0.fFrom)) 11)) (ag_cons rfl (ag_cons rfl ag_nil))) rfl ?_;refine sm rfl rfl ?_;refine su (eff_fieldAddr rfl fl105_6 rfl) rfl ?_;refine su (eff_load rfl ty9 rfl) rfl ?_;refine su (eff_call rfl K87 rfl (c87 a0.Cause) (ag_cons rfl ag_nil)) rfl ?_;refine su (eff_call rfl K150 rfl (c150 ((s149 a0.Kind).2.2.2.1) (s87 a0.Cause)) (ag_cons rfl (ag_cons rfl ag_nil))) rfl ?_;refine sm rfl rfl ?_;refine su (eff_fieldAddr rfl fl105_7 rfl) rfl ?_;refine su (eff_load rfl ty3 rfl) rfl ?_;refine su (eff_call rfl K151 rfl (c151 a0.Told) (ag_cons rfl ag_nil)) rfl ?_;refine su (eff_call rfl K150 rfl (c150 ((s149 a0.Kind).2.2.2.2) (s151 a0.Told)) (ag_cons rfl (ag_cons rfl ag_nil))) rfl ?_;refine sm rfl rfl ?_;refine su (eff_call rfl K86 rfl (c86 ((((((!((s149 a0.Kind).1)) && (!decide (a0.Name = (⟨#[]⟩)))) || ((!((s149 a0.Kind).2.1)) && ((decide (a0.Moment ≠ 0)) || (!decide (a0.Move = (⟨#[]⟩)))))) || ((!((s149 a0.Kind).2.2.1)) && ((decide (a0.fFrom ≠ 0)) || (decide (a0.fTo ≠ 0))))) || ((!((s149 a0.Kind).2.2.2.1)) && (!decide (a0.Cause = (⟨#[]⟩))))) || ((!((s149 a0.Kind).2.2.2.2)) && (decide (a0.Told ≠ 0)))) 1) (ag_cons rfl (ag_cons rfl ag_nil))) rfl ?_;refine su (eff_buildSlice rfl Tryz.underlying156 ty37 z37 rfl (ps_cons rfl (ps_cons rfl (ps_cons rfl (ps_cons rfl (ps_cons rfl (ps_cons rfl (ps_cons rfl (ps_cons rfl (ps_cons rfl ps_nil))))))))) rfl (by simp []) (by decide)) rfl ?_;refine su (eff_call rfl K84 rfl (c84 [(s150 ((s149 a0.Kind).1) (s87 a0.Name)), (s150 ((s149 a0.Kind).2.1) (s85 a0.Moment 0 143999999)), (s150 ((s149 a0.Kind).2.1) (s101 a0.Move)), (s150 ((s149 a0.Kind).2.2.1) (s151 a0.fFrom)), (s150 ((s149 a0.Kind).2.2.1) (s151 a0.fTo)), (s150 ((s149 a0.Kind).2.2.1) (s86 (decide (a0.fTo < a0.fFrom)) 11)), (s150 ((s149 a0.Kind).2.2.2.1) (s87 a0.Cause)), (s150 ((s149 a0.Kind).2.2.2.2) (s151 a0.Told)), (s86 ((((((!((s149 a0.Kind).1)) && (!decide (a0.Name = (⟨#[]⟩)))) || ((!((s149 a0.Kind).2.1)) && ((decide (a0.Moment ≠ 0)) || (!decide (a0.Move = (⟨#[]⟩)))))) || ((!((s149 a0.Kind).2.2.1)) && ((decide (a0.fFrom ≠ 0)) || (decide (a0.fTo ≠ 0))))) || ((!((s149 a0.Kind).2.2.2.1)) && (!decide (a0.Cause = (⟨#[]⟩))))) || ((!((s149 a0.Kind).2.2.2.2)) && (decide (a0.Told ≠ 0)))) 1)]) (ag_cons rfl ag_nil)) rfl ?_;refine sa rfl rfl ?_;refine st_nil ?_;refine aw_ret ?_;subst hR;exact res_c rfl (rv_g rfl)
def s27 (a0 : List S104) : Int :=
 (bif decide (512 < (List.length a0 : Int)) then 5 else (s84 (s98 a0 s99)))
theorem c27 {g : List (Nat × List Value)} (a0 : List S104)    : Con (EG g) 45 [G.sl 8 (List.map S104.c a0)] (G.int (s27 a0)) := by
 generalize hR : s27 a0 = R;unfold s27 at hR;refine con_of_aw Tryz.func45 rfl rfl fun w0 M0 => ?_;refine len_sl (f := S104.c) (l := a0) 0 rfl fun hla0 => ?_;refine aw_seq ?_;refine aw_region [.p] ?_;refine sa rfl rfl ?_;refine st_nil ?_;refine aw_seq ?_;refine aw_seq ?_;refine aw_region [.p, .p, .p] ?_;refine sm rfl rfl ?_;refine su (eff_lenM (f := S104.c) (l := a0) rfl Tryz.underlying24 rfl) rfl ?_;refine su (eff_gtr rfl rfl rfl) rfl ?_;refine st_nil ?_;refine aw_cond _ rfl (fun h1 => ?_) (fun h1 => ?_)
 ·replace h1 : (decide (512 < (List.length a0 : Int))) = true := h1;replace hR := condT hR h1;(try simp only [bB] at h1);refine aw_seq ?_;refine aw_region [.p] ?_;refine sa rfl rfl ?_;refine st_nil ?_;refine aw_ret ?_;subst hR;exact res_c rfl (rv_g rfl)
 ·replace h1 : (decide (512 < (List.length a0 : Int))) = false := h1;replace hR := condF hR h1;(try simp only [bB] at h1);refine aw_skip ?_;refine aw_seq ?_;refine aw_region [.p, .p, .p, .p] ?_;refine sm rfl rfl ?_;refine su (eff_call rfl K98 rfl (c98 a0 s99 fnis_lit K99 (fun x0 => c99 x0) iA) (ag_cons rfl (ag_cons rfl ag_nil))) rfl ?_;refine su (eff_call rfl K84 rfl (c84 (s98 a0 s99)) (ag_cons rfl ag_nil)) rfl ?_;refine sa rfl rfl ?_;refine st_nil ?_;refine aw_ret ?_;subst hR;exact res_c rfl (rv_g rfl)
end Go.Sim
namespace Go.Proofs
open Go.RowKit Go.Shelf
attribute [local go_sem] Oper.semAt_some
theorem wd_any (d : Int) (h0 : 0 ≤ d) (h1 : d ≤ 1000000) (w : World) : Calls Tryz.prog 83 #[.int .i64 d] w fun e w' => e = .returned (.int .i64 ((d + 5) % 7)) ∧ w' = w := by
 go_enter Tryz.func83, Tryz.ntmps83
 go_wp2
 go_ret
 exact ⟨rfl, rfl⟩
theorem bits_and (a b : Int) : bits BinOp.and IntKind.i64 a b = Sim.andI a b := rfl
theorem shr_eq (m d : Int) (h0 : 0 ≤ d) (h1 : d ≤ 6) : m / 2 ^ d.toNat = Sim.shrI m d := by
 unfold Sim.shrI;rw [Nat.min_eq_left (by omega), Int.fdiv_eq_ediv_of_nonneg _ (by exact Int.le_of_lt (Int.pow_pos (by decide)))]
theorem im_any (m d : Int) (h0 : 0 ≤ d) (h1 : d ≤ 6) (w : World) : Calls Tryz.prog 93 #[.int .i64 m, .int .i64 d] w fun e w' => e = .returned (.bool (decide (Sim.andI (Sim.shrI m d) 1 = 1))) ∧ w' = w := by
 go_enter Tryz.func93, Tryz.ntmps93
 go_wp2
 go_ret
 refine ⟨?_, rfl⟩;rw [bits_and, shr_eq m d h0 h1];rw [show (Sim.andI (Sim.shrI m d) 1 == 1) = decide (Sim.andI (Sim.shrI m d) 1 = 1) by rw [Bool.eq_iff_iff]; simp]
 rfl
def inM (m d : Int) : Bool := decide (Sim.andI (Sim.shrI m ((d + 5) % 7)) 1 = 1)
def dayL (m : Int) : Nat → Int → List Int
 | 0, _ => []
 | n + 1, d => if inM m d = true then d :: dayL m n (d + 1) else dayL m n (d + 1)
theorem im_T (m d : Int) (hm : inM m d = true) (h0 : 0 ≤ d) (h1 : d ≤ 1000000) (w : World) : Calls Tryz.prog 93 #[.int .i64 m, .int .i64 ((d + 5) % 7)] w fun e w' => e = .returned (.bool true) ∧ w' = w :=
 (im_any m ((d + 5) % 7) (by omega) (by omega) w).mono fun e w' ⟨h, k⟩ => ⟨by rw [h]; unfold inM at hm; rw [hm], k⟩
theorem im_F (m d : Int) (hm : inM m d = false) (h0 : 0 ≤ d) (h1 : d ≤ 1000000) (w : World) : Calls Tryz.prog 93 #[.int .i64 m, .int .i64 ((d + 5) % 7)] w fun e w' => e = .returned (.bool false) ∧ w' = w :=
 (im_any m ((d + 5) % 7) (by omega) (by omega) w).mono fun e w' ⟨h, k⟩ => ⟨by rw [h]; unfold inM at hm; rw [hm], k⟩
set_option maxRecDepth 100000 in
set_option maxHeartbeats 1000000 in
theorem days1_in (F : Fence) (n : Nat) (h6 : F.fn 92) (h7 : F.fn 93) (h8 : F.fn 83) (hro : F.round = none) (hw : F = Fence.wide) (hn : 2 ≤ n) (l b o n₀ : Nat) (hb : b < n₀) (f t m : Int) (hf : 0 ≤ f) (ht : t ≤ 1000000) (J Jx : List Int → World → Prop) (hJd : ∀ pre W k, J pre W → J pre (W.drewN k))
  (hY : ∀ pre x W, J pre W → pre.length < (dayL m (t + 1 - f).toNat f).length → YieldAt F (n - 1) Tryz.prog l #[.int .i64 x] W fun e W' =>
   (e = .returned (.bool true) ∧ J (pre ++ [x]) W' ∧ Below n₀ W W') ∨ (e = .returned (.bool false) ∧ Jx (pre ++ [x]) W'))
  (W : World) (c0 : W.cell? ⟨b, o, none⟩ = some (.int .i64 f)) (c1 : W.cell? ⟨b, o + 1, none⟩ = some (.int .i64 t)) (c2 : W.cell? ⟨b, o + 2, none⟩ = some (.int .i64 m)) (h0 : J [] W) :
  CallsIn F n Tryz.prog 92 #[.func (.yield l) #[] #[], .pointer (some ⟨b, o, none⟩)] W fun e W' => (∃ v, e = .returned v) ∧
   ((∃ ys, ys = dayL m (t + 1 - f).toNat f ∧ J ys W') ∨ (∃ pre, pre <+: dayL m (t + 1 - f).toNat f ∧ Jx pre W')) := by
 refine callsIn_of_wp Tryz.func92 rfl h6 ?_ hro;simp only [Tryz.ntmps92, List.size_toArray, List.length_cons, List.length_nil, Nat.reduceAdd, Nat.reduceSub, Array.replicate_succ, Array.replicate_zero, List.push_toArray, List.append_toArray, List.nil_append, List.cons_append];subst hw
 gi_wp2
 gi_loopw [3] (fun p wr => ∃ (pre : List Int) (d : Int), p = .int .i64 d ∧ f ≤ d ∧ (d ≤ t + 1 ∨ d = f) ∧ dayL m (t + 1 - f).toNat f = pre ++ dayL m (t + 1 - d).toNat d ∧ wr.cell? ⟨b, o + 1, none⟩ = some (.int .i64 t) ∧ wr.cell? ⟨b, o + 2, none⟩ = some (.int .i64 m) ∧ J pre wr)
  (fun p _ => (t + 1 - intOf p).toNat)
 case atStart => exact ⟨[], f, rfl, Int.le_refl _, .inr rfl, rfl, c1, c2, h0⟩
 case round =>
  clear c0 c1 c2 h0;obtain ⟨pre, d, rfl, hd1, hd2, hx, c1, c2, hJs⟩ := hrel
  by_cases hlt : d ≤ t
  ·have hs : dayL m (t + 1 - d).toNat d = if inM m d = true then d :: dayL m (t + 1 - (d + 1)).toNat (d + 1) else dayL m (t + 1 - (d + 1)).toNat (d + 1) := by
    obtain ⟨k, hk⟩ : ∃ k, (t + 1 - d).toNat = k + 1 := ⟨(t - d).toNat, by omega⟩;rw [hk, dayL, show (t + 1 - (d + 1)).toNat = k by omega]
   by_cases hm : inM m d = true
   ·obtain ⟨fn, tmps, assign, body, hy, hR'⟩ := YieldAt.mono (hY pre d wr.drew (hJd _ _ 1 hJs) (by rw [hx, hs, if_pos hm]; simp)) (R' := fun e W' => ∃ bb : Bool, e = .returned (.bool bb) ∧ ((bb = true → J (pre ++ [d]) W' ∧ Below n₀ wr.drew W') ∧ (bb = false → Jx (pre ++ [d]) W'))) (by
     rintro e W' (⟨rfl, k1, k2⟩ | ⟨rfl, k1⟩)
     ·exact ⟨true, rfl, (fun _ => ⟨k1, k2⟩), (fun h => (by cases h))⟩
     ·exact ⟨false, rfl, (fun h => (by cases h)), (fun _ => k1)⟩)
    have X1 := Lib.hid hx; clear hx;have X2 := Lib.hid hs; clear hs
    gi_wp2
    gi_region_with (first | (refine ⟨fun h => (by cases h), ?_⟩; gi_at_call 83; refine (callsIn_wide.2 (wd_any _ (by omega) (by omega) _)).mono ?_; rintro e w' ⟨rfl, rfl⟩) | (refine ⟨fun h => (by cases h), ?_⟩; gi_at_call 93; refine (callsIn_wide.2 (im_T _ _ hm (by omega) (by omega) _)).mono ?_; rintro e w' ⟨rfl, rfl⟩) | (refine ⟨fun h => (by cases h), ?_⟩; refine hR'.mono ?_; rintro e W' ⟨bb, rfl, hT, hF⟩))
    all_goals
     cases bb with
     | true =>
      obtain ⟨hJ3, hk3⟩ := hT rfl;clear hT hF;have e1 : W'.cell? ⟨b, o + 1, none⟩ = some (.int .i64 t) := (hk3.cell (p := ⟨b, o + 1, none⟩) hb).trans c1;have e2 : W'.cell? ⟨b, o + 2, none⟩ = some (.int .i64 m) := (hk3.cell (p := ⟨b, o + 2, none⟩) hb).trans c2
      go_simp
      gi_wp2
      go_roundw
      case rel => exact ⟨pre ++ [d], d + 1, rfl, by omega, by omega, by rw [X1.out, X2.out, if_pos hm]; simp, e1, e2, hJ3⟩
      case measure => simp [intOf]; omega
     | false =>
      have hX := hF rfl;clear hT hF
      go_simp
      gi_wp2
      refine bodyPost_ret (results_none rfl _ _ _) rfl ?_;exact ⟨⟨_, rfl⟩, .inr ⟨pre ++ [d], ⟨dayL m (t + 1 - (d + 1)).toNat (d + 1), by rw [X1.out, X2.out, if_pos hm]; simp⟩, hX⟩⟩
   ·have hm' : inM m d = false := by simpa using hm
    have X1 := Lib.hid hx; clear hx;have X2 := Lib.hid hs; clear hs
    gi_wp2
    refine wpIn_region_quiet_lit rfl (by kernel_rfl) (by kernel_rfl) ?_
    repeat (gi_big_quiet_step (fail))
    gi_big_quiet_step ((refine ⟨fun h => (by cases h), ?_⟩; exact CallsIn.quiet_of_same (callsIn_wide.2 (wd_any d (by omega) (by omega) _))))
    repeat (gi_big_quiet_step (fail))
    gi_big_quiet_step ((refine ⟨fun h => (by cases h), ?_⟩; exact CallsIn.quiet_of_same (callsIn_wide.2 (im_F m d hm' (by omega) (by omega) _))))
    repeat (gi_big_quiet_step (fail))
    refine BigFrame.wpQuietIn_skip (fun _ _ _ _ => trivial) (by rfl) ?_;simp only [Act.put, List.setIfInBounds_toArray, List.set_cons_succ, List.set_cons_zero]
    repeat (gi_big_quiet_step (fail))
    refine wpQuietIn_nil ?_;intro _ hw';obtain ⟨nq, hw''⟩ := hw';subst hw''
    gi_wp2
    go_roundw
    case rel => exact ⟨pre, d + 1, rfl, by omega, by omega, by rw [X1.out, X2.out, if_neg hm], c1, c2, hJd _ _ _ hJs⟩
    case measure => simp [intOf]; omega
  ·have hs : dayL m (t + 1 - d).toNat d = [] := by rw [show (t + 1 - d).toNat = 0 by omega]; rfl
   have X1 := Lib.hid hx; clear hx;have X2 := Lib.hid hs; clear hs
   gi_wp2
   go_end0
   refine ⟨⟨_, rfl⟩, .inl ?_⟩
   have : dayL m (t + 1 - f).toNat f = pre := by rw [X1.out, X2.out]; simp
   rw [this]; exact hJs
theorem days_stops (n : Nat) (hn : 2 ≤ n) (b o n₀ : Nat) (f t m : Int) (hf : 0 ≤ f) (ht : t ≤ 1000000) (w : World) (hb : b < n₀) (hn₀ : n₀ ≤ w.heap.size) (c0 : w.cell? ⟨b, o, none⟩ = some (.int .i64 f)) (c1 : w.cell? ⟨b, o + 1, none⟩ = some (.int .i64 t)) (c2 : w.cell? ⟨b, o + 2, none⟩ = some (.int .i64 m)) :
  SeqStopsK Fence.wide n Tryz.prog 92 #[.pointer (some ⟨b, o, none⟩)] (fun x : Int => #[Value.int .i64 x]) (Below n₀) (fun ys => ys = dayL m (t + 1 - f).toNat f) (fun pre => pre <+: dayL m (t + 1 - f).toNat f) (dayL m (t + 1 - f).toNat f).length w := fun l J Jx W hW hJ _ hY h0 =>
 days1_in Fence.wide n trivial trivial trivial rfl rfl hn l b o n₀ hb f t m hf ht J Jx (fun pre W k h => hJ pre W (W.drewN k) none h ⟨rfl, rfl, rfl, Nat.le_refl _, fun _ _ _ => rfl⟩ (fun r e => by cases e)) hY W
  ((hW.cell (p := ⟨b, o, none⟩) (Nat.lt_of_lt_of_le hb hn₀)).trans c0) ((hW.cell (p := ⟨b, o + 1, none⟩) (Nat.lt_of_lt_of_le hb hn₀)).trans c1) ((hW.cell (p := ⟨b, o + 2, none⟩) (Nat.lt_of_lt_of_le hb hn₀)).trans c2) h0
theorem dayL_len (m : Int) : ∀ (n : Nat) (d : Int), (dayL m n d).length ≤ n
 | 0, _ => Nat.le_refl _
 | n + 1, d => by
  unfold dayL;have := dayL_len m n (d + 1)
  split <;> simp <;> omega
theorem yes_any (x : Int) (w : World) : Calls Tryz.prog 48 #[.int .i64 x] w fun e w' => e = .returned (.bool true) ∧ w' = w := by
 go_enter Tryz.func48, Tryz.ntmps48
 go_wp2
 go_ret
 exact ⟨rfl, rfl⟩
end Go.Proofs
namespace Go.Proofs
open Go.RowKit Go.Shelf
attribute [local go_sem] Oper.semAt_some
theorem yes_any2 (x : Int) (w : World) : Calls Tryz.prog 48 #[.int .i64 x] w fun e w' => e = .returned (.bool true) ∧ w = w' := (yes_any x w).mono fun _ _ ⟨h, k⟩ => ⟨h, k.symm⟩
theorem info3 : (Tryz.prog.info? 3).map (fun i => (i.zero, i.size, i.bytes)) = some (some (.int .i64 0), 1, 8) := by kernel_rfl
set_option maxRecDepth 100000 in
set_option maxHeartbeats 2000000 in
theorem collected_in (b o : Nat) (f t m : Int) (hf : 0 ≤ f) (ht : t ≤ 1000000) (w : World) (hb : b < w.heap.size) (c0 : w.cell? ⟨b, o, none⟩ = some (.int .i64 f)) (c1 : w.cell? ⟨b, o + 1, none⟩ = some (.int .i64 t)) (c2 : w.cell? ⟨b, o + 2, none⟩ = some (.int .i64 m)) :
  CallsIn Fence.wide 4 Tryz.prog 46 #[.func (.func 92) #[] #[.pointer (some ⟨b, o, none⟩)], .func (.func 48) #[] #[]] w fun e W' => ∃ v, e = .returned v ∧ W'.ownsRow (w.heap.size + 1) 3 1 v (dayL m (t + 1 - f).toNat f).length ((dayL m (t + 1 - f).toNat f).map (Value.int .i64)) ∧ (v = .slice none 0 0 ↔ dayL m (t + 1 - f).toNat f = []) ∧ Below w.heap.size w W' := by
 obtain ⟨i0, hi, hz0, hz1, hz2⟩ := info_parts info3;have hlen := dayL_len m (t + 1 - f).toNat f
 have hlen2 : (t + 1 - f).toNat ≤ 1000001 := by omega
 refine callsIn_of_wp_marks Tryz.func46 rfl trivial ?_ rfl;simp only [Tryz.ntmps46, List.size_toArray, List.length_cons, List.length_nil, Nat.reduceAdd, Nat.reduceSub, Array.replicate_succ, Array.replicate_zero, List.push_toArray, List.append_toArray, List.nil_append, List.cons_append]
 gi_wp2
 have bO := Boxed.new (w.alloc (.cells #[.func (.func 48) #[] #[]] 121)) 64 (.slice none 0 0);rw [World.size_alloc] at bO;have bF := (Boxed.new w 121 (.func (.func 48) #[] #[])).cell;have hB00 : Below w.heap.size w (w.alloc (.cells #[.func (.func 48) #[] #[]] 121)) := (Below.refl _ w).alloc (Nat.le_refl _) _;have hB0 : Below (w.heap.size + 1) (w.alloc (.cells #[.func (.func 48) #[] #[]] 121)) ((w.alloc (.cells #[.func (.func 48) #[] #[]] 121)).alloc (.cells #[.slice none 0 0] 64)) := (Below.refl _ _).alloc (by simp) _;have hB1 : Below w.heap.size w ((w.alloc (.cells #[.func (.func 48) #[] #[]] 121)).alloc (.cells #[.slice none 0 0] 64)) := hB00.trans (hB0.mono (by omega));refine wpIn_rangeFunc_ownG rfl (by decide) (gf := 92) (lb := #[.pointer (some ⟨b, o, none⟩)]) rfl trivial (enters_of Tryz.func92 (by kernel_rfl) rfl)
  (days_stops 3 (by decide) b o (w.heap.size + 1) f t m hf ht _ (by omega) (by simp) ((hB1.cell (p := ⟨b, o, none⟩) hb).trans c0) ((hB1.cell (p := ⟨b, o + 1, none⟩) hb).trans c1) ((hB1.cell (p := ⟨b, o + 2, none⟩) hb).trans c2)) belowK_t (belowK_b (by simp)) (Below.refl _ _) (fun _ => rfl)
  (fun pre W => (∃ v, Boxed W (w.heap.size + 1) 64 v ∧ W.ownsRow (w.heap.size + 1) 3 1 v pre.length (pre.map (Value.int .i64)) ∧ (v = .slice none 0 0 ↔ pre = [])) ∧ Below (w.heap.size + 1) (w.alloc (.cells #[.func (.func 48) #[] #[]] 121)) W)
  (fun _ _ _ => False)
  (OwnFrom.and (Own.from (holdsRow_own (w.heap.size + 1) (w.heap.size + 1) 64 3 1 (fun pre : List Int => pre.length) (fun pre => pre.map (Value.int .i64)) (fun pre v => v = .slice none 0 0 ↔ pre = [])) _) (ownFrom_below (by simp) (by simp)))
  (fun _ _ _ _ _ hs _ _ => hs)
  ⟨⟨_, bO, World.ownsRow_nil _ _ _ _, by simp⟩, hB0⟩
  (fun x => { tmps := #[Value.func (Fn.func 92) #[] #[Value.pointer (some { block := b, off := o })],
     Value.func (Fn.func 48) #[] #[], undef, Value.pointer (some { block := w.heap.size, off := 0 }),
     Value.slice none 0 0, Value.pointer (some { block := w.heap.size + 1, off := 0 }), .int .i64 x,
     Value.func (Fn.func 92) #[] #[Value.pointer (some { block := b, off := o })], .int .i64 x, undef, undef, undef,
     undef, undef, undef, undef, undef], defers := [] }) ?assign ?body ?done ?stop
 case assign =>
  intro l x W K hK
  gi_wp2
  exact hK
 case body =>
  rintro l pre x W ⟨⟨v, hv, hrow, hnil⟩, hB⟩ hlt;have hc := hv.cell;have hfc : W.cell? ⟨w.heap.size, 0, none⟩ = some (.func (.func 48) #[] #[]) := (hB.cell (p := ⟨w.heap.size, 0, none⟩) (by simp)).trans bF
  gi_wp2_with (first | (gi_at_call 48; refine (CallsIn.inRound l (callsIn_wide.2 (yes_any2 x _))).mono ?_; rintro e w' ⟨rfl, rfl⟩) | (refine ⟨trivial, ?_⟩; gi_at_call 48; refine (CallsIn.inRound l (callsIn_wide.2 (yes_any2 x _))).mono ?_; rintro e w' ⟨rfl, rfl⟩) | (refine ⟨fun h => (by cases h), ?_⟩; gi_at_call 48; refine (CallsIn.inRound l (callsIn_wide.2 (yes_any2 x _))).mono ?_; rintro e w' ⟨rfl, rfl⟩) | (gi_at_builtin; refine wpListIn_append_own _ rfl _ _ 64 rfl (w.heap.size + 1) 3 i0 (.int .i64 0) 1 8 Tryz.underlying64 hi hz0 hz1 hz2 rfl (by decide) _ _ _ rfl (hrow.alloc _) ⟨W.heap.size, 0, none⟩ 1 1 [.int .i64 x] rfl rfl (cell_one_new _ _ _) (by simp [Value.oneCell']) (by unfold maxLen; omega) (by omega) (by have := hB.size; simp at this ⊢; omega) ?_; intro v' w1 hown' hgrow _; obtain ⟨g', cap', rfl⟩ := ownsRow_succ hown'; obtain ⟨hv1, hv2, hr2, hk2, hb2⟩ := hv.appended (by decide) hrow (by have := hB.size; simp at this ⊢; omega) (Nat.le_refl _) hown' hgrow; have hc1 := hv1.cell; have hf1 := hv1.frozen))
  exact ⟨hk2.from _, hb2, ⟨_, hv2, by simpa using hr2, by simp⟩, hB.trans hb2⟩
 case done =>
  rintro D ys W hD rfl ⟨⟨v, hv, hrow, hnil⟩, hB⟩ hK;have hc := hv.cell
  gi_wp2
  refine ⟨by simp, .inl ⟨_, _, rfl, run_takeDeferred hK, ?_⟩⟩;exact ⟨_, results_tmp rfl _ _ _, v, rfl, ownsRow_putObj hrow _ hK rfl, hnil, hB00.trans ((hB.mono (by omega)).trans (belowK_b (w := w) (Nat.le_refl _) W D _ _ (by simp at hD; omega) hK rfl rfl))⟩
 case stop =>
  rintro D c pre W _ _ h _;exact h.elim
end Go.Proofs
namespace Go.Proofs
open Go.RowKit Go.Shelf
attribute [local go_sem] Oper.semAt_some
def momL (mi : Int) (days : List Int) : List Int := days.map fun d => 1440 * d + mi
set_option maxRecDepth 100000 in
set_option maxHeartbeats 1000000 in
theorem series1_in (Kp : World → World → Prop) (n : Nat) (hn : 2 ≤ n) (l b1 o1 b2 o2 b3 o3 cap : Nat) (a : Option Addr) (hKc : ∀ W W', Kp W W' → ∀ k, (k = b1 ∨ k = b2 ∨ k = b3) → W'.heap[k]? = W.heap[k]?) (days : List Int) (mi : Int) (hd : ∀ d ∈ days, 0 ≤ d ∧ d ≤ 1000000) (hm0 : 0 ≤ mi) (hm1 : mi ≤ 1000000) (hlen : days.length ≤ 10000000) (J Jx : List Int → World → Prop)
  (hY : ∀ pre x W, J pre W → pre.length < (momL mi days).length → YieldAt Fence.wide (n - 1) Tryz.prog l #[.int .i64 x] W fun e W' =>
   (e = .returned (.bool true) ∧ J (pre ++ [x]) W' ∧ Kp W W') ∨ (e = .returned (.bool false) ∧ Jx (pre ++ [x]) W'))
  (W : World) (c1 : W.cell? ⟨b1, o1, none⟩ = some (.slice a days.length cap)) (c3 : W.cell? ⟨b3, o3, none⟩ = some (.int .i64 mi)) (c2 : ∀ i d, days[i]? = some d → a = some ⟨b2, o2, none⟩ ∧ W.cell? ⟨b2, o2 + i, none⟩ = some (.int .i64 d)) (h0 : J [] W) :
  CallsIn Fence.wide n Tryz.prog 137 #[.func (.yield l) #[] #[], .pointer (some ⟨b1, o1, none⟩), .pointer (some ⟨b3, o3, none⟩)] W fun e W' => (∃ v, e = .returned v) ∧
   ((∃ ys, ys = momL mi days ∧ J ys W') ∨ (∃ pre, pre <+: momL mi days ∧ Jx pre W')) := by
 refine callsIn_of_wp Tryz.func137 rfl trivial ?_ rfl;simp only [Tryz.ntmps137, List.size_toArray, List.length_cons, List.length_nil, Nat.reduceAdd, Nat.reduceSub, Array.replicate_succ, Array.replicate_zero, List.push_toArray, List.append_toArray, List.nil_append, List.cons_append];have C2 := Lib.hid c2; clear c2;have HY := Lib.hid hY; clear hY;have HD := Lib.hid hd; clear hd
 gi_wp2
 gi_loopw [8] (fun p wr => ∃ (k : Nat), p = .int .i64 k ∧ k ≤ days.length ∧ (∀ k, (k = b1 ∨ k = b2 ∨ k = b3) → wr.heap[k]? = W.heap[k]?) ∧ J (momL mi (days.take k)) wr)
  (fun p _ => days.length - (intOf p).toNat)
 case atStart => exact ⟨0, rfl, Nat.zero_le _, fun _ _ => rfl, by simpa [momL] using h0⟩
 case round =>
  obtain ⟨k, rfl, hk, hB, hJs⟩ := hrel;have HB := Lib.hid hB; clear hB;have e3 : wr.cell? ⟨b3, o3, none⟩ = some (.int .i64 mi) := (World.cell?_of_block (a := ⟨b3, o3, none⟩) (HB.out b3 (.inr (.inr rfl)))).trans c3
  by_cases hlt : k < days.length
  ·obtain ⟨d, hdk⟩ : ∃ d, days[k]? = some d := ⟨days[k], by simp⟩;have hd := HD.out d (List.mem_of_getElem? hdk);have e2 : wr.cell? ⟨b2, o2 + k, none⟩ = some (.int .i64 d) := (World.cell?_of_block (a := ⟨b2, o2 + k, none⟩) (HB.out b2 (.inr (.inl rfl)))).trans (C2.out k d hdk).2;have ha := (C2.out k d hdk).1;subst ha
   have hs : momL mi (days.take (k + 1)) = momL mi (days.take k) ++ [1440 * d + mi] := by
    unfold momL;rw [List.take_add_one, hdk]; simp
   obtain ⟨fn, tmps, assign, body, hy, hR'⟩ := YieldAt.mono (HY.out (momL mi (days.take k)) (1440 * d + mi) wr hJs (by simp [momL]; omega)) (R' := fun e W' => ∃ bb : Bool, e = .returned (.bool bb) ∧ ((bb = true → J (momL mi (days.take (k + 1))) W' ∧ Kp wr W') ∧ (bb = false → Jx (momL mi (days.take (k + 1))) W'))) (by
     rw [hs];rintro e W' (⟨rfl, k1, k2⟩ | ⟨rfl, k1⟩)
     ·exact ⟨true, rfl, (fun _ => ⟨k1, k2⟩), (fun h => (by cases h))⟩
     ·exact ⟨false, rfl, (fun h => (by cases h)), (fun _ => k1)⟩)
   have X1 := Lib.hid hs; clear hs;have X2 := Lib.hid hdk; clear hdk
   gi_wp2
   refine ⟨fun h => (by cases h), ?_⟩;refine hR'.mono ?_;rintro e W' ⟨bb, rfl, hT, hF⟩
   cases bb with
   | true =>
    obtain ⟨hJ3, hk3⟩ := hT rfl;clear hT hF
    gi_wp2
    go_roundw
    case rel => exact ⟨k + 1, by go_num, by omega, fun j hj => (hKc _ _ hk3 j hj).trans (HB.out j hj), hJ3⟩
    case measure => simp [intOf]; omega
   | false =>
    have hX := hF rfl;clear hT hF
    gi_wp2
    refine bodyPost_ret (results_none rfl _ _ _) rfl ?_;exact ⟨⟨_, rfl⟩, .inr ⟨momL mi (days.take (k + 1)), (List.take_prefix _ _).map _, hX⟩⟩
  ·have hke : k = days.length := by omega
   subst hke
   gi_wp2
   go_end0
   refine ⟨⟨_, rfl⟩, .inl ?_⟩;rw [List.take_length] at hJs;exact ⟨_, rfl, hJs⟩
theorem series_stops (Kp : World → World → Prop) (n : Nat) (hn : 2 ≤ n) (b1 o1 b2 o2 b3 o3 cap : Nat) (a : Option Addr) (hKc : ∀ W W', Kp W W' → ∀ k, (k = b1 ∨ k = b2 ∨ k = b3) → W'.heap[k]? = W.heap[k]?) (days : List Int) (mi : Int) (hd : ∀ d ∈ days, 0 ≤ d ∧ d ≤ 1000000) (hm0 : 0 ≤ mi) (hm1 : mi ≤ 1000000) (hlen : days.length ≤ 10000000) (w : World) (hb1 : b1 < w.heap.size) (hb3 : b3 < w.heap.size)
  (c1 : w.cell? ⟨b1, o1, none⟩ = some (.slice a days.length cap)) (c3 : w.cell? ⟨b3, o3, none⟩ = some (.int .i64 mi)) (c2 : ∀ i d, days[i]? = some d → a = some ⟨b2, o2, none⟩ ∧ w.cell? ⟨b2, o2 + i, none⟩ = some (.int .i64 d)) :
  SeqStopsK Fence.wide n Tryz.prog 137 #[.pointer (some ⟨b1, o1, none⟩), .pointer (some ⟨b3, o3, none⟩)] (fun x : Int => #[Value.int .i64 x]) Kp (fun ys => ys = momL mi days) (fun pre => pre <+: momL mi days) (momL mi days).length w := fun l J Jx W hW _ _ hY h0 =>
 series1_in Kp n hn l b1 o1 b2 o2 b3 o3 cap a hKc days mi hd hm0 hm1 hlen J Jx hY W
  ((hW.cell (p := ⟨b1, o1, none⟩) hb1).trans c1) ((hW.cell (p := ⟨b3, o3, none⟩) hb3).trans c3) (fun i d hi => ⟨(c2 i d hi).1, (hW.cell (p := ⟨b2, o2 + i, none⟩) (block_lt_of_cell (c2 i d hi).2)).trans (c2 i d hi).2⟩) h0
end Go.Proofs
namespace Go.Sim
open Go.Proofs
def G.slX (k : Nat) (xs : List (List G)) : G :=
 ⟨fun w M u => (∀ c ∈ xs, c.length = k) ∧ ((xs = [] ∧ u = .slice none 0 0) ∨ ∃ b cap cur e, u = .slice (some ⟨b, 0, none⟩) xs.length cap ∧ xs.length ≤ cap ∧ cap ≤ maxLen ∧ ¬ M b ∧ w.heap[b]? = some (.cells cur e (0, 0)) ∧ cur.size = cap * k ∧ Fits w M xs.flatten (cur.toList.take (xs.length * k))), fun {w w' M M' u} h hh hM => by
  obtain ⟨h0, h⟩ := h;refine ⟨h0, ?_⟩
  rcases h with h | ⟨b, cap, cur, e, h1, h2, h3, h4, h5, h6, h7⟩
  ·exact .inl h
  ·have hlt := (Array.getElem?_eq_some_iff.1 h5).1
   exact .inr ⟨b, cap, cur, e, h1, h2, h3, fun hm => h4 (hM b hlt hm), (hh b hlt h4).trans h5, h6, h7.mono hh hM⟩⟩
instance (k : Nat) (xs : List (List G)) : One (.slX k xs) := ⟨fun ⟨_, h⟩ => by
 rcases h with ⟨_, h⟩ | ⟨_, _, _, _, h, _⟩ <;> rw [h] <;> rfl⟩
theorem slX_sl {w : World} {M : Nat → Prop} {k : Nat} {xs : List (List G)} {u : Value} (h : (G.slX k xs).p w M u) : (G.sl k xs).p w M u := by
 obtain ⟨h0, h⟩ := h
 rcases h with ⟨rfl, rfl⟩ | ⟨b, cap, cur, e, h1, h2, h3, h4, h5, h6, h7⟩
 ·exact ⟨none, 0, rfl, Nat.le_refl _, Nat.zero_le _, h0, .inl ⟨rfl, fun _ => rfl⟩⟩
 ·exact ⟨some ⟨b, 0, none⟩, cap, h1, h2, h3, h0, .inr ⟨b, 0, rfl, h4, by
   have hl := flatten_len h0;have hls := h7.length
   have : ∀ j v, (cur.toList.take (xs.length * k))[j]? = some v → w.cell? ⟨b, 0 + j, none⟩ = some v := by
    intro j v hj;rw [List.getElem?_take] at hj
    split at hj
    ·rw [cell_of_row w _ _ _ _ _ h5, Nat.zero_add]; simpa using hj
    ·cases hj
   exact cells_of_get h7 this⟩⟩
where cells_of_get {w : World} {M : Nat → Prop} {b : Nat} : ∀ {cs : List G} {vs : List Value} {o : Nat}, Fits w M cs vs → (∀ j v, vs[j]? = some v → w.cell? ⟨b, o + j, none⟩ = some v) → Cells w M b o cs
 | [], _, _, _, _ => trivial
 | c :: cs, [], _, h, _ => h.elim
 | c :: cs, v :: vs, o, h, hg => ⟨⟨v, hg 0 v rfl, h.1.1, h.1.2⟩, cells_of_get h.2 fun j u hj => by
   have := hg (j + 1) u (by simpa using hj)
   rwa [show o + (j + 1) = o + 1 + j by omega] at this⟩
theorem nil_slX (k : Nat) : ∀ w M, (G.slX k []).p w M (.slice none 0 0) := fun _ _ => ⟨by simp, .inl ⟨rfl, rfl⟩⟩
theorem flat_ints (l : List Int) : (l.map cInt).flatten = (l.map (Value.int .i64)).map G.lit := by
 induction l with
 | nil => rfl
 | cons x l ih => simp [ih]
theorem fits_lit {w : World} {M : Nat → Prop} : ∀ {vs : List Value}, (∀ v ∈ vs, v.oneCell' = true) → Fits w M (vs.map G.lit) vs
 | [], _ => trivial
 | v :: vs, h => ⟨⟨rfl, h v List.mem_cons_self⟩, fits_lit fun u hu => h u (List.mem_cons_of_mem _ hu)⟩
theorem slX_row {w w' : World} {M : Nat → Prop} {e : TypeId} {v : Value} {n0 : Nat} {l : List Int} (hM : ∀ b, M b → b < w.heap.size) (hn : w.heap.size ≤ n0) (h : w'.ownsRow n0 e 1 v l.length (l.map (Value.int .i64))) : (G.slX 1 (l.map cInt)).p w' M v := by
 obtain ⟨h1, h2⟩ := h;refine ⟨fun c hc => ?_, ?_⟩
 ·obtain ⟨x, _, rfl⟩ := List.mem_map.1 hc; rfl
 rcases h2 with ⟨rfl, h2⟩ | ⟨gg, cap, cur, rfl, g1, g2, g3, g4, g5, g6⟩
 ·exact .inl ⟨by rw [List.eq_nil_of_length_eq_zero h2]; rfl, rfl⟩
 ·refine .inr ⟨gg, cap, cur, e, by simp, by simpa using g3, g4, fun hm => by have := hM _ hm; omega, g2, g5, ?_⟩;rw [List.length_map, g6, flat_ints]
  exact fits_lit fun v hv => by obtain ⟨x, _, rfl⟩ := List.mem_map.1 hv; rfl
theorem c135X {g : List (Nat × List Value)} (f t m : Int) (hf : 0 ≤ f) (ht : t ≤ 1000000) : Con (EG g) 46 [G.fn (.func 92) [] [G.ref [G.int f, G.int t, G.int m]], G.lit (.func (.func 48) #[] #[])] (G.slX 1 (List.map cInt (dayL m (t + 1 - f).toNat f))) := by
 intro w M vs hM hgl hv
 match vs, hv with
 | [v1, v2], hv =>
  obtain ⟨⟨fs, cs, rfl, hfs, hcs⟩, rfl, _⟩ := hv
  cases fs with
  | cons _ _ => exact hfs.elim
  | nil =>
   match cs, hcs with
   | [c], hcs =>
    obtain ⟨b, o, rfl, hnm, hc⟩ := hcs.1
    have hnm : ¬ M b := by rcases hnm with h | h; cases h; exact h
    obtain ⟨⟨_, e1, e1', _⟩, ⟨_, e2, e2', _⟩, ⟨_, e3, e3', _⟩, _⟩ := hc;have e1' : _ = _ := e1'; have e2' : _ = _ := e2'; have e3' : _ = _ := e3';subst e1'; subst e2'; subst e3';have hb : b < w.heap.size := block_lt_of_cell e1;refine (callsIn_wide.1 (collected_in b o f t m hf ht w hb e1 e2 e3)).mono ?_;rintro e W' ⟨v, rfl, h1, _, h3⟩;exact ⟨v, rfl, h3, slX_row hM (Nat.le_succ _) h1⟩
theorem c136 {g : List (Nat × List Value)} (f t m : Int) : Con (EG g) 47 [G.agg [G.int f, G.int t, G.int m]] (G.fn (.func 92) [] [G.ref [G.int f, G.int t, G.int m]]) := by
 refine con_of_aw Tryz.func47 rfl rfl fun w0 M0 => ?_;refine aw_seq ?_;refine aw_region [.p, .p] ?_;refine st rfl rfl (eff_box rfl rfl) rfl ?_;refine st rfl rfl (eff_assigng rfl rfl) rfl ?_;refine st_nil ?_;refine aw_seq ?_;refine aw_region [.p, .p] ?_;refine st rfl rfl (eff_makeF rfl rfl rfl) rfl ?_;refine st rfl rfl (eff_assigng rfl rfl) rfl ?_;refine st_nil ?_;refine aw_ret ?_;exact res_c rfl (rv_g rfl)
theorem first2 (a b : Int) (h : s152 [a, b] = 0) : a = 0 ∧ b = 0 := by
 simp only [s152, s152_l1] at h
 by_cases ha : a = 0
 ·by_cases hb : b = 0
  ·exact ⟨ha, hb⟩
  ·simp [ha, hb] at h
 ·simp [ha] at h
theorem first3 (a b c : Int) (h : s152 [a, b, c] = 0) : a = 0 ∧ b = 0 ∧ c = 0 := by
 simp only [s152, s152_l1] at h
 by_cases ha : a = 0
 ·by_cases hb : b = 0
  ·by_cases hc : c = 0
   ·exact ⟨ha, hb, hc⟩
   ·simp [ha, hb, hc] at h
  ·simp [ha, hb] at h
 ·simp [ha] at h
theorem rng0 (n lo hi : Int) (h : s155 n lo hi = 0) : lo ≤ n ∧ n ≤ hi := by
 simp only [s155, s154] at h
 by_cases h1 : n < lo
 ·simp [h1] at h
 ·by_cases h2 : hi < n
  ·simp [h2] at h
  ·omega
theorem when0 (b : Bool) (e : Int) (he : e ≠ 0) (h : s154 b e = 0) : b = false := by
 cases b with
 | false => rfl
 | true => exact absurd h he
theorem period_ok (p : S45) (h : s102 p = 0) : 0 ≤ p.fFrom ∧ p.fFrom ≤ p.fTo ∧ p.fTo ≤ 99999 ∧ p.fTo - p.fFrom ≤ 400 ∧ 1 ≤ p.Days ∧ p.Days ≤ 127 := by
 unfold s102 at h
 by_cases h1 : s152 [s153 p.fFrom, s153 p.fTo] = 0
 ·rw [decide_eq_false (by simpa using h1)] at h;rw [cond_false] at h;obtain ⟨a1, a2⟩ := first2 _ _ h1;obtain ⟨b1, b2, b3⟩ := first3 _ _ _ h;have c1 := rng0 _ _ _ a1;have c2 := rng0 _ _ _ a2;have c3 := rng0 _ _ _ b3;have d1 := when0 _ _ (by decide) b1;have d2 := when0 _ _ (by decide) b2;simp only [decide_eq_false_iff_not] at d1 d2;rw [wrap_i64 (by unfold I64; omega)] at d2
  omega
 ·rw [decide_eq_true (by simpa using h1)] at h;exact absurd h h1
end Go.Sim
set_option maxRecDepth 10000
namespace Go.Sim
open Go.Proofs
def s69 (a0 : S45) : (List Int) × Int :=
 (bif decide ((s102 a0) ≠ 0) then ([], (s102 a0)) else (dayL a0.Days (a0.fTo + 1 - a0.fFrom).toNat a0.fFrom, 0))
theorem c69 {g : List (Nat × List Value)} (a0 : S45)    : Con (EG g) 16 [G.agg [G.int a0.fFrom, G.int a0.fTo, G.int a0.Days]] (G.tup [G.slX 1 (List.map cInt ((s69 a0)).1), G.int ((s69 a0)).2]) := by
 generalize hR : s69 a0 = R;unfold s69 at hR;refine con_of_aw Tryz.func16 rfl rfl fun w0 M0 => ?_;refine aw_seq ?_;refine aw_region [.p, .p, .p] ?_;refine su (eff_box rfl rfl) rfl ?_;refine sa rfl rfl ?_;refine sa rfl rfl ?_;refine st_nil ?_;refine aw_seq ?_;refine aw_seq ?_;refine aw_region [.p, .p, .p] ?_;refine su (eff_loadA rfl ty46 rfl rfl rfl) rfl ?_;refine su (eff_call rfl K102 rfl (c102 a0) (ag_cons rfl ag_nil)) rfl ?_;refine sa rfl rfl ?_;refine st_nil ?_;refine aw_seq ?_;refine aw_region [.p, .p] ?_;refine sm rfl rfl ?_;refine su (eff_neq rfl rfl rfl) rfl ?_;refine st_nil ?_;refine aw_cond _ rfl (fun h1 => ?_) (fun h1 => ?_)
 ·replace h1 : (decide ((s102 a0) ≠ 0)) = true := h1;replace hR := condT hR h1;(try simp only [bB] at h1);refine aw_seq ?_;refine aw_region [.p, .p, .p] ?_;refine sm rfl rfl ?_;refine sa rfl rfl ?_;refine sa rfl rfl ?_;refine st_nil ?_;refine aw_ret ?_;subst hR;exact resN rfl ⟨rv_nilG rfl (nil_slX _), rv_g rfl, trivial⟩ (by simp)
 ·replace h1 : (decide ((s102 a0) ≠ 0)) = false := h1;replace hR := condF hR h1;(try simp only [bB] at h1);have hp := period_ok a0 (by simpa using h1);refine aw_skip ?_;refine aw_seq ?_;refine aw_region [.p, .p, .p, .p, .p] ?_;refine su (eff_loadA rfl ty46 rfl rfl rfl) rfl ?_;refine su (eff_call rfl K136 rfl (c136 a0.fFrom a0.fTo a0.Days) (ag_cons rfl ag_nil)) rfl ?_;refine su (eff_call rfl K135 rfl (c135X a0.fFrom a0.fTo a0.Days hp.1 (by omega)) (ag_cons rfl (ag_cons rfl ag_nil))) rfl ?_;refine sa rfl rfl ?_;refine sa rfl rfl ?_;refine st_nil ?_;refine aw_ret ?_;subst hR;exact resN rfl ⟨rv_g rfl, rv_g rfl, trivial⟩ (by simp)
open Go.Proofs Go.RowKit Go.Shelf
theorem glOk_nil {w : World} {M : Nat → Prop} : GlOk (EG []) w M := fun g vs h => by cases h
theorem slX_cells {w : World} {M : Nat → Prop} {l : List Int} {u : Value} (h : (G.slX 1 (l.map cInt)).p w M u) : ∃ a cap b, u = .slice a l.length cap ∧ (l = [] ∨ (b < w.heap.size ∧ ¬ M b)) ∧ ∀ (i : Nat) (d : Int), l[i]? = some d → a = some ⟨b, 0, none⟩ ∧ w.cell? ⟨b, 0 + i, none⟩ = some (.int .i64 d) := by
 obtain ⟨h0, h⟩ := h
 rcases h with ⟨h1, rfl⟩ | ⟨b, cap, cur, e, h1, h2, h3, h4, h5, h6, h7⟩
 ·have : l = [] := by simpa using h1
  subst this;exact ⟨none, 0, 0, rfl, .inl rfl, fun i d h => by simp at h⟩
 ·refine ⟨_, cap, b, by rw [h1, List.length_map], .inr ⟨(Array.getElem?_eq_some_iff.1 h5).1, h4⟩, fun i d hi => ⟨rfl, ?_⟩⟩;rw [cell_of_row w _ _ _ _ _ h5, Nat.zero_add];rw [flat_ints] at h7
  have hfit : (cur.toList.take ((l.map cInt).length * 1)) = l.map (Value.int .i64) := by
   have : ∀ {vs us : List Value}, Fits w M (vs.map G.lit) us → us = vs := by
    intro vs
    induction vs with
    | nil => intro us h; cases us with
     | nil => rfl
     | cons => exact h.elim
    | cons v vs ih => intro us h; cases us with
     | nil => exact h.elim
     | cons u us => rw [show u = v from h.1.1, ih h.2]
   exact this h7
  have h8 : (cur.toList.take ((l.map cInt).length * 1))[i]? = some (.int .i64 d) := by rw [hfit, List.getElem?_map, hi]; rfl
  rw [List.getElem?_take] at h8
  split at h8
  ·simpa using h8
  ·cases h8
theorem daysOf_any (p : S45) (hp : s102 p = 0) (w : World) : Calls Tryz.prog 16 #[.agg #[.int .i64 p.fFrom, .int .i64 p.fTo, .int .i64 p.Days]] w fun e w' => ∃ a cap b2, e = .returned (.tuple #[.slice a (dayL p.Days (p.fTo + 1 - p.fFrom).toNat p.fFrom).length cap, .int .i64 0]) ∧ Below w.heap.size w w' ∧
  (dayL p.Days (p.fTo + 1 - p.fFrom).toNat p.fFrom = [] ∨ (b2 < w'.heap.size ∧ w.heap.size ≤ b2)) ∧ ∀ (i : Nat) (d : Int), (dayL p.Days (p.fTo + 1 - p.fFrom).toNat p.fFrom)[i]? = some d → a = some ⟨b2, 0, none⟩ ∧ w'.cell? ⟨b2, 0 + i, none⟩ = some (.int .i64 d) := by
 have hc := c69 (g := []) p
 have hs : s69 p = (dayL p.Days (p.fTo + 1 - p.fFrom).toNat p.fFrom, 0) := by unfold s69; rw [hp]; rfl
 rw [hs] at hc;refine (hc w (fun b => b < w.heap.size) [.agg #[.int .i64 p.fFrom, .int .i64 p.fTo, .int .i64 p.Days]] (fun _ h => h) glOk_nil ⟨⟨_, rfl, ⟨rfl, rfl⟩, ⟨rfl, rfl⟩, ⟨rfl, rfl⟩, trivial⟩, trivial⟩).mono ?_;rintro e w' ⟨v, rfl, h1, us, rfl, h2⟩
 match us, h2 with
 | [u1, u2], h2 =>
  obtain ⟨k1, k2, _⟩ := h2;have k2 : u2 = .int .i64 0 := k2;subst k2;obtain ⟨a, cap, b, rfl, h3, h4⟩ := slX_cells k1;exact ⟨a, cap, b, rfl, h1, h3.imp id (fun h => ⟨h.1, Nat.le_of_not_lt h.2⟩), h4⟩
set_option maxHeartbeats 1000000 in
theorem series_any (p : S45) (hp : s102 p = 0) (mi : Int) (w : World) : Calls Tryz.prog 77 #[.agg #[.int .i64 p.fFrom, .int .i64 p.fTo, .int .i64 p.Days], .int .i64 mi] w fun e w' => ∃ a cap b1 b2 b3, e = .returned (.func (.func 137) #[] #[.pointer (some ⟨b1, 0, none⟩), .pointer (some ⟨b3, 0, none⟩)]) ∧ Below w.heap.size w w' ∧
  (b1 < w'.heap.size ∧ w.heap.size ≤ b1) ∧ (b3 < w'.heap.size ∧ w.heap.size ≤ b3) ∧ (dayL p.Days (p.fTo + 1 - p.fFrom).toNat p.fFrom = [] ∨ (b2 < w'.heap.size ∧ w.heap.size ≤ b2)) ∧ w'.cell? ⟨b1, 0, none⟩ = some (.slice a (dayL p.Days (p.fTo + 1 - p.fFrom).toNat p.fFrom).length cap) ∧ w'.cell? ⟨b3, 0, none⟩ = some (.int .i64 mi) ∧
  ∀ (i : Nat) (d : Int), (dayL p.Days (p.fTo + 1 - p.fFrom).toNat p.fFrom)[i]? = some d → a = some ⟨b2, 0, none⟩ ∧ w'.cell? ⟨b2, 0 + i, none⟩ = some (.int .i64 d) := by
 have HP := Lib.hid hp; clear hp
 go_enter Tryz.func77, Tryz.ntmps77
 go_wp2_with (go_at_call 16; refine (daysOf_any p HP.out _).mono ?_; rintro e w1 ⟨a, cap, b2, rfl, hB, hb2, hcs⟩; have HC := Lib.hid hcs; clear hcs; have hc2 := (hB.cell (p := ⟨w.heap.size + 1, 0, none⟩) (by simp)))
 go_ret
 have hz : w.heap.size + 2 ≤ w1.heap.size := by have := hB.size; simp at this; omega
 refine ⟨a, cap, w1.heap.size, b2, w.heap.size + 1, rfl, ?_, ?_, ?_, ?_, ?_, ?_, ?_⟩
 ·exact ((((Below.refl _ w).alloc (Nat.le_refl _) _).alloc (by simp) _).trans (hB.mono (by simp; omega))).alloc (by omega) _
 ·simp; omega
 ·simp; omega
 ·rcases hb2 with h | h
  ·exact .inl h
  ·exact .inr (by simp at h ⊢; omega)
 ·simp
 ·exact (((Below.refl _ w1).alloc (Nat.le_refl _) _).cell (p := ⟨w.heap.size + 1, 0, none⟩) (by show w.heap.size + 1 < w1.heap.size; omega)).trans (hc2.trans (by simpa using cell_new_l (w.alloc (.cells #[.int .i64 p.fFrom, .int .i64 p.fTo, .int .i64 p.Days] 23)) (.int .i64 mi) 3))
 ·intro i d hi;obtain ⟨k1, k2⟩ := HC.out i d hi;have hb : b2 < w1.heap.size := block_lt_of_cell k2;exact ⟨k1, (((Below.refl _ w1).alloc (Nat.le_refl _) _).cell (p := ⟨b2, 0 + i, none⟩) hb).trans k2⟩
end Go.Sim
namespace Go.Proofs
open Go.RowKit Go.Shelf
attribute [local go_sem] Oper.semAt_some
structure KeepB (N B : Nat) (W W' : World) : Prop where
 os : W'.os = W.os
 tape : W'.tape = W.tape
 output : W'.output = W.output
 size : W.heap.size ≤ W'.heap.size
 base : N ≤ W.heap.size
 block : ∀ k, k < N → k ≠ B → W'.heap[k]? = W.heap[k]?
theorem KeepB.refl {N B : Nat} {W : World} (h : N ≤ W.heap.size) : KeepB N B W W := ⟨rfl, rfl, rfl, Nat.le_refl _, h, fun _ _ _ => rfl⟩
theorem KeepB.trans {N B : Nat} {A C D : World} (h : KeepB N B A C) (k : KeepB N B C D) : KeepB N B A D :=
 ⟨k.os.trans h.os, k.tape.trans h.tape, k.output.trans h.output, Nat.le_trans h.size k.size, h.base, fun j h1 h2 => (k.block j h1 h2).trans (h.block j h1 h2)⟩
theorem KeepB.grown {N B : Nat} {A C D : World} {row : Option Nat} (h : KeepB N B A C) (k : C.grownBy D row) (hr : ∀ r, row = some r → N ≤ r ∨ r = B) : KeepB N B A D :=
 h.trans ⟨k.os, k.tape, k.output, k.size, Nat.le_trans h.base h.size, fun j h1 h2 => k.block j (Nat.lt_of_lt_of_le h1 (Nat.le_trans h.base h.size)) fun e => by
  rcases hr j e.symm with h | h
  ·omega
  ·exact h2 h⟩
theorem KeepB.cell {N B : Nat} {W W' : World} (h : KeepB N B W W') {b o : Nat} {v : Value} (hb : b < N) (hB : b ≠ B) (hc : W.cell? ⟨b, o, none⟩ = some v) : W'.cell? ⟨b, o, none⟩ = some v :=
 (World.cell?_of_block (a := ⟨b, o, none⟩) (h.block b hb hB)).trans hc
theorem Boxed.appended2 {W w1 : World} {N B : Nat} {t e : TypeId} {size : Nat} {v v' : Value} {k m : Nat} {xs ys : List Value} {tmp : Obj}
  (hv : Boxed W B t v) (hte : t ≠ e) (hrow : W.ownsRow N e size v k xs) (hN : N ≤ W.heap.size)
  (hown' : w1.ownsRow N e size v' m ys) (hgrow : (W.alloc tmp).grownBy w1 v.ownBlock) :
  Boxed w1 B t v ∧ Boxed (w1.setCell ⟨B, 0, none⟩ v') B t v' ∧ (w1.setCell ⟨B, 0, none⟩ v').ownsRow N e size v' m ys ∧ KeepsOthers W (w1.setCell ⟨B, 0, none⟩ v') ∧ KeepB N B W (w1.setCell ⟨B, 0, none⟩ v') := by
 have hv1 : Boxed w1 B t v := (hv.alloc tmp).kept hgrow (hv.not_row hte hrow);refine ⟨hv1, hv1.set v', hown'.kept (grownBy_setCell' w1 B v') (.inr (hv1.not_row hte hown').symm), ?_, ?_⟩
 ·refine ((KeepsOthers.alloc W tmp).trans (KeepsOthers.of_grownBy hgrow fun j o ej hj => ?_)).trans (KeepsOthers.setCell _ _ _)
  rcases (hrow.alloc tmp).2 with ⟨rfl, _⟩ | ⟨g, cap, cur, rfl, _, hgb, _⟩
  ·simp [Value.ownBlock] at ej
  ·obtain rfl : g = j := by simpa [Value.ownBlock] using ej
   rw [hgb] at hj; cases hj; rfl
 ·refine (((KeepB.refl hN).grown (World.grownBy_alloc W tmp none) (fun r e => by cases e)).grown hgrow fun j ej => ?_).grown (grownBy_setCell' w1 B v') (fun r e => by cases e; exact .inr rfl)
  rcases hrow.2 with ⟨rfl, _⟩ | ⟨g, cap, cur, rfl, hb, _, _⟩
  ·simp [Value.ownBlock] at ej
  ·obtain rfl : g = j := by simpa [Value.ownBlock] using ej
   exact .inl hb
def slotVs (nm kd : ByteArray) (x : Int) : List Value := [.string nm, .int .i64 x, .string kd]
theorem cells_new3 (w : World) (x y z : Value) (t : TypeId) : ∀ j u, [x, y, z][j]? = some u → (w.alloc (.cells #[x, y, z] t)).cell? ((⟨w.heap.size, 0, none⟩ : Addr).add j) = some u := by
 intro j u hj;rw [Addr.add_lit];rw [cell_of_row _ _ _ _ _ _ (heap_alloc_new w _), Nat.zero_add]
 simpa using hj
theorem info152 : (Tryz.prog.info? 110).map (fun i => (i.zero, i.size, i.bytes)) = some (some (.agg #[.string ByteArray.empty, .int .i64 0, .string ByteArray.empty]), 3, 40) := by kernel_rfl
set_option maxRecDepth 100000 in
set_option maxHeartbeats 2000000 in
theorem slotsOf_in (nm kd : ByteArray) (p : Sim.S45) (hp : Sim.s102 p = 0) (mi : Int) (hm0 : 0 ≤ mi) (hm1 : mi ≤ 1000000) (w : World) :
  CallsIn Fence.wide 4 Tryz.prog 35 #[.string nm, .string kd, .agg #[.int .i64 p.fFrom, .int .i64 p.fTo, .int .i64 p.Days], .int .i64 mi] w fun e W' => ∃ v, e = .returned v ∧ W'.ownsRow w.heap.size 110 3 v (momL mi (dayL p.Days (p.fTo + 1 - p.fFrom).toNat p.fFrom)).length ((momL mi (dayL p.Days (p.fTo + 1 - p.fFrom).toNat p.fFrom)).flatMap (slotVs nm kd)) ∧ Below w.heap.size w W' := by
 obtain ⟨i0, hi, hz0, hz1, hz2⟩ := info_parts info152;obtain ⟨hq1, hq2, hq3, hq4, _, _⟩ := Sim.period_ok p hp;have hlen := dayL_len p.Days (p.fTo + 1 - p.fFrom).toNat p.fFrom
 have hlen2 : (p.fTo + 1 - p.fFrom).toNat ≤ 401 := by omega
 have hrange : ∀ d ∈ dayL p.Days (p.fTo + 1 - p.fFrom).toNat p.fFrom, 0 ≤ d ∧ d ≤ 1000000 := by
  have : ∀ (n : Nat) (f : Int), ∀ d ∈ dayL p.Days n f, f ≤ d ∧ d < f + n := by
   intro n
   induction n with
   | zero => intro f d h; simp [dayL] at h
   | succ n ih =>
    intro f d h;unfold dayL at h
    split at h
    ·rcases List.mem_cons.1 h with rfl | h
     ·omega
     ·have := ih _ d h; omega
    ·have := ih _ d h; omega
  intro d hd;have := this _ _ d hd
  omega
 have HP := Lib.hid hp; clear hp;have HR := Lib.hid hrange; clear hrange;generalize hds : dayL p.Days (p.fTo + 1 - p.fFrom).toNat p.fFrom = days at *;have HS := Lib.hid hds; clear hds;refine callsIn_of_wp_marks Tryz.func35 rfl trivial ?_ rfl;simp only [Tryz.ntmps35, List.size_toArray, List.length_cons, List.length_nil, Nat.reduceAdd, Nat.reduceSub, Array.replicate_succ, Array.replicate_zero, List.push_toArray, List.append_toArray, List.nil_append, List.cons_append]
 gi_wp2_with (refine ⟨trivial, ?_⟩; gi_at_call 77; refine (callsIn_wide.2 (Sim.series_any p HP.out mi _)).mono ?_; rw [HS.out]; rintro e w1 ⟨a, cap, b1, b2, b3, rfl, hB, hb1, hb3, hb2, hc1, hc3, hcs⟩; have HC := Lib.hid hcs; clear hcs)
 have hzB := hB.size
 simp at hzB
 have bO : Boxed w1 (w.heap.size + 3) 39 (.slice none 0 0) := by
  have := Boxed.new (((w.alloc (.cells #[.string nm] 9)).alloc (.cells #[.string kd] 9)).alloc (.cells #[.int .i64 p.fFrom, .int .i64 p.fTo, .int .i64 p.Days] 23)) 39 (.slice none 0 0);rw [show (((w.alloc (.cells #[.string nm] 9)).alloc (.cells #[.string kd] 9)).alloc (.cells #[.int .i64 p.fFrom, .int .i64 p.fTo, .int .i64 p.Days] 23)).heap.size = w.heap.size + 3 by simp] at this;exact (hB.block (w.heap.size + 3) (by simp)).trans this
 have bN : w1.cell? ⟨w.heap.size, 0, none⟩ = some (.string nm) := (hB.cell (p := ⟨w.heap.size, 0, none⟩) (by simp; omega)).trans (((Boxed.new w 9 (.string nm)).alloc _).alloc _ |>.alloc _).cell
 have bK : w1.cell? ⟨w.heap.size + 1, 0, none⟩ = some (.string kd) := by
  have := ((Boxed.new (w.alloc (.cells #[.string nm] 9)) 9 (.string kd)).alloc (.cells #[.int .i64 p.fFrom, .int .i64 p.fTo, .int .i64 p.Days] 23)).alloc (.cells #[.slice none 0 0] 39);rw [World.size_alloc] at this;exact (hB.cell (p := ⟨w.heap.size + 1, 0, none⟩) (by simp)).trans this.cell
 have hB1 : Below w.heap.size w w1 := ((((Below.refl _ w).alloc (Nat.le_refl _) _).alloc (by simp) _).alloc (by simp; omega) _).alloc (by simp; omega) _ |>.trans (hB.mono (by simp; omega))
 have hml : (momL mi days).length = days.length := by simp [momL]
 obtain ⟨hb1, hb1'⟩ := hb1;obtain ⟨hb3, hb3'⟩ := hb3
 simp at hb1' hb3' hb2
 obtain ⟨c2, hc2a, hc2b, HC2⟩ : ∃ c2, c2 < w1.heap.size ∧ c2 ≠ w.heap.size + 3 ∧ Hid (∀ (i : Nat) (d : Int), days[i]? = some d → a = some ⟨c2, 0, none⟩ ∧ w1.cell? ⟨c2, 0 + i, none⟩ = some (.int .i64 d)) := by
  rcases hb2 with h | h
  ·exact ⟨b1, hb1, by omega, Lib.hid fun i d hi => by rw [h] at hi; simp at hi⟩
  ·exact ⟨b2, h.1, by omega, Lib.hid HC.out⟩
 clear HC hb2
 have hKc : ∀ W W', KeepB w1.heap.size (w.heap.size + 3) W W' → ∀ k, (k = b1 ∨ k = c2 ∨ k = b3) → W'.heap[k]? = W.heap[k]? := by
  rintro W W' hk k (rfl | rfl | rfl)
  ·exact hk.block _ hb1 (by omega)
  ·exact hk.block _ hc2a hc2b
  ·exact hk.block _ hb3 (by omega)
 have HK := Lib.hid hKc; clear hKc;refine wpIn_rangeFunc_ownG rfl (by decide) (gf := 137) (lb := #[.pointer (some ⟨b1, 0, none⟩), .pointer (some ⟨b3, 0, none⟩)]) rfl trivial (enters_of Tryz.func137 (by kernel_rfl) rfl)
  (series_stops (KeepB w1.heap.size (w.heap.size + 3)) 3 (by decide) b1 0 c2 0 b3 0 cap a HK.out days mi HR.out hm0 hm1 (by omega) w1 hb1 hb3 hc1 hc3 HC2.out) (fun h k => h.trans k) (fun W l o o' hl h _ _ => (KeepB.refl (by have := (Array.getElem?_eq_some_iff.1 h).1; omega)).grown (grownBy_putObj' W l o') (fun r e => by cases e; exact .inl hl)) (Below.refl _ _) (fun _ => rfl)
  (fun pre W => (∃ v, Boxed W (w.heap.size + 3) 39 v ∧ W.ownsRow w1.heap.size 110 3 v pre.length (pre.flatMap (slotVs nm kd)) ∧ True) ∧ KeepB w1.heap.size (w.heap.size + 3) w1 W)
  (fun _ _ _ => False)
  (OwnFrom.and (Own.from (holdsRow_own w1.heap.size (w.heap.size + 3) 39 110 3 (fun pre : List Int => pre.length) (fun pre => pre.flatMap (slotVs nm kd)) (fun _ _ => True)) _) (fun s W W' row hs hg hr => hs.grown hg (fun r e => .inl (hr r e).1)))
  (fun _ _ _ _ _ hs _ _ => hs)
  ⟨⟨_, bO, World.ownsRow_nil _ _ _ _, trivial⟩, KeepB.refl (Nat.le_refl _)⟩
  (fun x => { tmps := #[Value.string nm, Value.string kd,
     Value.agg #[Value.int IntKind.i64 p.fFrom, Value.int IntKind.i64 p.fTo, Value.int IntKind.i64 p.Days],
     Value.int IntKind.i64 mi, Value.pointer (some { block := w.heap.size, off := 0 }),
     Value.pointer (some { block := w.heap.size + 1, off := 0 }),
     Value.pointer (some { block := w.heap.size + 1 + 1, off := 0 }), undef, Value.slice none 0 0,
     Value.pointer (some { block := w.heap.size + 1 + 1 + 1, off := 0 }), .int .i64 x,
     Value.agg #[Value.int IntKind.i64 p.fFrom, Value.int IntKind.i64 p.fTo, Value.int IntKind.i64 p.Days],
     Value.int IntKind.i64 mi,
     Value.func (Fn.func 137) #[]
      #[Value.pointer (some { block := b1, off := 0 }), Value.pointer (some { block := b3, off := 0 })],
     .int .i64 x, undef, undef, undef, undef, undef, undef, undef, undef], defers := [] }) ?assign ?body ?done ?stop
 case assign =>
  intro l x W K hK
  gi_wp2
  exact hK
 case body =>
  rintro l pre x W ⟨⟨v, hv, hrow, _⟩, hKB⟩ hlt;have hc := hv.cell;have hn1 : W.cell? ⟨w.heap.size, 0, none⟩ = some (.string nm) := hKB.cell (by omega) (by omega) bN;have hn2 : W.cell? ⟨w.heap.size + 1, 0, none⟩ = some (.string kd) := hKB.cell (by omega) (by omega) bK;have hsz := hKB.size
  gi_wp2_with (first | (gi_at_builtin; refine Hid.out ?_))
  refine Lib.hid ?_;refine wpListIn_append_own _ rfl _ _ 39 rfl w1.heap.size 110 i0 (.agg #[.string ByteArray.empty, .int .i64 0, .string ByteArray.empty]) 3 40 Tryz.underlying39 hi hz0 hz1 hz2 rfl (by decide) _ _ _ rfl (hrow.alloc _) ⟨W.heap.size, 0, none⟩ 1 1 (slotVs nm kd x) rfl rfl (cells_new3 _ _ _ _ _) (by simp [slotVs, Value.oneCell']) (by unfold maxLen; omega) (by omega) (by simp; omega) ?_;intro v' w2 hown' hgrow _;obtain ⟨g', cap', rfl⟩ := ownsRow_succ hown';obtain ⟨hv1, hv2, hr2, hk2, hb2⟩ := Go.Proofs.Boxed.appended2 hv (by decide) hrow hsz hown' hgrow;have hcc1 := hv1.cell;have hf1 := hv1.frozen
  gi_wp2
  exact ⟨hk2.from _, hb2, ⟨_, hv2, by simpa using hr2, trivial⟩, hKB.trans hb2⟩
 case done =>
  rintro D ys W hD rfl ⟨⟨v, hv, hrow, _⟩, hKB⟩ hK;have hc := hv.cell
  gi_wp2
  refine ⟨by simp, .inl ⟨_, _, rfl, run_takeDeferred hK, ?_⟩⟩
  have hrow' : W.ownsRow w.heap.size 110 3 v (momL mi days).length ((momL mi days).flatMap (slotVs nm kd)) := by
   refine ⟨hrow.1, ?_⟩
   rcases hrow.2 with h | ⟨gg, cp, cur, e1, e2, e3⟩
   ·exact .inl h
   ·exact .inr ⟨gg, cp, cur, e1, by omega, e3⟩
  have hBW : Below w.heap.size w1 W := ⟨hKB.os, hKB.tape, hKB.output, by have := hKB.size; omega, fun k hk => hKB.block k (by omega) (by omega)⟩;exact ⟨_, results_tmp rfl _ _ _, v, rfl, ownsRow_putObj hrow' _ hK rfl, hB1.trans (hBW.trans (belowK_b (w := w1) (by omega) W D _ _ (by omega) hK rfl rfl))⟩
 case stop =>
  rintro D c pre W _ _ h _;exact h.elim
end Go.Proofs
namespace Go.Sim
open Go.Proofs Go.RowKit Go.Shelf
def slotsL (nm kd : ByteArray) (l : List Int) : List S151 := l.map fun x => ⟨nm, x, kd⟩
theorem flat_slots (nm kd : ByteArray) (l : List Int) : ((slotsL nm kd l).map S151.c).flatten = (l.flatMap (slotVs nm kd)).map G.lit := by
 induction l with
 | nil => rfl
 | cons x l ih =>
  show S151.c _ ++ ((slotsL nm kd l).map S151.c).flatten = _;rw [ih]; rfl
theorem c103X {g : List (Nat × List Value)} (nm kd : ByteArray) (p : S45) (mi : Int) (hp : s102 p = 0) (hm0 : 0 ≤ mi) (hm1 : mi ≤ 1000000) : Con (EG g) 35 [G.str nm, G.str kd, G.agg [G.int p.fFrom, G.int p.fTo, G.int p.Days], G.int mi] (G.slX 3 (List.map S151.c (slotsL nm kd (momL mi (dayL p.Days (p.fTo + 1 - p.fFrom).toNat p.fFrom))))) := by
 intro w M vs hM hgl hv
 match vs, hv with
 | [v1, v2, v3, v4], hv =>
  obtain ⟨rfl, rfl, ⟨us, rfl, hu⟩, rfl, _⟩ := hv;have : us = [.int .i64 p.fFrom, .int .i64 p.fTo, .int .i64 p.Days] := fits_lits_eq (vs := [.int .i64 p.fFrom, .int .i64 p.fTo, .int .i64 p.Days]) hu;subst this;refine (callsIn_wide.1 (slotsOf_in nm kd p hp mi hm0 hm1 w)).mono ?_;rintro e W' ⟨v, rfl, ⟨h1, h2⟩, h3⟩;refine ⟨v, rfl, h3, fun c hc => ?_, ?_⟩
  ·obtain ⟨x, _, rfl⟩ := List.mem_map.1 hc; rfl
  ·rcases h2 with ⟨rfl, h2⟩ | ⟨gg, cap, cur, rfl, g1, g2, g3, g4, g5, g6⟩
   ·exact .inl ⟨by rw [List.eq_nil_of_length_eq_zero h2]; rfl, rfl⟩
   ·have hlen : (List.map S151.c (slotsL nm kd (momL mi (dayL p.Days (p.fTo + 1 - p.fFrom).toNat p.fFrom)))).length = (momL mi (dayL p.Days (p.fTo + 1 - p.fFrom).toNat p.fFrom)).length := by simp [slotsL]
    refine .inr ⟨gg, cap, cur, 110, by rw [hlen], by rw [hlen]; exact g3, g4, fun hm => by have := hM _ hm; omega, g2, g5, ?_⟩;rw [hlen, g6, flat_slots];refine fits_lit fun v hv => ?_;obtain ⟨x, _, hx⟩ := List.mem_flatMap.1 hv
    simp [slotVs] at hx
    rcases hx with rfl | rfl | rfl <;> rfl
end Go.Sim
set_option maxRecDepth 10000
namespace Go.Sim
open Go.Proofs
def s40 (a0 : S45) : Int :=
 (bif (decide ((s109 a0.fFrom) ≠ 0)) || (decide ((s109 a0.fTo) ≠ 0)) then 3 else (bif decide (a0.fTo < a0.fFrom) then 11 else (bif decide (400 < IntKind.i64.wrap (a0.fTo - a0.fFrom)) then 4 else (s90 a0.Days 1 127))))
theorem c40 {g : List (Nat × List Value)} (a0 : S45)    : Con (EG g) 24 [G.agg [G.int a0.fFrom, G.int a0.fTo, G.int a0.Days]] (G.int (s40 a0)) := by
 generalize hR : s40 a0 = R;unfold s40 at hR;refine con_of_aw Tryz.func24 rfl rfl fun w0 M0 => ?_;refine aw_seq ?_;refine aw_region [.p, .p] ?_;refine su (eff_box rfl rfl) rfl ?_;refine sa rfl rfl ?_;refine st_nil ?_;refine aw_seq ?_;refine aw_seq ?_;refine aw_region [.p, .p, .p, .p, .p, .p, .p, .p, .p, .p] ?_;refine su (eff_fieldAddr rfl fl46_0 rfl) rfl ?_;refine su (eff_load rfl ty3 rfl) rfl ?_;refine su (eff_call rfl K109 rfl (c109 a0.fFrom) (ag_cons rfl ag_nil)) rfl ?_;refine su (eff_neq rfl rfl rfl) rfl ?_;refine sm rfl rfl ?_;refine sg rfl rfl (fun h => eff_fieldAddr rfl fl46_1 rfl) rfl ?_;refine sg rfl rfl (fun h => eff_load rfl ty3 (gd h rfl)) rfl ?_;refine sg rfl rfl (fun h => eff_call rfl K109 rfl (c109 a0.fTo) (ag_cons (gd h rfl) ag_nil)) rfl ?_;refine sg rfl rfl (fun h => eff_neq rfl (gd h rfl) rfl) rfl ?_;refine su (eff_or rfl rfl rfl rfl) rfl ?_;refine st_nil ?_;refine aw_cond _ rfl (fun h1 => ?_) (fun h1 => ?_)
 ·replace h1 : ((decide ((s109 a0.fFrom) ≠ 0)) || (decide ((s109 a0.fTo) ≠ 0))) = true := h1;replace hR := condT hR h1;(try simp only [bB] at h1);refine aw_seq ?_;refine aw_region [.p] ?_;refine sa rfl rfl ?_;refine st_nil ?_;refine aw_ret ?_;subst hR;exact res_c rfl (rv_g rfl)
 ·replace h1 : ((decide ((s109 a0.fFrom) ≠ 0)) || (decide ((s109 a0.fTo) ≠ 0))) = false := h1;replace hR := condF hR h1;(try simp only [bB] at h1);refine aw_skip ?_;refine aw_seq ?_;refine aw_seq ?_;refine aw_region [.p, .p, .p, .p, .p] ?_;refine su (eff_fieldAddr rfl fl46_1 rfl) rfl ?_;refine su (eff_load rfl ty3 rfl) rfl ?_;refine su (eff_fieldAddr rfl fl46_0 rfl) rfl ?_;refine su (eff_load rfl ty3 rfl) rfl ?_;refine su (eff_lss rfl rfl rfl) rfl ?_;refine st_nil ?_;refine aw_cond _ rfl (fun h2 => ?_) (fun h2 => ?_)
  ·replace h2 : (decide (a0.fTo < a0.fFrom)) = true := h2;replace hR := condT hR h2;(try simp only [bB] at h2);refine aw_seq ?_;refine aw_region [.p] ?_;refine sa rfl rfl ?_;refine st_nil ?_;refine aw_ret ?_;subst hR;exact res_c rfl (rv_g rfl)
  ·replace h2 : (decide (a0.fTo < a0.fFrom)) = false := h2;replace hR := condF hR h2;(try simp only [bB] at h2);refine aw_skip ?_;refine aw_seq ?_;refine aw_seq ?_;refine aw_region [.p, .p, .p, .p, .p, .p] ?_;refine su (eff_fieldAddr rfl fl46_1 rfl) rfl ?_;refine su (eff_load rfl ty3 rfl) rfl ?_;refine su (eff_fieldAddr rfl fl46_0 rfl) rfl ?_;refine su (eff_load rfl ty3 rfl) rfl ?_;refine su (eff_subw rfl rfl rfl) rfl ?_;refine su (eff_gtr rfl rfl rfl) rfl ?_;refine st_nil ?_;refine aw_cond _ rfl (fun h3 => ?_) (fun h3 => ?_)
   ·replace h3 : (decide (400 < IntKind.i64.wrap (a0.fTo - a0.fFrom))) = true := h3;replace hR := condT hR h3;(try simp only [bB] at h3);refine aw_seq ?_;refine aw_region [.p] ?_;refine sa rfl rfl ?_;refine st_nil ?_;refine aw_ret ?_;subst hR;exact res_c rfl (rv_g rfl)
   ·replace h3 : (decide (400 < IntKind.i64.wrap (a0.fTo - a0.fFrom))) = false := h3;replace hR := condF hR h3;(try simp only [bB] at h3);refine aw_skip ?_;refine aw_seq ?_;refine aw_region [.p, .p, .p, .p] ?_;refine su (eff_fieldAddr rfl fl46_2 rfl) rfl ?_;refine su (eff_load rfl ty3 rfl) rfl ?_;refine su (eff_call rfl K90 rfl (c90 a0.Days 1 127) (ag_cons rfl (ag_cons rfl (ag_cons rfl ag_nil)))) rfl ?_;refine sa rfl rfl ?_;refine st_nil ?_;refine aw_ret ?_;subst hR;exact res_c rfl (rv_g rfl)
def s180 (a0 : Int) : Int :=
 Int.tmod (IntKind.i64.wrap (a0 + 5)) 7
theorem c180 {g : List (Nat × List Value)} (a0 : Int)    : Con (EG g) 22 [G.int a0] (G.int (s180 a0)) := by
 generalize hR : s180 a0 = R;unfold s180 at hR;refine con_of_aw Tryz.func22 rfl rfl fun w0 M0 => ?_;refine aw_seq ?_;refine aw_region [.p] ?_;refine sa rfl rfl ?_;refine st_nil ?_;refine aw_seq ?_;refine aw_region [.p, .p, .p, .p] ?_;refine sm rfl rfl ?_;refine su (eff_addw rfl rfl rfl) rfl ?_;refine su (eff_remt rfl rfl rfl (by decide)) rfl ?_;refine sa rfl rfl ?_;refine st_nil ?_;refine aw_ret ?_;subst hR;exact res_c rfl (rv_g rfl)
theorem s180_le (x : Int) : s180 x ≤ 7 := by
 unfold s180;generalize IntKind.i64.wrap (x + 5) = y;have := Int.tmod_lt_of_pos y (show (0 : Int) < 7 by decide)
 omega
end Go.Sim
set_option maxRecDepth 10000
namespace Go.Sim
open Go.Proofs
def s192_l1  : Nat → Int → Int → Bool
 | 0, x1, x2 => decide (Int.tmod x1 2 = 1)
 | k4 + 1, x1, x2 => s192_l1 k4 (IntKind.i64.wrap (Int.tdiv x1 2)) (x2 + 1)
def s192 (a0 : Int) (a1 : Int) : Bool :=
 s192_l1 ((a1 - 0).toNat) a0 0
theorem c192 {g : List (Nat × List Value)} (a0 : Int) (a1 : Int)  (hw : a1 ≤ 7)  : Con (EG g) 23 [G.int a0, G.int a1] (G.bool (s192 a0 a1)) := by
 generalize hR : s192 a0 a1 = R;unfold s192 at hR;refine con_of_aw Tryz.func23 rfl rfl fun w0 M0 => ?_;refine aw_seq ?_;refine aw_region [.p] ?_;refine sa rfl rfl ?_;refine st_nil ?_;refine aw_seq ?_;refine aw_seq ?_;refine aw_region [.p] ?_;refine sa rfl rfl ?_;refine st_nil ?_;refine aw_block ?_;refine aw_loop_g (γ := Nat × Int × Int) (fun g => ([(0, .g (G.int g.2.1)), (1, .g (G.int a1)), (5, .g (G.int g.2.2))], [])) (fun g => g.1 = (a1 - g.2.2).toNat ∧ 0 ≤ g.2.2 ∧ s192_l1 g.1 g.2.1 g.2.2 = R) (fun g => g.1) ⟨rfl, ((a1 - 0).toNat, a0, 0), ⟨rfl, rfl, rfl, trivial⟩, trivial, rfl, ⟨rfl, iD, hR⟩, trivial⟩ ?_
 ·rintro ⟨k4, x1, x2⟩ ⟨hk1, iv1_0, hR⟩;replace hk1 : k4 = (a1 - x2).toNat := hk1;replace hR : s192_l1 k4 x1 x2 = R := hR;replace iv1_0 : 0 ≤ x2 := iv1_0;refine aw_seq ?_;refine aw_seq ?_;refine aw_region [.p, .p, .p] ?_;refine sm rfl rfl ?_;refine sm rfl rfl ?_;refine su (eff_lss rfl rfl rfl) rfl ?_;refine st_nil ?_;refine aw_cond _ rfl (fun h1 => ?_) (fun h1 => ?_)
  ·replace h1 : (decide (x2 < a1)) = true := h1;replace h1 := decT h1;obtain ⟨k4, rfl⟩ : ∃ m, k4 = m + 1 := ⟨k4 - 1, by omega⟩;rw [s192_l1] at hR;(try dsimp only at hR);refine aw_skip ?_;refine aw_seq ?_;refine aw_block ?_;refine aw_region [.p, .p, .p] ?_;refine sm rfl rfl ?_;refine su (eff_quow rfl rfl rfl (by decide)) rfl ?_;refine sa rfl rfl ?_;refine st_nil ?_;refine aw_region [.p, .p, .p] ?_;refine sm rfl rfl ?_;refine su (eff_add rfl rfl rfl iG) rfl ?_;refine sa rfl rfl ?_;refine st_nil ?_;exact ⟨rfl, (k4, IntKind.i64.wrap (Int.tdiv x1 2), x2 + 1), ⟨rfl, rfl, rfl, trivial⟩, trivial, rfl, ⟨iB, iB, hR⟩, by simp⟩
  ·replace h1 : (decide (x2 < a1)) = false := h1;replace h1 := decF h1
   obtain rfl : k4 = 0 := by omega
   rw [s192_l1] at hR;refine aw_exit ?_;refine aw_seq ?_;refine aw_region [.p, .p, .p, .p] ?_;refine sm rfl rfl ?_;refine su (eff_remt rfl rfl rfl (by decide)) rfl ?_;refine su (eff_eql rfl rfl rfl) rfl ?_;refine sa rfl rfl ?_;refine st_nil ?_;refine aw_ret ?_;subst hR;exact res_c rfl (rv_g rfl)
def s157 (a0 : S45) (a1 : Int) : Bool :=
 ((decide (a0.fFrom ≤ a1)) && (decide (a1 ≤ a0.fTo))) && (s192 a0.Days (s180 a1))
theorem c157 {g : List (Nat × List Value)} (a0 : S45) (a1 : Int)    : Con (EG g) 49 [G.agg [G.int a0.fFrom, G.int a0.fTo, G.int a0.Days], G.int a1] (G.bool (s157 a0 a1)) := by
 generalize hR : s157 a0 a1 = R;unfold s157 at hR;refine con_of_aw Tryz.func49 rfl rfl fun w0 M0 => ?_;refine aw_seq ?_;refine aw_region [.p, .p] ?_;refine su (eff_box rfl rfl) rfl ?_;refine sa rfl rfl ?_;refine st_nil ?_;refine aw_seq ?_;refine aw_draw [.p, .p, .p, .p, .p, .p, .p, .p, .p, .p, .p, .p, .p, .p, .p, .p, .p, .p] (by kernel_rfl) ?_;refine sm rfl rfl ?_;refine su (eff_fieldAddr rfl fl46_0 rfl) rfl ?_;refine su (eff_load rfl ty3 rfl) rfl ?_;refine su (eff_geq rfl rfl rfl) rfl ?_;refine sm rfl rfl ?_;refine sg rfl rfl (fun h => eff_moveg rfl rfl) rfl ?_;refine sg rfl rfl (fun h => eff_fieldAddr rfl fl46_1 rfl) rfl ?_;refine sg rfl rfl (fun h => eff_load rfl ty3 (gd h rfl)) rfl ?_;refine sg rfl rfl (fun h => eff_leq rfl (gd h rfl) (gd h rfl)) rfl ?_;refine su (eff_and rfl rfl rfl rfl) rfl ?_;refine sm rfl rfl ?_;refine sg rfl rfl (fun h => eff_fieldAddr rfl fl46_2 rfl) rfl ?_;refine sg rfl rfl (fun h => eff_load rfl ty3 (gd h rfl)) rfl ?_;refine sg rfl rfl (fun h => eff_moveg rfl rfl) rfl ?_;refine sg rfl rfl (fun h => eff_call rfl K180 rfl (c180 a1) (ag_cons (gd h rfl) ag_nil)) rfl ?_;refine sg rfl rfl (fun h => eff_call rfl K192 rfl (c192 a0.Days (s180 a1) (s180_le _)) (ag_cons (gd h rfl) (ag_cons (gd h rfl) ag_nil))) rfl ?_;refine su (eff_and rfl rfl rfl rfl) rfl ?_;refine sa rfl rfl ?_;refine st_nil ?_;refine aw_ret ?_;subst hR;exact res_c rfl (rv_g rfl)
def s104_j1 (rec1 : (List Int) → Int → List Int) (x2 : Int) (x4 : List Int) : List Int :=
 rec1 x4 (x2 + 1)
def s104_l1 (a0 : S45) : Nat → (List Int) → Int → List Int
 | 0, x1, x2 => x1
 | k3 + 1, x1, x2 => (bif (s157 a0 x2) then s104_j1 (fun z0_ z1_ => s104_l1 a0 k3 z0_ z1_) x2 (x1 ++ [x2]) else s104_j1 (fun z0_ z1_ => s104_l1 a0 k3 z0_ z1_) x2 x1)
def s104 (a0 : S45) : List Int :=
 s104_l1 a0 (((a0.fTo + 1) - a0.fFrom).toNat) [] a0.fFrom
theorem c104 {g : List (Nat × List Value)} (a0 : S45)  (hp0 : 0 ≤ a0.fFrom) (hp1 : a0.fTo ≤ 1000000)  : Con (EG g) 18 [G.agg [G.int a0.fFrom, G.int a0.fTo, G.int a0.Days]] (G.sl 1 (List.map cInt (s104 a0))) := by
 generalize hR : s104 a0 = R;unfold s104 at hR;refine con_of_aw Tryz.func18 rfl rfl fun w0 M0 => ?_;refine aw_seq ?_;refine aw_region [.p, .w] ?_;refine su (eff_box rfl rfl) rfl ?_;refine sw (eff_nilL 2 3 1 rfl rfl rfl) rfl ?_;refine st_nil ?_;refine aw_seq ?_;refine aw_region [.w] ?_;refine sw (eff_nilL 3 3 1 rfl rfl rfl) rfl ?_;refine st_nil ?_;refine aw_seq ?_;refine aw_seq ?_;refine aw_region [.p, .p, .p] ?_;refine su (eff_fieldAddr rfl fl46_0 rfl) rfl ?_;refine su (eff_load rfl ty3 rfl) rfl ?_;refine sa rfl rfl ?_;refine st_nil ?_;refine aw_block ?_;refine aw_loop_g (γ := Nat × (List Int) × Int) (fun g => ([(1, .g (G.ref [G.int a0.fFrom, G.int a0.fTo, G.int a0.Days])), (3, .osl 3 1 0 (List.length g.2.1)), (4, .g (G.int g.2.2))], [(3, .arr 3 1 (List.map cInt g.2.1))])) (fun g => g.1 = ((a0.fTo + 1) - g.2.2).toNat ∧ a0.fFrom ≤ g.2.2 ∧ g.2.1.length ≤ (g.2.2 - a0.fFrom).toNat ∧ s104_l1 a0 g.1 g.2.1 g.2.2 = R) (fun g => g.1) ⟨rfl, (((a0.fTo + 1) - a0.fFrom).toNat, [], a0.fFrom), ⟨rfl, rfl, rfl, trivial⟩, ⟨rfl, trivial⟩, rfl, ⟨rfl, iD, iD, hR⟩, trivial⟩ ?_
 ·rintro ⟨k3, x1, x2⟩ ⟨hk1, iv1_0, iv1_1, hR⟩;replace hk1 : k3 = ((a0.fTo + 1) - x2).toNat := hk1;replace hR : s104_l1 a0 k3 x1 x2 = R := hR;replace iv1_0 : a0.fFrom ≤ x2 := iv1_0;replace iv1_1 : x1.length ≤ (x2 - a0.fFrom).toNat := iv1_1;refine aw_seq ?_;refine aw_seq ?_;refine aw_region [.p, .p, .p, .p] ?_;refine sm rfl rfl ?_;refine su (eff_fieldAddr rfl fl46_1 rfl) rfl ?_;refine su (eff_load rfl ty3 rfl) rfl ?_;refine su (eff_leq rfl rfl rfl) rfl ?_;refine st_nil ?_;refine aw_cond _ rfl (fun h1 => ?_) (fun h1 => ?_)
  ·replace h1 : (decide (x2 ≤ a0.fTo)) = true := h1;replace h1 := decT h1;obtain ⟨k3, rfl⟩ : ∃ m, k3 = m + 1 := ⟨k3 - 1, by omega⟩;rw [s104_l1] at hR;(try dsimp only at hR);refine aw_skip ?_;refine aw_cut_g (γ := (List Int)) (fun g => ([(1, .g (G.ref [G.int a0.fFrom, G.int a0.fTo, G.int a0.Days])), (3, .osl 3 1 0 (List.length g)), (4, .g (G.int x2))], [(3, .arr 3 1 (List.map cInt g))])) (fun g => g.length ≤ (x2 + 1 - a0.fFrom).toNat ∧ s104_j1 (fun z0_ z1_ => s104_l1 a0 k3 z0_ z1_) x2 g = R) ?_ ?_
   ·refine aw_block ?_;refine aw_seq ?_;refine aw_region [.p, .p, .p] ?_;refine su (eff_loadA rfl ty46 rfl rfl rfl) rfl ?_;refine sm rfl rfl ?_;refine su (eff_call rfl K157 rfl (c157 a0 x2) (ag_cons rfl (ag_cons rfl ag_nil))) rfl ?_;refine st_nil ?_;refine aw_cond _ rfl (fun h3 => ?_) (fun h3 => ?_)
    ·replace h3 : ((s157 a0 x2)) = true := h3;replace hR := condT hR h3;(try simp only [bB] at h3);refine aw_region [.p, .p, .p, .k, .p] ?_;refine su (eff_moveO rfl rfl) rfl ?_;refine sm rfl rfl ?_;refine su (eff_buildSlice rfl Tryz.underlying64 ty3 z3 rfl (ps_cons rfl ps_nil) rfl (by simp []) (by decide)) rfl ?_;refine st_k rfl rfl (eff_appL (f := cInt) (out := x1) (new := [x2]) rfl app82 rfl rfl (src_eq rfl (src_sl (by decide) (by simp []))) (refsN rfl) (by simp; omega)) rfl ?_;refine su (eff_assignO rfl rfl) rfl ?_;refine st_nil ?_;exact ⟨rfl, x1 ++ [x2], ⟨rfl, rfl, rfl, trivial⟩, ⟨rfl, trivial⟩, rfl, ⟨iB, hR⟩, trivial⟩
    ·replace h3 : ((s157 a0 x2)) = false := h3;replace hR := condF hR h3;(try simp only [bB] at h3);refine aw_skip ?_;exact ⟨rfl, x1, ⟨rfl, rfl, rfl, trivial⟩, ⟨rfl, trivial⟩, rfl, ⟨iB, hR⟩, trivial⟩
   ·rintro x4 ⟨jv1_0, hR⟩;replace jv1_0 : x4.length ≤ (x2 + 1 - a0.fFrom).toNat := jv1_0;replace hR : s104_j1 (fun z0_ z1_ => s104_l1 a0 k3 z0_ z1_) x2 x4 = R := hR;unfold s104_j1 at hR;refine aw_region [.p, .p, .p] ?_;refine sm rfl rfl ?_;refine su (eff_add rfl rfl rfl iG) rfl ?_;refine sa rfl rfl ?_;refine st_nil ?_;exact ⟨rfl, (k3, x4, x2 + 1), ⟨rfl, rfl, rfl, trivial⟩, ⟨rfl, trivial⟩, rfl, ⟨iB, iB, iB, hR⟩, by simp⟩
  ·replace h1 : (decide (x2 ≤ a0.fTo)) = false := h1;replace h1 := decF h1
   obtain rfl : k3 = 0 := by omega
   rw [s104_l1] at hR;refine aw_exit ?_;refine aw_seq ?_;refine aw_region [.p, .p] ?_;refine su (eff_moveO rfl rfl) rfl ?_;refine su (eff_assignO rfl rfl) rfl ?_;refine st_nil ?_;refine aw_ret ?_;subst hR;exact res_c rfl (rv_viewL rfl rfl)
theorem s84_zero {l : List Int} (h : s84 l = 0) : ∀ x ∈ l, x = 0 := by
 have key : ∀ (l : List Int) (k : Nat), s84_l1 l k = 0 → ∀ x ∈ l, x = 0 := by
  intro l
  induction l with
  | nil => intro k _ x hx; cases hx
  | cons y l ih =>
   intro k h x hx;rw [s84_l1] at h
   by_cases hy : y = 0
   ·subst hy
    simp at h
    rcases List.mem_cons.1 hx with rfl | hx
    ·rfl
    ·exact ih _ h x hx
   ·simp [hy] at h
 exact key l 0 h
theorem s85_zero {a b c : Int} (h : s85 a b c = 0) : b ≤ a ∧ a ≤ c := by
 unfold s85 s86 at h
 by_cases h1 : a < b
 ·simp [h1] at h
 ·by_cases h2 : c < a
  ·simp [h2] at h
  ·omega
theorem series_ok (a0 a1 : ByteArray) (a2 : S45) (a3 : Int) (h : s84 [s87 a0, s101 a1, s102 a2, s85 a3 0 1439] = 0) : s102 a2 = 0 ∧ 0 ≤ a3 ∧ a3 ≤ 1439 := by
 have h1 := s84_zero h (s102 a2) (by simp);have h2 := s85_zero (s84_zero h (s85 a3 0 1439) (by simp));exact ⟨h1, h2⟩
end Go.Sim
set_option maxRecDepth 10000
namespace Go.Sim
open Go.Proofs
def s29 (a0 : ByteArray) (a1 : ByteArray) (a2 : S45) (a3 : Int) : (List S151) × Int :=
 (bif decide ((s84 [(s87 a0), (s101 a1), (s102 a2), (s85 a3 0 1439)]) ≠ 0) then ([], (s84 [(s87 a0), (s101 a1), (s102 a2), (s85 a3 0 1439)])) else (slotsL a0 a1 (momL a3 (dayL a2.Days (a2.fTo + 1 - a2.fFrom).toNat a2.fFrom)), 0))
theorem c29 {g : List (Nat × List Value)} (a0 : ByteArray) (a1 : ByteArray) (a2 : S45) (a3 : Int)    : Con (EG g) 10 [G.str a0, G.str a1, G.agg [G.int a2.fFrom, G.int a2.fTo, G.int a2.Days], G.int a3] (G.tup [G.slX 3 (List.map S151.c ((s29 a0 a1 a2 a3)).1), G.int ((s29 a0 a1 a2 a3)).2]) := by
 generalize hR : s29 a0 a1 a2 a3 = R;unfold s29 at hR;refine con_of_aw Tryz.func10 rfl rfl fun w0 M0 => ?_;refine aw_seq ?_;refine aw_region [.p, .p, .p] ?_;refine su (eff_box rfl rfl) rfl ?_;refine sa rfl rfl ?_;refine sa rfl rfl ?_;refine st_nil ?_;refine aw_seq ?_;refine aw_seq ?_;refine aw_draw [.p, .p, .p, .p, .p, .p, .p, .p, .p, .p, .p] (by kernel_rfl) ?_;refine sm rfl rfl ?_;refine su (eff_call rfl K87 rfl (c87 a0) (ag_cons rfl ag_nil)) rfl ?_;refine sm rfl rfl ?_;refine su (eff_call rfl K101 rfl (c101 a1) (ag_cons rfl ag_nil)) rfl ?_;refine su (eff_loadA rfl ty46 rfl rfl rfl) rfl ?_;refine su (eff_call rfl K102 rfl (c102 a2) (ag_cons rfl ag_nil)) rfl ?_;refine sm rfl rfl ?_;refine su (eff_call rfl K85 rfl (c85 a3 0 1439) (ag_cons rfl (ag_cons rfl (ag_cons rfl ag_nil)))) rfl ?_;refine su (eff_buildSlice rfl Tryz.underlying156 ty37 z37 rfl (ps_cons rfl (ps_cons rfl (ps_cons rfl (ps_cons rfl ps_nil)))) rfl (by simp []) (by decide)) rfl ?_;refine su (eff_call rfl K84 rfl (c84 [(s87 a0), (s101 a1), (s102 a2), (s85 a3 0 1439)]) (ag_cons rfl ag_nil)) rfl ?_;refine sa rfl rfl ?_;refine st_nil ?_;refine aw_seq ?_;refine aw_region [.p, .p] ?_;refine sm rfl rfl ?_;refine su (eff_neq rfl rfl rfl) rfl ?_;refine st_nil ?_;refine aw_cond _ rfl (fun h1 => ?_) (fun h1 => ?_)
 ·replace h1 : (decide ((s84 [(s87 a0), (s101 a1), (s102 a2), (s85 a3 0 1439)]) ≠ 0)) = true := h1;replace hR := condT hR h1;(try simp only [bB] at h1);refine aw_seq ?_;refine aw_region [.p, .p, .p] ?_;refine sm rfl rfl ?_;refine sa rfl rfl ?_;refine sa rfl rfl ?_;refine st_nil ?_;refine aw_ret ?_;subst hR;exact resN rfl ⟨rv_nilG rfl (nil_slX _), rv_g rfl, trivial⟩ (by simp)
 ·replace h1 : (decide ((s84 [(s87 a0), (s101 a1), (s102 a2), (s85 a3 0 1439)]) ≠ 0)) = false := h1;replace hR := condF hR h1;(try simp only [bB] at h1);have hp := series_ok a0 a1 a2 a3 (by simpa using h1);refine aw_skip ?_;refine aw_seq ?_;refine aw_region [.p, .p, .p, .p, .p, .p, .p] ?_;refine sm rfl rfl ?_;refine sm rfl rfl ?_;refine su (eff_loadA rfl ty46 rfl rfl rfl) rfl ?_;refine sm rfl rfl ?_;refine su (eff_call rfl K103 rfl (c103X a0 a1 a2 a3 hp.1 hp.2.1 (by omega)) (ag_cons rfl (ag_cons rfl (ag_cons rfl (ag_cons rfl ag_nil))))) rfl ?_;refine sa rfl rfl ?_;refine sa rfl rfl ?_;refine st_nil ?_;refine aw_ret ?_;subst hR;exact resN rfl ⟨rv_g rfl, rv_g rfl, trivial⟩ (by simp)
def s92_l1 (a1 : ByteArray) : List ByteArray → Nat → Bool
 | [], k2 => false
 | y3 :: t4, k2 => (bif decide (y3 = a1) then true else s92_l1 a1 t4 (k2 + 1))
def s92 (a0 : List ByteArray) (a1 : ByteArray) : Bool :=
 s92_l1 a1 a0 0
def s127 (a0 : S151) (a1 : S151) : Bool :=
 (bif decide (a0.Moment ≠ a1.Moment) then decide (a0.Moment < a1.Moment) else (bif !decide (a0.Name = a1.Name) then strLt a0.Name a1.Name else strLt a0.Kind a1.Kind || decide (a0.Kind = a1.Kind)))
def s179 (a0 : S104) (a1 : S151) : Bool :=
 (((decide (a0.Kind = (⟨#[119, 101, 97, 116, 104, 101, 114]⟩))) || (decide (a0.Name = a1.Name))) && (decide (a0.fFrom ≤ IntKind.i64.wrap (Int.tdiv a1.Moment 1440)))) && (decide (IntKind.i64.wrap (Int.tdiv a1.Moment 1440) ≤ a0.fTo))
def s128_l1 (a0 : S23) (a1 : S151) : List S104 → Nat → Bool
 | [], k2 => false
 | y3 :: t4, k2 => (bif ((decide (y3.Kind = (⟨#[98, 97, 99, 107]⟩))) && (s179 y3 a1)) && (decide (IntKind.i64.wrap (y3.Told + a0.Notice) ≤ IntKind.i64.wrap (Int.tdiv a1.Moment 1440))) then true else s128_l1 a0 a1 t4 (k2 + 1))
def s128 (a0 : S23) (a1 : S151) (a2 : List S104) : Bool :=
 s128_l1 a0 a1 a2 0
def s129_l1 (a0 : S23) (a1 : S151) : List S104 → Nat → Bool
 | [], k2 => false
 | y3 :: t4, k2 => (bif (s179 y3 a1) && ((decide (y3.Kind = (⟨#[119, 101, 97, 116, 104, 101, 114]⟩))) || ((decide (y3.Kind = (⟨#[99, 97, 110, 99, 101, 108]⟩))) && (s92 a0.Causes y3.Cause))) then true else s129_l1 a0 a1 t4 (k2 + 1))
def s129 (a0 : S23) (a1 : S151) (a2 : List S104) : Bool :=
 s129_l1 a0 a1 a2 0
theorem s89_nil : s89 [] = 0 := rfl
theorem s89_l (l : List Int) (k k' : Nat) : s89_l1 l k = s89_l1 l k' := by
 induction l generalizing k k' with
 | nil => rfl
 | cons x l ih => rw [s89_l1, s89_l1, ih (k + 1) (k' + 1)]
theorem s89_cons (x : Int) (l : List Int) : s89 (x :: l) = bif decide (x ≠ 0) then x else s89 l := by
 unfold s89; rw [s89_l1, s89_l l 1 0]
theorem s148_l (a : ByteArray) (l : List ByteArray) (k : Nat) : decide (0 ≤ s148_l1 a l k) = s92_l1 a l k := by
 induction l generalizing k with
 | nil => rfl
 | cons y l ih =>
  rw [s148_l1, s92_l1]
  by_cases h : a = y
  ·subst h; simp
  ·have h' : ¬ y = a := fun e => h e.symm;simp only [h, h', decide_false, cond_false]; exact ih _
theorem s88_s92 (l : List ByteArray) (a : ByteArray) : s88 l a = s92 l a := s148_l a l 0
theorem s93_l (f : S151 → Int) (l : List S151) (k : Nat) (x : List Int) : s93_l1 f l k x = x ++ l.map f := by
 induction l generalizing k x with
 | nil => simp [s93_l1]
 | cons y l ih => rw [s93_l1, ih]; simp
def o (x y : Int) : Int := bif decide (x ≠ 0) then x else y
theorem c29' {g : List (Nat × List Value)} (a0 a1 : ByteArray) (a2 : S45) (a3 : Int) : Con (EG g) 10 [G.str a0, G.str a1, G.agg [G.int a2.fFrom, G.int a2.fTo, G.int a2.Days], G.int a3] (G.tup [G.sl 3 (List.map S151.c ((s29 a0 a1 a2 a3)).1), G.int ((s29 a0 a1 a2 a3)).2]) := by
 intro w M vs hM hgl hv;refine (c29 a0 a1 a2 a3 w M vs hM hgl hv).mono ?_;rintro e w' ⟨v, h1, h2, us, h3, h4⟩;refine ⟨v, h1, h2, us, h3, ?_⟩
 match us, h4 with
 | [u1, u2], ⟨k1, k2, k3⟩ => exact ⟨slX_sl k1, k2, k3⟩
theorem s29_len (a0 a1 : ByteArray) (a2 : S45) (a3 : Int) : (s29 a0 a1 a2 a3).1.length * 40 ≤ 140737488351232 := by
 unfold s29
 by_cases h : s84 [(s87 a0), (s101 a1), (s102 a2), (s85 a3 0 1439)] = 0
 ·rw [decide_eq_false (by simpa using h), cond_false];obtain ⟨h1, _, _⟩ := series_ok a0 a1 a2 a3 h;obtain ⟨q1, q2, q3, q4, _, _⟩ := period_ok a2 h1;have := dayL_len a2.Days (a2.fTo + 1 - a2.fFrom).toNat a2.fFrom;simp only [slotsL, momL, List.length_map]
  omega
 ·rw [decide_eq_true (by simpa using h), cond_true];show (0 : Nat) * 40 ≤ 140737488351232
  decide
theorem period_eq (p : S45) : s102 p = s40 p := by
 unfold s102 s40
 have e : ∀ l, s152 l = s89 l := fun l => by
  unfold s152 s89;generalize 0 = k
  induction l generalizing k with
  | nil => rfl
  | cons x l ih => rw [s152_l1, s89_l1, ih]
 simp only [e, s89_cons, s89_nil, s153, s155, s109, s90, s154]
 by_cases h1 : p.fFrom < 0 <;> by_cases h1' : 99999 < p.fFrom <;> by_cases h2 : p.fTo < 0 <;> by_cases h2' : 99999 < p.fTo <;> simp only [h1, h1', h2, h2', decide_true, decide_false, Bool.or_true, Bool.true_or, Bool.or_false, cond_true, cond_false] <;> try rfl
 by_cases h3 : p.fTo < p.fFrom <;> by_cases h4 : 400 < IntKind.i64.wrap (p.fTo - p.fFrom) <;> by_cases h5 : p.Days < 1 <;> by_cases h6 : 127 < p.Days <;> simp [h3, h4, h5, h6]
set_option maxRecDepth 100000 in
theorem mask_all : ∀ m : Fin 128, ∀ w : Fin 7, s192 (m.1 : Int) (w.1 : Int) = decide (andI (shrI (m.1 : Int) (w.1 : Int)) 1 = 1) := by decide +kernel
theorem mask_eq {m d : Int} (h1 : 1 ≤ m) (h2 : m ≤ 127) (h3 : 0 ≤ d) (h4 : d ≤ 1000000) : s192 m (s180 d) = inM m d := by
 have hw : s180 d = (d + 5) % 7 := by
  unfold s180;rw [wrap_i64 (by unfold I64; omega), Int.tmod_eq_emod_of_nonneg (by omega)]
 rw [hw];have := mask_all ⟨m.toNat, by omega⟩ ⟨((d + 5) % 7).toNat, by omega⟩;simp only at this;rw [Int.toNat_of_nonneg (by omega), Int.toNat_of_nonneg (by omega)] at this;exact this
theorem s104_loop (p : S45) (h1 : 1 ≤ p.Days) (h2 : p.Days ≤ 127) (h3 : 0 ≤ p.fFrom) (h4 : p.fTo ≤ 99999) : ∀ (n : Nat) (x : List Int) (d : Int), p.fFrom ≤ d → n = (p.fTo + 1 - d).toNat → s104_l1 p n x d = x ++ dayL p.Days n d
 | 0, x, d, _, _ => by simp [s104_l1, dayL]
 | n + 1, x, d, hd, hn => by
  rw [s104_l1, dayL]
  have hs : s157 p d = inM p.Days d := by
   unfold s157;rw [mask_eq h1 h2 (by omega) (by omega), decide_eq_true (by omega), decide_eq_true (by omega)]
   simp
  rw [hs];unfold s104_j1;have ih := fun x => s104_loop p h1 h2 h3 h4 n x (d + 1) (by omega) (by omega);show (bif inM p.Days d then s104_l1 p n (x ++ [d]) (d + 1) else s104_l1 p n x (d + 1)) = _;rw [ih, ih]
  cases inM p.Days d <;> simp
theorem days_eq (p : S45) (h : s102 p = 0) : s104 p = dayL p.Days (p.fTo + 1 - p.fFrom).toNat p.fFrom := by
 obtain ⟨q1, q2, q3, q4, q5, q6⟩ := period_ok p h;unfold s104;rw [s104_loop p q5 q6 q1 q3 _ _ _ (Int.le_refl _) rfl]; rfl
theorem dayL_range (m : Int) : ∀ (n : Nat) (f : Int), ∀ d ∈ dayL m n f, f ≤ d ∧ d < f + n
 | 0, f, d, h => by simp [dayL] at h
 | n + 1, f, d, h => by
  unfold dayL at h
  split at h
  ·rcases List.mem_cons.1 h with rfl | h
   ·omega
   ·have := dayL_range m n _ d h; omega
  ·have := dayL_range m n _ d h; omega
theorem s180_emod {x : Int} (h : 0 ≤ x) (h' : x ≤ 1000000000) : s180 x = (x + 5) % 7 := by
 unfold s180;rw [wrap_i64 ⟨by omega, by omega⟩, Int.tmod_eq_emod_of_nonneg (by omega)]
theorem c69' {g : List (Nat × List Value)} (a0 : S45) : Con (EG g) 16 [G.agg [G.int a0.fFrom, G.int a0.fTo, G.int a0.Days]] (G.tup [G.sl 1 (List.map cInt ((s69 a0)).1), G.int ((s69 a0)).2]) := by
 intro w M vs hM hgl hv;refine (c69 a0 w M vs hM hgl hv).mono ?_;rintro e w' ⟨v, h1, h2, us, h3, h4⟩;refine ⟨v, h1, h2, us, h3, ?_⟩
 match us, h4 with
 | [u1, u2], ⟨k1, k2, k3⟩ => exact ⟨slX_sl k1, k2, k3⟩
theorem s69_days {p : S45} (h : s102 p = 0) : (s69 p).1 = s104 p := by
 rw [days_eq p h];unfold s69;rw [decide_eq_false (by simpa using h), cond_false]
end Go.Sim
set_option maxRecDepth 10000
namespace Go.Sim
open Go.Proofs
def s106 (a0 : S23) (a1 : S55) : Bool :=
 (decide (0 < a1.Due)) && (decide (IntKind.i64.wrap (a0.Share * a1.Due) ≤ IntKind.i64.wrap (100 * a1.Flown)))
theorem c106 {g : List (Nat × List Value)} (a0 : S23) (a1 : S55)    : Con (EG g) 40 [G.agg [G.int a0.Before, G.int a0.After, G.int a0.Notice, G.int a0.Share, G.sl 1 (List.map cStr a0.Causes), G.int a0.Off, G.int a0.Run], G.agg [G.int a1.Flown, G.int a1.Due]] (G.bool (s106 a0 a1)) := by
 generalize hR : s106 a0 a1 = R;unfold s106 at hR;refine con_of_aw Tryz.func40 rfl rfl fun w0 M0 => ?_;refine aw_seq ?_;refine aw_region [.p, .p, .p] ?_;refine su (eff_box rfl rfl) rfl ?_;refine su (eff_box rfl rfl) rfl ?_;refine sa rfl rfl ?_;refine st_nil ?_;refine aw_seq ?_;refine aw_region [.p, .p, .p, .p, .p, .p, .p, .p, .p, .p, .p, .p, .p, .p, .p] ?_;refine su (eff_fieldAddr rfl fl56_1 rfl) rfl ?_;refine su (eff_load rfl ty3 rfl) rfl ?_;refine su (eff_gtr rfl rfl rfl) rfl ?_;refine sm rfl rfl ?_;refine sg rfl rfl (fun h => eff_fieldAddr rfl fl56_0 rfl) rfl ?_;refine sg rfl rfl (fun h => eff_load rfl ty3 (gd h rfl)) rfl ?_;refine sg rfl rfl (fun h => eff_mulw rfl rfl (gd h rfl)) rfl ?_;refine sg rfl rfl (fun h => eff_fieldAddr rfl fl24_3 rfl) rfl ?_;refine sg rfl rfl (fun h => eff_load rfl ty3 (gd h rfl)) rfl ?_;refine sg rfl rfl (fun h => eff_fieldAddr rfl fl56_1 rfl) rfl ?_;refine sg rfl rfl (fun h => eff_load rfl ty3 (gd h rfl)) rfl ?_;refine sg rfl rfl (fun h => eff_mulw rfl (gd h rfl) (gd h rfl)) rfl ?_;refine sg rfl rfl (fun h => eff_geq rfl (gd h rfl) (gd h rfl)) rfl ?_;refine su (eff_and rfl rfl rfl rfl) rfl ?_;refine sa rfl rfl ?_;refine st_nil ?_;refine aw_ret ?_;subst hR;exact res_c rfl (rv_g rfl)
end Go.Sim
set_option maxRecDepth 10000
namespace Go.Sim
open Go.Proofs
def s202 (a0 : Int) : Bool :=
 decide (a0 ≠ a0)
theorem c202 {g : List (Nat × List Value)} (a0 : Int)    : Con (EG g) 196 [G.int a0] (G.bool (s202 a0)) := by
 generalize hR : s202 a0 = R;unfold s202 at hR;refine con_of_aw Tryz.func196 rfl rfl fun w0 M0 => ?_;refine aw_seq ?_;refine aw_region [.p] ?_;refine sa rfl rfl ?_;refine st_nil ?_;refine aw_seq ?_;refine aw_region [.p, .p, .p, .p] ?_;refine sm rfl rfl ?_;refine sm rfl rfl ?_;refine su (eff_neq rfl rfl rfl) rfl ?_;refine sa rfl rfl ?_;refine st_nil ?_;refine aw_ret ?_;subst hR;exact res_c rfl (rv_g rfl)
def s252_l2 (rec1 : Int → (List Int) → Option (List Int)) (a1 : Int) (a3 : Int → Int → Option Int) (x1 : Int) : Nat → Int → (List Int) → Option (List Int)
 | 0, _, _ => none
 | k8 + 1, x5, x6 => bindO (bif decide (a1 < x5) then ixO x6 x5 else some default) fun y9 => bindO (bif decide (a1 < x5) then ixO x6 (x5 - 1) else some default) fun y10 => bindO (bif decide (a1 < x5) then a3 y9 y10 else some default) fun r11 => (bif (decide (a1 < x5)) && (decide (r11 < 0)) then bindO (ixO x6 (x5 - 1)) fun y12 => bindO (ixO x6 x5) fun y13 => bindO (ixO x6 x5) fun y14 => bindO (ixO (List.set x6 (Int.toNat x5) y12) (x5 - 1)) fun y15 => s252_l2 rec1 a1 a3 x1 k8 (x5 - 1) (List.set (List.set x6 (Int.toNat x5) y12) (Int.toNat (x5 - 1)) y13) else rec1 (x1 + 1) x6)
def s252_l1 (a1 : Int) (a3 : Int → Int → Option Int) : Nat → Int → (List Int) → Option (List Int)
 | 0, x1, x2 => some x2
 | k4 + 1, x1, x2 => s252_l2 (fun z0_ z1_ => s252_l1 a1 a3 k4 z0_ z1_) a1 a3 x1 (((x1 - a1).toNat) + 1) x1 x2
def s252 (a0 : List Int) (a1 : Int) (a2 : Int) (a3 : Int → Int → Option Int) : Option (List Int) :=
 s252_l1 a1 a3 ((a2 - (a1 + 1)).toNat) (a1 + 1) a0
theorem c252 {g : List (Nat × List Value)} (a0 : List Int) (a1 : Int) (a2 : Int) (a3 : Int → Int → Option Int) {R : List Int} {N0 : Nat} (hN0 : List.length a0 = N0) {ca3 : G} {ia3 : FuncId} {ka3 : List G} (ha3 : FnIs ca3 ia3 ka3) (Ka3 : Known Tryz.prog ia3) (Ha3 : ∀ (x0 : Int) (x1 : Int) (r : Int), a3 x0 x1 = some r → Con (EG g) ia3 ([G.int x0, G.int x1] ++ ka3) (G.int r)) (hA : 0 ≤ a1) (hA2 : a1 ≤ 1000000) (hB : a2 ≤ 1000000) (hR : s252 a0 a1 a2 a3 = some R) : ConB (EG g) 215 [.osl 0 1 0 N0, .g (G.int a1), .g (G.int a2), .g (ca3)] [(0, .arr 3 1 (List.map cInt a0))] (G.tup []) [(0, .arr 3 1 (List.map cInt R))] := by
 unfold s252 at hR;refine conB_of_aw Tryz.func215 rfl rfl rfl fun w0 M0 x => ?_;refine len_osl (f := cInt) (l := a0) 0 rfl fun hla0 => ?_;refine aw_seq ?_;refine aw_region [.p, .p, .p] ?_;refine sm rfl rfl ?_;refine su (eff_add rfl rfl rfl iF) rfl ?_;refine sa rfl rfl ?_;refine st_nil ?_;refine aw_block ?_;refine aw_loop_g (γ := Nat × Int × (List Int)) (fun g => ([(0, .osl 0 1 0 (N0)), (1, .g (G.int a1)), (2, .g (G.int a2)), (3, .g (ca3)), (8, .g (G.int g.2.1))], [(0, .arr 3 1 (List.map cInt g.2.2))])) (fun g => g.1 = (a2 - g.2.1).toNat ∧ (a1 + 1) ≤ g.2.1 ∧ List.length g.2.2 = N0 ∧ s252_l1 a1 a3 g.1 g.2.1 g.2.2 = some R) (fun g => g.1) ⟨rfl, ((a2 - (a1 + 1)).toNat, a1 + 1, a0), ⟨rfl, rfl, rfl, rfl, rfl, trivial⟩, ⟨rfl, trivial⟩, rfl, ⟨rfl, iD, hN0, hR⟩, trivial⟩ ?_
 ·rintro ⟨k4, x1, x2⟩ ⟨hk1, iv1_0, ln3, hR⟩;replace hk1 : k4 = (a2 - x1).toNat := hk1;replace hR : s252_l1 a1 a3 k4 x1 x2 = some R := hR;replace iv1_0 : (a1 + 1) ≤ x1 := iv1_0;replace ln3 : List.length x2 = N0 := ln3;refine aw_seq ?_;refine aw_seq ?_;refine aw_region [.p, .p, .p] ?_;refine sm rfl rfl ?_;refine sm rfl rfl ?_;refine su (eff_lss rfl rfl rfl) rfl ?_;refine st_nil ?_;refine aw_cond _ rfl (fun h1 => ?_) (fun h1 => ?_)
  ·replace h1 : (decide (x1 < a2)) = true := h1;replace h1 := decT h1;obtain ⟨k4, rfl⟩ : ∃ m, k4 = m + 1 := ⟨k4 - 1, by omega⟩;rw [s252_l1] at hR;(try dsimp only at hR);refine aw_skip ?_;refine aw_seq ?_;refine aw_block ?_;refine aw_seq ?_;refine aw_region [.p, .p] ?_;refine sm rfl rfl ?_;refine sa rfl rfl ?_;refine st_nil ?_;refine aw_block ?_;refine aw_loop_g (γ := Nat × Int × (List Int)) (fun g => ([(0, .osl 0 1 0 (N0)), (1, .g (G.int a1)), (2, .g (G.int a2)), (3, .g (ca3)), (8, .g (G.int x1)), (9, .g (G.int g.2.1))], [(0, .arr 3 1 (List.map cInt g.2.2))])) (fun g => (g.2.1 - a1).toNat < g.1 ∧ a1 ≤ g.2.1 ∧ g.2.1 ≤ 1000000 ∧ List.length g.2.2 = N0 ∧ s252_l2 (fun z0_ z1_ => s252_l1 a1 a3 k4 z0_ z1_) a1 a3 x1 g.1 g.2.1 g.2.2 = some R) (fun g => g.1) ⟨rfl, (((x1 - a1).toNat) + 1, x1, x2), ⟨rfl, rfl, rfl, rfl, rfl, rfl, trivial⟩, ⟨rfl, trivial⟩, rfl, ⟨Nat.lt_succ_self _, iD, iD, ln3, hR⟩, trivial⟩ ?_
   ·rintro ⟨k8, x5, x6⟩ ⟨hk2, iv2_0, iv2_1, ln7, hR⟩;replace hk2 : (x5 - a1).toNat < k8 := hk2;replace hR : s252_l2 (fun z0_ z1_ => s252_l1 a1 a3 k4 z0_ z1_) a1 a3 x1 k8 x5 x6 = some R := hR;replace iv2_0 : a1 ≤ x5 := iv2_0;replace iv2_1 : x5 ≤ 1000000 := iv2_1;replace ln7 : List.length x6 = N0 := ln7;obtain ⟨k8, rfl⟩ : ∃ m, k8 = m + 1 := ⟨k8 - 1, by omega⟩;rw [s252_l2] at hR;(try dsimp only at hR);refine aw_seq ?_;refine aw_seq ?_;obtain ⟨y9, by9, hR⟩ := bindO_inv hR;obtain ⟨y10, by10, hR⟩ := bindO_inv hR;obtain ⟨r11, br11, hR⟩ := bindO_inv hR;refine aw_draw [.p, .p, .p, .p, .p, .p, .p, .p, .r, .p, .p, .p, .p, .r, .p, .p, .p] (by kernel_rfl) ?_;refine sm rfl rfl ?_;refine sm rfl rfl ?_;refine su (eff_gtr rfl rfl rfl) rfl ?_;refine sm rfl rfl ?_;refine sg rfl rfl (fun h => eff_moveg rfl rfl) rfl ?_;refine sg rfl rfl (fun h => eff_moveO rfl rfl) rfl ?_;refine sg rfl rfl (fun h => eff_moveg rfl rfl) rfl ?_;refine sg rfl rfl (fun h => eff_ixL rfl Tryz.underlying64 ty3 (gd h rfl) (gd h rfl) (ixO_nn (condT1 by9 h)) (Nat.lt_of_lt_of_eq (get_lt (ixO_get (condT1 by9 h))) ln7)) rfl ?_;refine st_gr rfl rfl rfl (gb_bool _ _) (fun h => eff_ldE (f := cInt) (l := x6) (a := y9) rfl ty3 (gd h rfl) rfl (ixO_get (condT1 by9 h)) rfl) rfl ?_;refine sg rfl rfl (fun h => eff_moveO rfl rfl) rfl ?_;refine sg rfl rfl (fun h => eff_moveg rfl rfl) rfl ?_;refine sg rfl rfl (fun h => eff_sub rfl (gd h rfl) rfl iF) rfl ?_;refine sg rfl rfl (fun h => eff_ixL rfl Tryz.underlying64 ty3 (gd h rfl) (gd h rfl) (ixO_nn (condT1 by10 h)) (Nat.lt_of_lt_of_eq (get_lt (ixO_get (condT1 by10 h))) ln7)) rfl ?_;refine st_gr rfl rfl rfl (gb_bool _ _) (fun h => eff_ldE (f := cInt) (l := x6) (a := y10) rfl ty3 (gd h rfl) rfl (ixO_get (condT1 by10 h)) rfl) rfl ?_;refine sg rfl rfl (fun h => eff_callf rfl ha3 Ka3 (gd h rfl) (Con.lend (Ha3 y9 y10 _ (condT1 br11 h))) (ag_cons (gd h rfl) (ag_cons (gd h rfl) ag_nil))) rfl ?_;refine sg rfl rfl (fun h => eff_lss rfl (gd h rfl) rfl) rfl ?_;refine su (eff_and rfl rfl rfl rfl) rfl ?_;refine st_nil ?_;refine aw_cond _ rfl (fun h3 => ?_) (fun h3 => ?_)
    ·replace h3 : ((decide (a1 < x5)) && (decide (r11 < 0))) = true := h3;replace hR := condT hR h3;(try simp only [bB] at h3);refine aw_skip ?_;refine aw_seq ?_;refine aw_block ?_;obtain ⟨y12, by12, hR⟩ := bindO_inv hR;obtain ⟨y13, by13, hR⟩ := bindO_inv hR;obtain ⟨y14, by14, hR⟩ := bindO_inv hR;obtain ⟨y15, by15, hR⟩ := bindO_inv hR;refine aw_draw [.p, .p, .p, .p, .p, .p, .p, .p, .p, .r, .p, .p, .p, .r, .p, .w, .p, .w] (by kernel_rfl) ?_;refine su (eff_moveO rfl rfl) rfl ?_;refine sm rfl rfl ?_;refine su (eff_moveO rfl rfl) rfl ?_;refine sm rfl rfl ?_;refine su (eff_sub rfl rfl rfl iF) rfl ?_;refine su (eff_moveO rfl rfl) rfl ?_;refine sm rfl rfl ?_;refine su (eff_sub rfl rfl rfl iF) rfl ?_;refine su (eff_ixL rfl Tryz.underlying64 ty3 rfl rfl (ixO_nn by12) (Nat.lt_of_lt_of_eq (get_lt (ixO_get by12)) ln7)) rfl ?_;refine sr (eff_ldE (f := cInt) (l := x6) (a := y12) rfl ty3 rfl rfl (ixO_get by12) rfl) rfl ?_;refine su (eff_moveO rfl rfl) rfl ?_;refine sm rfl rfl ?_;refine su (eff_ixL rfl Tryz.underlying64 ty3 rfl rfl (ixO_nn by13) (Nat.lt_of_lt_of_eq (get_lt (ixO_get by13)) ln7)) rfl ?_;refine sr (eff_ldE (f := cInt) (l := x6) (a := y13) rfl ty3 rfl rfl (ixO_get by13) rfl) rfl ?_;refine su (eff_ixL rfl Tryz.underlying64 ty3 rfl rfl (ixO_nn by14) (Nat.lt_of_lt_of_eq (get_lt (ixO_get by14)) ln7)) rfl ?_;refine st_wn rfl rfl (eff_setL (f := cInt) (l := x6) (a' := y12) rfl ty3 rfl rfl rfl (Nat.lt_of_lt_of_eq (Nat.lt_of_lt_of_eq (get_lt (ixO_get by14)) ln7) (Eq.symm ln7)) rfl (fun _ => rfl)) ?_;refine su (eff_ixL rfl Tryz.underlying64 ty3 rfl rfl (ixO_nn by15) (Nat.lt_of_lt_of_eq (get_lt (ixO_get by15)) ((List.length_set ..).trans ln7))) rfl ?_;refine st_wn rfl rfl (eff_setL (f := cInt) (l := List.set x6 (Int.toNat x5) y12) (a' := y13) rfl ty3 rfl rfl rfl (Nat.lt_of_lt_of_eq (Nat.lt_of_lt_of_eq (get_lt (ixO_get by15)) ((List.length_set ..).trans ln7)) (Eq.symm ((List.length_set ..).trans ln7))) rfl (fun _ => rfl)) ?_;refine st_nil ?_;refine aw_region [.p, .p, .p] ?_;refine sm rfl rfl ?_;refine su (eff_sub rfl rfl rfl iF) rfl ?_;refine sa rfl rfl ?_;refine st_nil ?_;exact ⟨rfl, (k8, x5 - 1, List.set (List.set x6 (Int.toNat x5) y12) (Int.toNat (x5 - 1)) y13), ⟨(by simp only [List.length_set]; rfl), rfl, rfl, rfl, rfl, rfl, trivial⟩, ⟨rfl, trivial⟩, rfl, ⟨iB, iB, iB, ((List.length_set ..).trans ((List.length_set ..).trans ln7)), hR⟩, by simp⟩
    ·replace h3 : ((decide (a1 < x5)) && (decide (r11 < 0))) = false := h3;replace hR := condF hR h3;(try simp only [bB] at h3);refine aw_exit ?_;refine aw_region [.p, .p, .p] ?_;refine sm rfl rfl ?_;refine su (eff_add rfl rfl rfl iG) rfl ?_;refine sa rfl rfl ?_;refine st_nil ?_;exact ⟨rfl, (k4, x1 + 1, x6), ⟨rfl, rfl, rfl, rfl, rfl, trivial⟩, ⟨rfl, trivial⟩, rfl, ⟨iB, iB, ln7, hR⟩, by simp⟩
  ·replace h1 : (decide (x1 < a2)) = false := h1;replace h1 := decF h1
   obtain rfl : k4 = 0 := by omega
   rw [s252_l1] at hR;refine aw_exit ?_;obtain rfl := Option.some.inj hR;show ResOk _ _ _ _ ∧ MemL _ _;exact ⟨res0 rfl, ⟨rfl, trivial⟩⟩
theorem len252_l2 (rec1 : Int → List Int → Option (List Int)) (hrec : ∀ x l r, rec1 x l = some r → r.length = l.length) (a1 : Int) (a3 : Int → Int → Option Int) (x1 : Int) : ∀ (k : Nat) (x : Int) (l r : List Int), s252_l2 rec1 a1 a3 x1 k x l = some r → r.length = l.length
 | 0, _, _, _, h => by rw [s252_l2] at h; cases h
 | k + 1, x, l, r, h => by
  rw [s252_l2] at h;obtain ⟨y1, _, h⟩ := bindO_inv h;obtain ⟨y2, _, h⟩ := bindO_inv h;obtain ⟨y3, _, h⟩ := bindO_inv h
  cases hc : (decide (a1 < x) && decide (y3 < 0)) with
  | true =>
   have h := condT h hc;obtain ⟨y4, _, h⟩ := bindO_inv h;obtain ⟨y5, _, h⟩ := bindO_inv h;obtain ⟨y6, _, h⟩ := bindO_inv h;obtain ⟨y7, _, h⟩ := bindO_inv h;have := len252_l2 rec1 hrec a1 a3 x1 k _ _ _ h
   simpa using this
  | false => exact hrec _ _ _ (condF h hc)
theorem len252_l1 (a1 : Int) (a3 : Int → Int → Option Int) : ∀ (k : Nat) (x : Int) (l r : List Int), s252_l1 a1 a3 k x l = some r → r.length = l.length
 | 0, _, _, _, h => by rw [s252_l1] at h; cases h; rfl
 | k + 1, x, l, r, h => by
  rw [s252_l1] at h;exact len252_l2 _ (fun x l r h => len252_l1 a1 a3 k x l r h) a1 a3 x _ _ _ _ h
theorem len252 {a0 : List Int} {a1 a2 : Int} {a3 : Int → Int → Option Int} {R : List Int} (h : s252 a0 a1 a2 a3 = some R) : R.length = a0.length := len252_l1 _ _ _ _ _ _ h
end Go.Sim
