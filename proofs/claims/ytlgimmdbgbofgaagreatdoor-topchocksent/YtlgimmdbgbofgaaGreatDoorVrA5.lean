/-
  What is proved: lemmas and contracts of functions on the way to the law topChockSent (part 5).
-/
import Derived.Test.YtlgimmdbgbofgaaGreatDoorVrA4
import Derived.Test.YtlgimmdbgbofgaaGreatDoorVrA3
import Derived.Test.YtlgimmdbgbofgaaGreatDoorVrA2
import Derived.Test.YtlgimmdbgbofgaaGreatDoorRows
import Derived.Test.YtlgimmdbgbofgaaGreatDoorTie
import Derived.ProofKit
import Derived.LaidMore
import Derived.OpenShut
import Derived.Stop.Joined
import Derived.Carry
import Derived.Lib.LaidTab
import Derived.Shelf.Vars
import Derived.Lay
import Derived.RangeFuncBox
import Derived.RangeFuncNested
import Derived.RangeFuncBound
import Derived.RangeFuncCalls
import Derived.RangeFuncLeaves
import Derived.Shelf.Abstract
import Derived.Shelf.RegionOpen
import Derived.WalkKit
import Derived.OwnWalkIn
import Derived.TacticsInMore
import Derived.LoopNIn
import Derived.LoopIn
import Derived.Maps.AppendAt
import Derived.Lib.Hide
import Derived.Stop.RegionWithIn
import Derived.Sort.QuietIn
import Derived.Scope
import Derived.Maps.RangeRun
import Derived.ChangeKeysEq
set_option linter.unusedSectionVars false
set_option linter.unusedSimpArgs false
set_option linter.unusedVariables false
set_option linter.unnecessarySimpa false
set_option linter.deprecated false
set_option maxRecDepth 10000
namespace Go.Sim
open Go.Proofs
def s152_l1  : List Int → Nat → Int
 | [], k2 => 0
 | y3 :: t4, k2 => (bif decide (y3 ≠ 0) then y3 else s152_l1  t4 (k2 + 1))
def s152 (a0 : List Int) : Int :=
 s152_l1 a0 0
theorem c152 {g : GL} (a0 : List Int)    : Con (EG g) 25 [G.sl 1 (List.map cInt a0)] (G.int (s152 a0)) := by
 generalize hR : s152 a0 = R;unfold s152 at hR;refine con_of_aw Tryz.func25 rfl rfl fun w0 M0 => ?_;refine len_sl (f := cInt) (l := a0) 0 rfl fun hla0 => ?_;refine aw_seq ?_;refine aw_region [.p] ?_;refine sa rfl rfl ?_;refine st_nil ?_;refine aw_seq ?_;refine aw_seq ?_;refine aw_region [.p, .p, .p] ?_;refine sm rfl rfl ?_;refine su (eff_lenM (f := cInt) (l := a0) rfl Tryz.underlying93 rfl) rfl ?_;refine sm rfl rfl ?_;refine st_nil ?_;refine aw_block ?_;refine aw_loop_g (γ := Nat × (List Int)) (fun g => ([(5, .g (G.sl 1 (List.map cInt a0))), (6, .g (G.int (List.length a0 : Int))), (7, .g (G.int ((g.1 : Nat) : Int)))], [])) (fun g => a0.drop g.1 = g.2 ∧ s152_l1  g.2 g.1 = R) (fun g => List.length g.2) ⟨rfl, (0, a0), ⟨rfl, rfl, rfl, trivial⟩, trivial, rfl, ⟨rfl, (by exact hR)⟩, trivial⟩ ?_
 ·rintro ⟨k2, t4⟩ ⟨hd, hR⟩;replace hd : a0.drop k2 = t4 := hd;replace hR : s152_l1  t4 k2 = R := hR;refine aw_seq ?_;refine aw_region [.p] ?_;refine su (eff_lss rfl rfl rfl) rfl ?_;refine st_nil ?_;refine len_sl (f := cInt) (l := a0) 5 rfl fun hlz1 => ?_;refine aw_seq ?_;refine aw_cond _ rfl (fun h1 => ?_) (fun h1 => ?_)
  ·replace h1 : (decide (((k2 : Nat) : Int) < (List.length a0 : Int))) = true := h1;obtain ⟨y3, t4, rfl, hx1, hd⟩ := drop_cons hd (decT h1);replace h1 := decT h1;rw [s152_l1] at hR;(try dsimp only at hR);refine aw_skip ?_;refine aw_seq ?_;refine aw_block ?_;refine aw_seq ?_;refine aw_region [.p, .p, .p] ?_;refine su (eff_ix (f := cInt) (l := a0) (a := y3) rfl Tryz.underlying93 ty37 rfl rfl (Int.natCast_nonneg _) hx1) rfl ?_;refine su (eff_load rfl ty37 rfl) rfl ?_;refine sa rfl rfl ?_;refine st_nil ?_;refine aw_seq ?_;refine aw_region [.p, .p] ?_;refine sm rfl rfl ?_;refine su (eff_neq rfl rfl rfl) rfl ?_;refine st_nil ?_;refine aw_cond _ rfl (fun h3 => ?_) (fun h3 => ?_)
   ·replace hR := condT hR h3;refine aw_seq ?_;refine aw_region [.p, .p] ?_;refine sm rfl rfl ?_;refine sa rfl rfl ?_;refine st_nil ?_;refine aw_ret ?_;subst hR;exact res_c rfl (rv_g rfl)
   ·replace h3 : (decide (y3 ≠ 0)) = false := h3;replace hR := condF hR h3;(try simp only [bB] at h3);refine aw_skip ?_;refine aw_region [.p, .p] ?_;refine su (eff_add rfl rfl rfl iE) rfl ?_;refine sm rfl rfl ?_;refine st_nil ?_;exact ⟨rfl, (k2 + 1, t4), ⟨rfl, rfl, rfl, trivial⟩, trivial, rfl, ⟨hd, hR⟩, by simp⟩
  ·replace h1 : (decide (((k2 : Nat) : Int) < (List.length a0 : Int))) = false := h1;obtain rfl := drop_nil hd (decF h1);rw [s152_l1] at hR;refine aw_exit ?_;refine aw_seq ?_;refine aw_region [.p] ?_;refine sa rfl rfl ?_;refine st_nil ?_;refine aw_ret ?_;subst hR;exact res_c rfl (rv_g rfl)
def s154 (a0 : Bool) (a1 : Int) : Int :=
 (bif a0 then a1 else 0)
theorem c154 {g : GL} (a0 : Bool) (a1 : Int)    : Con (EG g) 43 [G.bool a0, G.int a1] (G.int (s154 a0 a1)) := by
 generalize hR : s154 a0 a1 = R;unfold s154 at hR;refine con_of_aw Tryz.func43 rfl rfl fun w0 M0 => ?_;refine aw_seq ?_;refine aw_region [.p] ?_;refine sa rfl rfl ?_;refine st_nil ?_;refine aw_seq ?_;refine aw_seq ?_;refine aw_region [.p] ?_;refine sm rfl rfl ?_;refine st_nil ?_;refine aw_cond _ rfl (fun h1 => ?_) (fun h1 => ?_)
 ·replace hR := condT hR h1;refine aw_seq ?_;refine aw_region [.p, .p] ?_;refine sm rfl rfl ?_;refine sa rfl rfl ?_;refine st_nil ?_;refine aw_ret ?_;subst hR;exact res_c rfl (rv_g rfl)
 ·replace hR := condF hR h1;refine aw_skip ?_;refine aw_seq ?_;refine aw_region [.p] ?_;refine sa rfl rfl ?_;refine st_nil ?_;refine aw_ret ?_;subst hR;exact res_c rfl (rv_g rfl)
def s155 (a0 : Int) (a1 : Int) (a2 : Int) : Int :=
 (s154 ((decide (a0 < a1)) || (decide (a2 < a0))) 3)
theorem c155 {g : GL} (a0 : Int) (a1 : Int) (a2 : Int)    : Con (EG g) 27 [G.int a0, G.int a1, G.int a2] (G.int (s155 a0 a1 a2)) := by
 generalize hR : s155 a0 a1 a2 = R;unfold s155 at hR;refine con_of_aw Tryz.func27 rfl rfl fun w0 M0 => ?_;refine aw_seq ?_;refine aw_region [.p] ?_;refine sa rfl rfl ?_;refine st_nil ?_;refine aw_seq ?_;refine aw_region [.p, .p, .p, .p, .p, .p, .p, .p, .p, .p] ?_;refine sm rfl rfl ?_;refine sm rfl rfl ?_;refine su (eff_lss rfl rfl rfl) rfl ?_;refine sm rfl rfl ?_;refine sg rfl rfl (fun h => eff_moveg rfl rfl) rfl ?_;refine sg rfl rfl (fun h => eff_moveg rfl rfl) rfl ?_;refine sg rfl rfl (fun h => eff_gtr rfl (gd h rfl) (gd h rfl)) rfl ?_;refine su (eff_or rfl rfl rfl rfl) rfl ?_;refine su (eff_call rfl K154 rfl (c154 ((decide (a0 < a1)) || (decide (a2 < a0))) 3) (ag_cons rfl (ag_cons rfl ag_nil))) rfl ?_;refine sa rfl rfl ?_;refine st_nil ?_;refine aw_ret ?_;subst hR;exact res_c rfl (rv_g rfl)
def s153 (a0 : Int) : Int :=
 (s155 a0 0 99999)
theorem c153 {g : GL} (a0 : Int)    : Con (EG g) 42 [G.int a0] (G.int (s153 a0)) := by
 generalize hR : s153 a0 = R;unfold s153 at hR;refine con_of_aw Tryz.func42 rfl rfl fun w0 M0 => ?_;refine aw_seq ?_;refine aw_region [.p] ?_;refine sa rfl rfl ?_;refine st_nil ?_;refine aw_seq ?_;refine aw_region [.p, .p, .p] ?_;refine sm rfl rfl ?_;refine su (eff_call rfl K155 rfl (c155 a0 0 99999) (ag_cons rfl (ag_cons rfl (ag_cons rfl ag_nil)))) rfl ?_;refine sa rfl rfl ?_;refine st_nil ?_;refine aw_ret ?_;subst hR;exact res_c rfl (rv_g rfl)
def s89_l1  : List Int → Nat → Int
 | [], k2 => 0
 | y3 :: t4, k2 => (bif decide (y3 ≠ 0) then y3 else s89_l1  t4 (k2 + 1))
def s89 (a0 : List Int) : Int :=
 s89_l1 a0 0
theorem c89 {g : GL} (a0 : List Int)    : Con (EG g) 23 [G.sl 1 (List.map cInt a0)] (G.int (s89 a0)) := by
 generalize hR : s89 a0 = R;unfold s89 at hR;refine con_of_aw Tryz.func23 rfl rfl fun w0 M0 => ?_;refine len_sl (f := cInt) (l := a0) 0 rfl fun hla0 => ?_;refine aw_seq ?_;refine aw_region [.p] ?_;refine sa rfl rfl ?_;refine st_nil ?_;refine aw_seq ?_;refine aw_seq ?_;refine aw_region [.p] ?_;refine sa rfl rfl ?_;refine st_nil ?_;refine aw_block ?_;refine aw_loop_g (γ := Nat × (List Int)) (fun g => ([(0, .g (G.sl 1 (List.map cInt a0))), (3, .g (G.int ((g.1 : Nat) : Int)))], [])) (fun g => a0.drop g.1 = g.2 ∧ s89_l1  g.2 g.1 = R) (fun g => List.length g.2) ⟨rfl, (0, a0), ⟨rfl, rfl, trivial⟩, trivial, rfl, ⟨rfl, (by exact hR)⟩, trivial⟩ ?_
 ·rintro ⟨k2, t4⟩ ⟨hd, hR⟩;replace hd : a0.drop k2 = t4 := hd;replace hR : s89_l1  t4 k2 = R := hR;refine aw_seq ?_;refine aw_seq ?_;refine aw_region [.p, .p, .p, .p] ?_;refine sm rfl rfl ?_;refine sm rfl rfl ?_;refine su (eff_lenM (f := cInt) (l := a0) rfl Tryz.underlying38 rfl) rfl ?_;refine su (eff_lss rfl rfl rfl) rfl ?_;refine st_nil ?_;refine len_sl (f := cInt) (l := a0) 0 rfl fun hlz1 => ?_;refine aw_cond _ rfl (fun h1 => ?_) (fun h1 => ?_)
  ·replace h1 : (decide (((k2 : Nat) : Int) < (List.length a0 : Int))) = true := h1;obtain ⟨y3, t4, rfl, hx1, hd⟩ := drop_cons hd (decT h1);replace h1 := decT h1;rw [s89_l1] at hR;(try dsimp only at hR);refine aw_skip ?_;refine aw_seq ?_;refine aw_block ?_;refine aw_seq ?_;refine aw_region [.p, .p, .p, .p, .p] ?_;refine sm rfl rfl ?_;refine sm rfl rfl ?_;refine su (eff_ix (f := cInt) (l := a0) (a := y3) rfl Tryz.underlying38 ty3 rfl rfl (Int.natCast_nonneg _) hx1) rfl ?_;refine su (eff_load rfl ty3 rfl) rfl ?_;refine su (eff_neq rfl rfl rfl) rfl ?_;refine st_nil ?_;refine aw_cond _ rfl (fun h3 => ?_) (fun h3 => ?_)
   ·replace hR := condT hR h3;refine aw_seq ?_;refine aw_region [.p, .p, .p, .p, .p] ?_;refine sm rfl rfl ?_;refine sm rfl rfl ?_;refine su (eff_ix (f := cInt) (l := a0) (a := y3) rfl Tryz.underlying38 ty3 rfl rfl (Int.natCast_nonneg _) hx1) rfl ?_;refine su (eff_load rfl ty3 rfl) rfl ?_;refine sa rfl rfl ?_;refine st_nil ?_;refine aw_ret ?_;subst hR;exact res_c rfl (rv_g rfl)
   ·replace h3 : (decide (y3 ≠ 0)) = false := h3;replace hR := condF hR h3;(try simp only [bB] at h3);refine aw_skip ?_;refine aw_region [.p, .p, .p] ?_;refine sm rfl rfl ?_;refine su (eff_add rfl rfl rfl iE) rfl ?_;refine sa rfl rfl ?_;refine st_nil ?_;exact ⟨rfl, (k2 + 1, t4), ⟨rfl, rfl, trivial⟩, trivial, rfl, ⟨hd, hR⟩, by simp⟩
  ·replace h1 : (decide (((k2 : Nat) : Int) < (List.length a0 : Int))) = false := h1;obtain rfl := drop_nil hd (decF h1);rw [s89_l1] at hR;refine aw_exit ?_;refine aw_seq ?_;refine aw_region [.p] ?_;refine sa rfl rfl ?_;refine st_nil ?_;refine aw_ret ?_;subst hR;exact res_c rfl (rv_g rfl)
def s90 (a0 : Int) (a1 : Int) (a2 : Int) : Int :=
 (bif (decide (a0 < a1)) || (decide (a2 < a0)) then 3 else 0)
theorem c90 {g : GL} (a0 : Int) (a1 : Int) (a2 : Int)    : Con (EG g) 24 [G.int a0, G.int a1, G.int a2] (G.int (s90 a0 a1 a2)) := by
 generalize hR : s90 a0 a1 a2 = R;unfold s90 at hR;refine con_of_aw Tryz.func24 rfl rfl fun w0 M0 => ?_;refine aw_seq ?_;refine aw_region [.p] ?_;refine sa rfl rfl ?_;refine st_nil ?_;refine aw_seq ?_;refine aw_seq ?_;refine aw_region [.p, .p, .p, .p, .p, .p, .p, .p] ?_;refine sm rfl rfl ?_;refine sm rfl rfl ?_;refine su (eff_lss rfl rfl rfl) rfl ?_;refine sm rfl rfl ?_;refine sg rfl rfl (fun h => eff_moveg rfl rfl) rfl ?_;refine sg rfl rfl (fun h => eff_moveg rfl rfl) rfl ?_;refine sg rfl rfl (fun h => eff_gtr rfl (gd h rfl) (gd h rfl)) rfl ?_;refine su (eff_or rfl rfl rfl rfl) rfl ?_;refine st_nil ?_;refine aw_cond _ rfl (fun h1 => ?_) (fun h1 => ?_)
 ·replace hR := condT hR h1;refine aw_seq ?_;refine aw_region [.p] ?_;refine sa rfl rfl ?_;refine st_nil ?_;refine aw_ret ?_;subst hR;exact res_c rfl (rv_g rfl)
 ·replace hR := condF hR h1;refine aw_skip ?_;refine aw_seq ?_;refine aw_region [.p] ?_;refine sa rfl rfl ?_;refine st_nil ?_;refine aw_ret ?_;subst hR;exact res_c rfl (rv_g rfl)
def s109 (a0 : Int) : Int :=
 (s90 a0 0 99999)
theorem c109 {g : GL} (a0 : Int)    : Con (EG g) 41 [G.int a0] (G.int (s109 a0)) := by
 generalize hR : s109 a0 = R;unfold s109 at hR;refine con_of_aw Tryz.func41 rfl rfl fun w0 M0 => ?_;refine aw_seq ?_;refine aw_region [.p] ?_;refine sa rfl rfl ?_;refine st_nil ?_;refine aw_seq ?_;refine aw_region [.p, .p, .p] ?_;refine sm rfl rfl ?_;refine su (eff_call rfl K90 rfl (c90 a0 0 99999) (ag_cons rfl (ag_cons rfl (ag_cons rfl ag_nil)))) rfl ?_;refine sa rfl rfl ?_;refine st_nil ?_;refine aw_ret ?_;subst hR;exact res_c rfl (rv_g rfl)
def s4082_l1  : List Int → Nat → Int
 | [], k2 => 0
 | y3 :: t4, k2 => (bif decide (y3 ≠ 0) then y3 else s4082_l1  t4 (k2 + 1))
def s4082 (a0 : List Int) : Int :=
 s4082_l1 a0 0
theorem c4082 {g : GL} (a0 : List Int)    : Con (EG g) 44 [G.sl 1 (List.map cInt a0)] (G.int (s4082 a0)) := by
 generalize hR : s4082 a0 = R;unfold s4082 at hR;refine con_of_aw Tryz.func44 rfl rfl fun w0 M0 => ?_;refine len_sl (f := cInt) (l := a0) 0 rfl fun hla0 => ?_;refine aw_seq ?_;refine aw_region [.p] ?_;refine sa rfl rfl ?_;refine st_nil ?_;refine aw_seq ?_;refine aw_seq ?_;refine aw_region [.p, .p, .p] ?_;refine sm rfl rfl ?_;refine su (eff_lenM (f := cInt) (l := a0) rfl Tryz.underlying93 rfl) rfl ?_;refine sm rfl rfl ?_;refine st_nil ?_;refine aw_block ?_;refine aw_loop_g (γ := Nat × (List Int)) (fun g => ([(5, .g (G.sl 1 (List.map cInt a0))), (6, .g (G.int (List.length a0 : Int))), (7, .g (G.int ((g.1 : Nat) : Int)))], [])) (fun g => a0.drop g.1 = g.2 ∧ s4082_l1  g.2 g.1 = R) (fun g => List.length g.2) ⟨rfl, (0, a0), ⟨rfl, rfl, rfl, trivial⟩, trivial, rfl, ⟨rfl, (by exact hR)⟩, trivial⟩ ?_
 ·rintro ⟨k2, t4⟩ ⟨hd, hR⟩;replace hd : a0.drop k2 = t4 := hd;replace hR : s4082_l1  t4 k2 = R := hR;refine aw_seq ?_;refine aw_region [.p] ?_;refine su (eff_lss rfl rfl rfl) rfl ?_;refine st_nil ?_;refine len_sl (f := cInt) (l := a0) 5 rfl fun hlz1 => ?_;refine aw_seq ?_;refine aw_cond _ rfl (fun h1 => ?_) (fun h1 => ?_)
  ·replace h1 : (decide (((k2 : Nat) : Int) < (List.length a0 : Int))) = true := h1;obtain ⟨y3, t4, rfl, hx1, hd⟩ := drop_cons hd (decT h1);replace h1 := decT h1;rw [s4082_l1] at hR;(try dsimp only at hR);refine aw_skip ?_;refine aw_seq ?_;refine aw_block ?_;refine aw_seq ?_;refine aw_region [.p, .p, .p] ?_;refine su (eff_ix (f := cInt) (l := a0) (a := y3) rfl Tryz.underlying93 ty37 rfl rfl (Int.natCast_nonneg _) hx1) rfl ?_;refine su (eff_load rfl ty37 rfl) rfl ?_;refine sa rfl rfl ?_;refine st_nil ?_;refine aw_seq ?_;refine aw_region [.p, .p] ?_;refine sm rfl rfl ?_;refine su (eff_neq rfl rfl rfl) rfl ?_;refine st_nil ?_;refine aw_cond _ rfl (fun h3 => ?_) (fun h3 => ?_)
   ·replace hR := condT hR h3;refine aw_seq ?_;refine aw_region [.p, .p] ?_;refine sm rfl rfl ?_;refine sa rfl rfl ?_;refine st_nil ?_;refine aw_ret ?_;subst hR;exact res_c rfl (rv_g rfl)
   ·replace h3 : (decide (y3 ≠ 0)) = false := h3;replace hR := condF hR h3;(try simp only [bB] at h3);refine aw_skip ?_;refine aw_region [.p, .p] ?_;refine su (eff_add rfl rfl rfl iE) rfl ?_;refine sm rfl rfl ?_;refine st_nil ?_;exact ⟨rfl, (k2 + 1, t4), ⟨rfl, rfl, rfl, trivial⟩, trivial, rfl, ⟨hd, hR⟩, by simp⟩
  ·replace h1 : (decide (((k2 : Nat) : Int) < (List.length a0 : Int))) = false := h1;obtain rfl := drop_nil hd (decF h1);rw [s4082_l1] at hR;refine aw_exit ?_;refine aw_seq ?_;refine aw_region [.p] ?_;refine sa rfl rfl ?_;refine st_nil ?_;refine aw_ret ?_;subst hR;exact res_c rfl (rv_g rfl)
def s4085 (a0 : Bool) (a1 : Int) : Int :=
 (bif a0 then a1 else 0)
theorem c4085 {g : GL} (a0 : Bool) (a1 : Int)    : Con (EG g) 45 [G.bool a0, G.int a1] (G.int (s4085 a0 a1)) := by
 generalize hR : s4085 a0 a1 = R;unfold s4085 at hR;refine con_of_aw Tryz.func45 rfl rfl fun w0 M0 => ?_;refine aw_seq ?_;refine aw_region [.p] ?_;refine sa rfl rfl ?_;refine st_nil ?_;refine aw_seq ?_;refine aw_seq ?_;refine aw_region [.p] ?_;refine sm rfl rfl ?_;refine st_nil ?_;refine aw_cond _ rfl (fun h1 => ?_) (fun h1 => ?_)
 ·replace hR := condT hR h1;refine aw_seq ?_;refine aw_region [.p, .p] ?_;refine sm rfl rfl ?_;refine sa rfl rfl ?_;refine st_nil ?_;refine aw_ret ?_;subst hR;exact res_c rfl (rv_g rfl)
 ·replace hR := condF hR h1;refine aw_skip ?_;refine aw_seq ?_;refine aw_region [.p] ?_;refine sa rfl rfl ?_;refine st_nil ?_;refine aw_ret ?_;subst hR;exact res_c rfl (rv_g rfl)
def s4087 (a0 : Int) (a1 : Int) (a2 : Int) : Int :=
 (s4085 ((decide (a0 < a1)) || (decide (a2 < a0))) 3)
theorem c4087 {g : GL} (a0 : Int) (a1 : Int) (a2 : Int)    : Con (EG g) 94 [G.int a0, G.int a1, G.int a2] (G.int (s4087 a0 a1 a2)) := by
 generalize hR : s4087 a0 a1 a2 = R;unfold s4087 at hR;refine con_of_aw Tryz.func94 rfl rfl fun w0 M0 => ?_;refine aw_seq ?_;refine aw_region [.p] ?_;refine sa rfl rfl ?_;refine st_nil ?_;refine aw_seq ?_;refine aw_region [.p, .p, .p, .p, .p, .p, .p, .p, .p, .p] ?_;refine sm rfl rfl ?_;refine sm rfl rfl ?_;refine su (eff_lss rfl rfl rfl) rfl ?_;refine sm rfl rfl ?_;refine sg rfl rfl (fun h => eff_moveg rfl rfl) rfl ?_;refine sg rfl rfl (fun h => eff_moveg rfl rfl) rfl ?_;refine sg rfl rfl (fun h => eff_gtr rfl (gd h rfl) (gd h rfl)) rfl ?_;refine su (eff_or rfl rfl rfl rfl) rfl ?_;refine su (eff_call rfl K4085 rfl (c4085 ((decide (a0 < a1)) || (decide (a2 < a0))) 3) (ag_cons rfl (ag_cons rfl ag_nil))) rfl ?_;refine sa rfl rfl ?_;refine st_nil ?_;refine aw_ret ?_;subst hR;exact res_c rfl (rv_g rfl)
end Go.Sim
set_option maxRecDepth 10000
namespace Go.Sim
open Go.Proofs
def s91_l1  : List UInt8 → Nat → Bool
 | [], k2 => true
 | y3 :: t4, k2 => (bif (!(((decide (97 ≤ (y3.toNat : Int))) && (decide ((y3.toNat : Int) ≤ 122))) || ((decide (65 ≤ (y3.toNat : Int))) && (decide ((y3.toNat : Int) ≤ 90))))) && ((decide (((k2 : Nat) : Int) = 0)) || ((decide ((y3.toNat : Int) ≠ 95)) && ((decide ((y3.toNat : Int) < 48)) || (decide (57 < (y3.toNat : Int)))))) then false else s91_l1  t4 (k2 + 1))
def s91 (a0 : ByteArray) : Bool :=
 (bif (decide ((ByteArray.size a0 : Int) = 0)) || (decide (24 < (ByteArray.size a0 : Int))) then false else s91_l1 ((ByteArray.data a0).toList) 0)
theorem c91 {g : GL} (a0 : ByteArray)    : Con (EG g) 20 [G.str a0] (G.bool (s91 a0)) := by
 generalize hR : s91 a0 = R;unfold s91 at hR;refine con_of_aw Tryz.func20 rfl rfl fun w0 M0 => ?_;refine aw_seq ?_;refine aw_region [.p] ?_;refine sa rfl rfl ?_;refine st_nil ?_;refine aw_seq ?_;refine aw_seq ?_;refine aw_region [.p, .p, .p, .p, .p, .p, .p, .p] ?_;refine sm rfl rfl ?_;refine su (eff_lenS rfl Tryz.underlying9 rfl) rfl ?_;refine su (eff_eql rfl rfl rfl) rfl ?_;refine sm rfl rfl ?_;refine sg rfl rfl (fun h => eff_moveg rfl rfl) rfl ?_;refine sg rfl rfl (fun h => eff_lenS rfl Tryz.underlying9 (gd h rfl)) rfl ?_;refine sg rfl rfl (fun h => eff_gtr rfl (gd h rfl) rfl) rfl ?_;refine su (eff_or rfl rfl rfl rfl) rfl ?_;refine st_nil ?_;refine aw_cond _ rfl (fun h1 => ?_) (fun h1 => ?_)
 ·replace hR := condT hR h1;refine aw_seq ?_;refine aw_region [.p] ?_;refine sa rfl rfl ?_;refine st_nil ?_;refine aw_ret ?_;subst hR;exact res_c rfl (rv_g rfl)
 ·replace h1 : ((decide ((ByteArray.size a0 : Int) = 0)) || (decide (24 < (ByteArray.size a0 : Int)))) = false := h1;replace hR := condF hR h1;(try simp only [bB] at h1);refine aw_skip ?_;refine aw_seq ?_;refine aw_seq ?_;refine aw_region [.p] ?_;refine sa rfl rfl ?_;refine st_nil ?_;refine aw_block ?_;refine aw_loop_g (γ := Nat × (List UInt8)) (fun g => ([(0, .g (G.str a0)), (3, .g (G.int ((g.1 : Nat) : Int)))], [])) (fun g => ((ByteArray.data a0).toList).drop g.1 = g.2 ∧ s91_l1  g.2 g.1 = R) (fun g => List.length g.2) ⟨rfl, (0, ((ByteArray.data a0).toList)), ⟨rfl, rfl, trivial⟩, trivial, rfl, ⟨rfl, (by exact hR)⟩, trivial⟩ ?_
  ·rintro ⟨k2, t4⟩ ⟨hd, hR⟩;replace hd : ((ByteArray.data a0).toList).drop k2 = t4 := hd;replace hR : s91_l1  t4 k2 = R := hR;refine aw_seq ?_;refine aw_seq ?_;refine aw_region [.p, .p, .p, .p] ?_;refine sm rfl rfl ?_;refine sm rfl rfl ?_;refine su (eff_lenS rfl Tryz.underlying9 rfl) rfl ?_;refine su (eff_lss rfl rfl rfl) rfl ?_;refine st_nil ?_;refine aw_cond _ rfl (fun h2 => ?_) (fun h2 => ?_)
   ·replace h2 : (decide (((k2 : Nat) : Int) < (ByteArray.size a0 : Int))) = true := h2;obtain ⟨y3, t4, rfl, hx1, hd⟩ := drop_consB hd (decT h2);replace h2 := decT h2;rw [s91_l1] at hR;(try dsimp only at hR);refine aw_skip ?_;refine aw_seq ?_;refine aw_block ?_;refine aw_seq ?_;refine aw_region [.p, .p, .p, .p] ?_;refine sm rfl rfl ?_;refine sm rfl rfl ?_;refine su (eff_indexS (b := y3) rfl Tryz.underlying9 rfl rfl (Int.natCast_nonneg _) hx1) rfl ?_;refine sa rfl rfl ?_;refine st_nil ?_;refine aw_seq ?_;refine aw_region [.p, .p, .p, .p, .p, .p, .p, .p, .p, .p, .p, .p, .p, .p, .p] ?_;refine sm rfl rfl ?_;refine su (eff_geq rfl rfl rfl) rfl ?_;refine sm rfl rfl ?_;refine sg rfl rfl (fun h => eff_moveg rfl rfl) rfl ?_;refine sg rfl rfl (fun h => eff_leq rfl (gd h rfl) rfl) rfl ?_;refine su (eff_and rfl rfl rfl rfl) rfl ?_;refine sm rfl rfl ?_;refine sg rfl rfl (fun h => eff_moveg rfl rfl) rfl ?_;refine sg rfl rfl (fun h => eff_geq rfl (gd h rfl) rfl) rfl ?_;refine sg rfl rfl (fun h => eff_moveg rfl (gd h rfl)) rfl ?_;refine st_g rfl rfl rfl (gb_if _ _ _) (fun h => eff_moveg rfl rfl) rfl ?_;refine st_g rfl rfl rfl (gb_if _ _ _) (fun h => eff_leq rfl (gd h rfl) rfl) rfl ?_;refine sg rfl rfl (fun h => eff_and rfl (gd h rfl) rfl (gd2 h rfl)) rfl ?_;refine su (eff_or rfl rfl rfl rfl) rfl ?_;refine sa rfl rfl ?_;refine st_nil ?_;refine aw_seq ?_;refine aw_region [.p, .p, .p, .p, .p, .p, .p, .p, .p, .p, .p, .p, .p, .p, .p, .p, .p, .p] ?_;refine sm rfl rfl ?_;refine su (eff_not rfl rfl) rfl ?_;refine sm rfl rfl ?_;refine sg rfl rfl (fun h => eff_moveg rfl rfl) rfl ?_;refine sg rfl rfl (fun h => eff_eql rfl (gd h rfl) rfl) rfl ?_;refine sg rfl rfl (fun h => eff_moveg rfl (gd h rfl)) rfl ?_;refine st_g rfl rfl rfl (gb_if _ _ _) (fun h => eff_moveg rfl rfl) rfl ?_;refine st_g rfl rfl rfl (gb_if _ _ _) (fun h => eff_neq rfl (gd h rfl) rfl) rfl ?_;refine st_g rfl rfl rfl (gb_if _ _ _) (fun h => eff_moveg rfl (gd h rfl)) rfl ?_;refine st_g rfl rfl rfl (gb_if _ _ _) (fun h => eff_moveg rfl rfl) rfl ?_;refine st_g rfl rfl rfl (gb_if _ _ _) (fun h => eff_lss rfl (gd h rfl) rfl) rfl ?_;refine st_g rfl rfl rfl (gb_if _ _ _) (fun h => eff_moveg rfl (gd h rfl)) rfl ?_;refine st_g rfl rfl rfl (gb_if _ _ _) (fun h => eff_moveg rfl rfl) rfl ?_;refine st_g rfl rfl rfl (gb_if _ _ _) (fun h => eff_gtr rfl (gd h rfl) rfl) rfl ?_;refine st_g rfl rfl rfl (gb_if _ _ _) (fun h => eff_or rfl (gd h rfl) rfl (gd2 h rfl)) rfl ?_;refine st_g rfl rfl rfl (gb_if _ _ _) (fun h => eff_and rfl (gd h rfl) rfl (gd2 h rfl)) rfl ?_;refine sg rfl rfl (fun h => eff_or rfl (gd h rfl) rfl (gd2 h rfl)) rfl ?_;refine su (eff_and rfl rfl rfl rfl) rfl ?_;refine st_nil ?_;refine aw_cond _ rfl (fun h4 => ?_) (fun h4 => ?_)
    ·replace hR := condT hR h4;refine aw_seq ?_;refine aw_region [.p] ?_;refine sa rfl rfl ?_;refine st_nil ?_;refine aw_ret ?_;subst hR;exact res_c rfl (rv_g rfl)
    ·replace h4 : ((!(((decide (97 ≤ (y3.toNat : Int))) && (decide ((y3.toNat : Int) ≤ 122))) || ((decide (65 ≤ (y3.toNat : Int))) && (decide ((y3.toNat : Int) ≤ 90))))) && ((decide (((k2 : Nat) : Int) = 0)) || ((decide ((y3.toNat : Int) ≠ 95)) && ((decide ((y3.toNat : Int) < 48)) || (decide (57 < (y3.toNat : Int))))))) = false := h4;replace hR := condF hR h4;(try simp only [bB] at h4);refine aw_skip ?_;refine aw_region [.p, .p, .p] ?_;refine sm rfl rfl ?_;refine su (eff_add rfl rfl rfl iE) rfl ?_;refine sa rfl rfl ?_;refine st_nil ?_;exact ⟨rfl, (k2 + 1, t4), ⟨rfl, rfl, trivial⟩, trivial, rfl, ⟨hd, hR⟩, by simp⟩
   ·replace h2 : (decide (((k2 : Nat) : Int) < (ByteArray.size a0 : Int))) = false := h2;obtain rfl := drop_nilB hd (decF h2);rw [s91_l1] at hR;refine aw_exit ?_;refine aw_seq ?_;refine aw_region [.p] ?_;refine sa rfl rfl ?_;refine st_nil ?_;refine aw_ret ?_;subst hR;exact res_c rfl (rv_g rfl)
def s147_l1  : List (Int × Int) → Bool
 | [] => true
 | y2 :: t3 => (bif (!(((decide (65 ≤ y2.2)) && (decide (y2.2 ≤ 90))) || ((decide (97 ≤ y2.2)) && (decide (y2.2 ≤ 122))))) && ((decide (y2.1 = 0)) || ((decide (y2.2 ≠ 95)) && ((decide (y2.2 < 48)) || (decide (57 < y2.2))))) then false else s147_l1 t3)
def s147 (a0 : ByteArray) : Bool :=
 (bif (decide ((ByteArray.size a0 : Int) = 0)) || (decide (24 < (ByteArray.size a0 : Int))) then false else s147_l1 (runes a0))
theorem c147 {g : GL} (a0 : ByteArray)    : Con (EG g) 53 [G.str a0] (G.bool (s147 a0)) := by
 generalize hR : s147 a0 = R;unfold s147 at hR;refine con_of_aw Tryz.func53 rfl rfl fun w0 M0 => ?_;refine aw_seq ?_;refine aw_region [.p] ?_;refine sa rfl rfl ?_;refine st_nil ?_;refine aw_seq ?_;refine aw_seq ?_;refine aw_region [.p, .p, .p, .p, .p, .p, .p, .p] ?_;refine sm rfl rfl ?_;refine su (eff_lenS rfl Tryz.underlying9 rfl) rfl ?_;refine su (eff_eql rfl rfl rfl) rfl ?_;refine sm rfl rfl ?_;refine sg rfl rfl (fun h => eff_moveg rfl rfl) rfl ?_;refine sg rfl rfl (fun h => eff_lenS rfl Tryz.underlying9 (gd h rfl)) rfl ?_;refine sg rfl rfl (fun h => eff_gtr rfl (gd h rfl) rfl) rfl ?_;refine su (eff_or rfl rfl rfl rfl) rfl ?_;refine st_nil ?_;refine aw_cond _ rfl (fun h1 => ?_) (fun h1 => ?_)
 ·replace hR := condT hR h1;refine aw_seq ?_;refine aw_region [.p] ?_;refine sa rfl rfl ?_;refine st_nil ?_;refine aw_ret ?_;subst hR;exact res_c rfl (rv_g rfl)
 ·replace h1 : ((decide ((ByteArray.size a0 : Int) = 0)) || (decide (24 < (ByteArray.size a0 : Int)))) = false := h1;replace hR := condF hR h1;(try simp only [bB] at h1);refine aw_skip ?_;refine aw_seq ?_;refine aw_seq ?_;refine aw_region [.p, .w] ?_;refine sm rfl rfl ?_;refine sw (eff_rangeS 15 rfl Tryz.underlying9 rfl rfl) rfl ?_;refine st_nil ?_;refine aw_block ?_;refine aw_loop_g (γ := Nat × (List (Int × Int))) (fun g => ([(15, .ptr 15 0)], [(15, .it a0 g.1)])) (fun g => RunesAt a0 g.1 g.2 ∧ s147_l1 g.2 = R) (fun g => List.length g.2) ⟨rfl, (0, runes a0), ⟨rfl, trivial⟩, ⟨rfl, trivial⟩, rfl, ⟨runesAt_start _, hR⟩, trivial⟩ ?_
  ·rintro ⟨p1, t3⟩ ⟨hP, hR⟩;replace hP : RunesAt a0 p1 t3 := hP;replace hR : s147_l1 t3 = R := hR
   cases t3 with
   | nil =>
    rw [s147_l1] at hR;refine aw_seq ?_;refine aw_region [.r, .p] ?_;refine sr (eff_nextE rfl rfl rfl (runesAt_nil hP)) rfl ?_;refine su (eff_extract rfl rfl rfl) rfl ?_;refine st_nil ?_;refine aw_seq ?_;refine aw_cond _ rfl (fun h2 => ?_) (fun h2 => ?_)
    ·exact Bool.noConfusion h2
    ·refine aw_exit ?_;refine aw_seq ?_;refine aw_region [.p] ?_;refine sa rfl rfl ?_;refine st_nil ?_;refine aw_ret ?_;subst hR;exact res_c rfl (rv_g rfl)
   | cons y2 t3 =>
    obtain ⟨hlt, hy, hP⟩ := runesAt_cons hP;rw [s147_l1] at hR;refine aw_seq ?_;refine aw_region [.w, .p] ?_;refine sw (eff_nextY (y := y2) rfl rfl rfl hlt hy) rfl ?_;refine su (eff_extract rfl rfl rfl) rfl ?_;refine st_nil ?_;refine aw_seq ?_;refine aw_cond _ rfl (fun h3 => ?_) (fun h3 => ?_)
    ·refine aw_skip ?_;refine aw_block ?_;refine aw_seq ?_;refine aw_region [.p, .p, .p, .p] ?_;refine su (eff_extract rfl rfl rfl) rfl ?_;refine su (eff_extract rfl rfl rfl) rfl ?_;refine sa rfl rfl ?_;refine sa rfl rfl ?_;refine st_nil ?_;refine aw_seq ?_;refine aw_region [.p, .p, .p, .p, .p, .p, .p, .p, .p, .p, .p, .p, .p, .p, .p] ?_;refine sm rfl rfl ?_;refine su (eff_geq rfl rfl rfl) rfl ?_;refine sm rfl rfl ?_;refine sg rfl rfl (fun h => eff_moveg rfl rfl) rfl ?_;refine sg rfl rfl (fun h => eff_leq rfl (gd h rfl) rfl) rfl ?_;refine su (eff_and rfl rfl rfl rfl) rfl ?_;refine sm rfl rfl ?_;refine sg rfl rfl (fun h => eff_moveg rfl rfl) rfl ?_;refine sg rfl rfl (fun h => eff_geq rfl (gd h rfl) rfl) rfl ?_;refine sg rfl rfl (fun h => eff_moveg rfl (gd h rfl)) rfl ?_;refine st_g rfl rfl rfl (gb_if _ _ _) (fun h => eff_moveg rfl rfl) rfl ?_;refine st_g rfl rfl rfl (gb_if _ _ _) (fun h => eff_leq rfl (gd h rfl) rfl) rfl ?_;refine sg rfl rfl (fun h => eff_and rfl (gd h rfl) rfl (gd2 h rfl)) rfl ?_;refine su (eff_or rfl rfl rfl rfl) rfl ?_;refine sa rfl rfl ?_;refine st_nil ?_;refine aw_seq ?_;refine aw_region [.p, .p, .p, .p, .p, .p, .p, .p, .p, .p, .p, .p, .p, .p, .p, .p, .p, .p] ?_;refine sm rfl rfl ?_;refine su (eff_not rfl rfl) rfl ?_;refine sm rfl rfl ?_;refine sg rfl rfl (fun h => eff_moveg rfl rfl) rfl ?_;refine sg rfl rfl (fun h => eff_eql rfl (gd h rfl) rfl) rfl ?_;refine sg rfl rfl (fun h => eff_moveg rfl (gd h rfl)) rfl ?_;refine st_g rfl rfl rfl (gb_if _ _ _) (fun h => eff_moveg rfl rfl) rfl ?_;refine st_g rfl rfl rfl (gb_if _ _ _) (fun h => eff_neq rfl (gd h rfl) rfl) rfl ?_;refine st_g rfl rfl rfl (gb_if _ _ _) (fun h => eff_moveg rfl (gd h rfl)) rfl ?_;refine st_g rfl rfl rfl (gb_if _ _ _) (fun h => eff_moveg rfl rfl) rfl ?_;refine st_g rfl rfl rfl (gb_if _ _ _) (fun h => eff_lss rfl (gd h rfl) rfl) rfl ?_;refine st_g rfl rfl rfl (gb_if _ _ _) (fun h => eff_moveg rfl (gd h rfl)) rfl ?_;refine st_g rfl rfl rfl (gb_if _ _ _) (fun h => eff_moveg rfl rfl) rfl ?_;refine st_g rfl rfl rfl (gb_if _ _ _) (fun h => eff_gtr rfl (gd h rfl) rfl) rfl ?_;refine st_g rfl rfl rfl (gb_if _ _ _) (fun h => eff_or rfl (gd h rfl) rfl (gd2 h rfl)) rfl ?_;refine st_g rfl rfl rfl (gb_if _ _ _) (fun h => eff_and rfl (gd h rfl) rfl (gd2 h rfl)) rfl ?_;refine sg rfl rfl (fun h => eff_or rfl (gd h rfl) rfl (gd2 h rfl)) rfl ?_;refine su (eff_and rfl rfl rfl rfl) rfl ?_;refine st_nil ?_;refine aw_cond _ rfl (fun h4 => ?_) (fun h4 => ?_)
     ·replace hR := condT hR h4;refine aw_seq ?_;refine aw_region [.p] ?_;refine sa rfl rfl ?_;refine st_nil ?_;refine aw_ret ?_;subst hR;exact res_c rfl (rv_g rfl)
     ·replace h4 : ((!(((decide (65 ≤ y2.2)) && (decide (y2.2 ≤ 90))) || ((decide (97 ≤ y2.2)) && (decide (y2.2 ≤ 122))))) && ((decide (y2.1 = 0)) || ((decide (y2.2 ≠ 95)) && ((decide (y2.2 < 48)) || (decide (57 < y2.2)))))) = false := h4;replace hR := condF hR h4;(try simp only [bB] at h4);refine aw_skip ?_;exact ⟨rfl, ((p1 + (Utf8.decode a0 p1).2), t3), ⟨rfl, trivial⟩, ⟨rfl, trivial⟩, rfl, ⟨hP, hR⟩, by simp⟩
    ·exact Bool.noConfusion h3
def s40 (a0 : S45) : Int :=
 (bif (decide ((s109 a0.fFrom) ≠ 0)) || (decide ((s109 a0.fTo) ≠ 0)) then 3 else (bif decide (a0.fTo < a0.fFrom) then 11 else (bif decide (400 < IntKind.i64.wrap (a0.fTo - a0.fFrom)) then 4 else (s90 a0.Days 1 127))))
theorem c40 {g : GL} (a0 : S45)    : Con (EG g) 22 [G.agg [G.int a0.fFrom, G.int a0.fTo, G.int a0.Days]] (G.int (s40 a0)) := by
 generalize hR : s40 a0 = R;unfold s40 at hR;refine con_of_aw Tryz.func22 rfl rfl fun w0 M0 => ?_;refine aw_seq ?_;refine aw_region [.p, .p] ?_;refine su (eff_box rfl rfl) rfl ?_;refine sa rfl rfl ?_;refine st_nil ?_;refine aw_seq ?_;refine aw_seq ?_;refine aw_region [.p, .p, .p, .p, .p, .p, .p, .p, .p, .p] ?_;refine su (eff_fieldAddr rfl fl46_0 rfl) rfl ?_;refine su (eff_load rfl ty3 rfl) rfl ?_;refine su (eff_call rfl K109 rfl (c109 a0.fFrom) (ag_cons rfl ag_nil)) rfl ?_;refine su (eff_neq rfl rfl rfl) rfl ?_;refine sm rfl rfl ?_;refine sg rfl rfl (fun h => eff_fieldAddr rfl fl46_1 rfl) rfl ?_;refine sg rfl rfl (fun h => eff_load rfl ty3 (gd h rfl)) rfl ?_;refine sg rfl rfl (fun h => eff_call rfl K109 rfl (c109 a0.fTo) (ag_cons (gd h rfl) ag_nil)) rfl ?_;refine sg rfl rfl (fun h => eff_neq rfl (gd h rfl) rfl) rfl ?_;refine su (eff_or rfl rfl rfl rfl) rfl ?_;refine st_nil ?_;refine aw_cond _ rfl (fun h1 => ?_) (fun h1 => ?_)
 ·replace hR := condT hR h1;refine aw_seq ?_;refine aw_region [.p] ?_;refine sa rfl rfl ?_;refine st_nil ?_;refine aw_ret ?_;subst hR;exact res_c rfl (rv_g rfl)
 ·replace h1 : ((decide ((s109 a0.fFrom) ≠ 0)) || (decide ((s109 a0.fTo) ≠ 0))) = false := h1;replace hR := condF hR h1;(try simp only [bB] at h1);refine aw_skip ?_;refine aw_seq ?_;refine aw_seq ?_;refine aw_region [.p, .p, .p, .p, .p] ?_;refine su (eff_fieldAddr rfl fl46_1 rfl) rfl ?_;refine su (eff_load rfl ty3 rfl) rfl ?_;refine su (eff_fieldAddr rfl fl46_0 rfl) rfl ?_;refine su (eff_load rfl ty3 rfl) rfl ?_;refine su (eff_lss rfl rfl rfl) rfl ?_;refine st_nil ?_;refine aw_cond _ rfl (fun h2 => ?_) (fun h2 => ?_)
  ·replace hR := condT hR h2;refine aw_seq ?_;refine aw_region [.p] ?_;refine sa rfl rfl ?_;refine st_nil ?_;refine aw_ret ?_;subst hR;exact res_c rfl (rv_g rfl)
  ·replace h2 : (decide (a0.fTo < a0.fFrom)) = false := h2;replace hR := condF hR h2;(try simp only [bB] at h2);refine aw_skip ?_;refine aw_seq ?_;refine aw_seq ?_;refine aw_region [.p, .p, .p, .p, .p, .p] ?_;refine su (eff_fieldAddr rfl fl46_1 rfl) rfl ?_;refine su (eff_load rfl ty3 rfl) rfl ?_;refine su (eff_fieldAddr rfl fl46_0 rfl) rfl ?_;refine su (eff_load rfl ty3 rfl) rfl ?_;refine su (eff_subw rfl rfl rfl) rfl ?_;refine su (eff_gtr rfl rfl rfl) rfl ?_;refine st_nil ?_;refine aw_cond _ rfl (fun h3 => ?_) (fun h3 => ?_)
   ·replace hR := condT hR h3;refine aw_seq ?_;refine aw_region [.p] ?_;refine sa rfl rfl ?_;refine st_nil ?_;refine aw_ret ?_;subst hR;exact res_c rfl (rv_g rfl)
   ·replace hR := condF hR h3;refine aw_skip ?_;refine aw_seq ?_;refine aw_region [.p, .p, .p, .p] ?_;refine su (eff_fieldAddr rfl fl46_2 rfl) rfl ?_;refine su (eff_load rfl ty3 rfl) rfl ?_;refine su (eff_call rfl K90 rfl (c90 a0.Days 1 127) (ag_cons rfl (ag_cons rfl (ag_cons rfl ag_nil)))) rfl ?_;refine sa rfl rfl ?_;refine st_nil ?_;refine aw_ret ?_;subst hR;exact res_c rfl (rv_g rfl)
def s4031 (a0 : ByteArray) : Bool :=
 (decide (a0 = (⟨#[]⟩))) || (s91 a0)
theorem c4031 {g : GL} (a0 : ByteArray)    : Con (EG g) 21 [G.str a0] (G.bool (s4031 a0)) := by
 generalize hR : s4031 a0 = R;unfold s4031 at hR;refine con_of_aw Tryz.func21 rfl rfl fun w0 M0 => ?_;refine aw_seq ?_;refine aw_region [.p] ?_;refine sa rfl rfl ?_;refine st_nil ?_;refine aw_seq ?_;refine aw_region [.p, .p, .p, .p, .p, .p, .p] ?_;refine sm rfl rfl ?_;refine su (eff_seq rfl rfl rfl) rfl ?_;refine sm rfl rfl ?_;refine sg rfl rfl (fun h => eff_moveg rfl rfl) rfl ?_;refine sg rfl rfl (fun h => eff_call rfl K91 rfl (c91 a0) (ag_cons (gd h rfl) ag_nil)) rfl ?_;refine su (eff_or rfl rfl rfl rfl) rfl ?_;refine sa rfl rfl ?_;refine st_nil ?_;refine aw_ret ?_;subst hR;exact res_c rfl (rv_g rfl)
def s4014 (a0 : S115) : Int :=
 (bif ((((!(s91 a0.Name)) || (!(s91 a0.Carrier))) || (!(s91 a0.Partner))) || (!(s4031 a0.Terminal))) || (!(s4031 a0.Link)) then 8 else (bif (!decide (a0.Kind = (⟨#[65]⟩))) && (!decide (a0.Kind = (⟨#[68]⟩))) then 13 else (bif decide (a0.Link = a0.Name) then 32 else (bif decide ((s40 a0.Period) ≠ 0) then (s40 a0.Period) else (s89 [(s90 a0.Minute 0 1439), (s90 a0.Seats 0 999), (s90 a0.Size 1 9), (s90 a0.Noise 0 99)])))))
theorem c4014 {g : GL} (a0 : S115)    : Con (EG g) 5 [G.agg [G.str a0.Name, G.str a0.Carrier, G.str a0.Kind, G.str a0.Terminal, G.str a0.Partner, G.str a0.Link, G.int a0.Period.fFrom, G.int a0.Period.fTo, G.int a0.Period.Days, G.int a0.Minute, G.int a0.Seats, G.int a0.Size, G.int a0.Noise]] (G.int (s4014 a0)) := by
 generalize hR : s4014 a0 = R;unfold s4014 at hR;refine con_of_aw Tryz.func5 rfl rfl fun w0 M0 => ?_;refine aw_seq ?_;refine aw_region [.p, .p] ?_;refine su (eff_box rfl rfl) rfl ?_;refine sa rfl rfl ?_;refine st_nil ?_;refine aw_seq ?_;refine aw_seq ?_;refine aw_region [.p, .p, .p, .p, .p, .p, .p, .p, .p, .p, .p, .p, .p, .p, .p, .p, .p, .p, .p, .p, .p, .p, .p, .p, .p, .p, .p, .p] ?_;refine su (eff_fieldAddr rfl fl116_0 rfl) rfl ?_;refine su (eff_load rfl ty9 rfl) rfl ?_;refine su (eff_call rfl K91 rfl (c91 a0.Name) (ag_cons rfl ag_nil)) rfl ?_;refine su (eff_not rfl rfl) rfl ?_;refine sm rfl rfl ?_;refine sg rfl rfl (fun h => eff_fieldAddr rfl fl116_1 rfl) rfl ?_;refine sg rfl rfl (fun h => eff_load rfl ty9 (gd h rfl)) rfl ?_;refine sg rfl rfl (fun h => eff_call rfl K91 rfl (c91 a0.Carrier) (ag_cons (gd h rfl) ag_nil)) rfl ?_;refine sg rfl rfl (fun h => eff_not rfl (gd h rfl)) rfl ?_;refine su (eff_or rfl rfl rfl rfl) rfl ?_;refine sm rfl rfl ?_;refine sg rfl rfl (fun h => eff_fieldAddr rfl fl116_4 rfl) rfl ?_;refine sg rfl rfl (fun h => eff_load rfl ty9 (gd h rfl)) rfl ?_;refine sg rfl rfl (fun h => eff_call rfl K91 rfl (c91 a0.Partner) (ag_cons (gd h rfl) ag_nil)) rfl ?_;refine sg rfl rfl (fun h => eff_not rfl (gd h rfl)) rfl ?_;refine su (eff_or rfl rfl rfl rfl) rfl ?_;refine sm rfl rfl ?_;refine sg rfl rfl (fun h => eff_fieldAddr rfl fl116_3 rfl) rfl ?_;refine sg rfl rfl (fun h => eff_load rfl ty9 (gd h rfl)) rfl ?_;refine sg rfl rfl (fun h => eff_call rfl K4031 rfl (c4031 a0.Terminal) (ag_cons (gd h rfl) ag_nil)) rfl ?_;refine sg rfl rfl (fun h => eff_not rfl (gd h rfl)) rfl ?_;refine su (eff_or rfl rfl rfl rfl) rfl ?_;refine sm rfl rfl ?_;refine sg rfl rfl (fun h => eff_fieldAddr rfl fl116_5 rfl) rfl ?_;refine sg rfl rfl (fun h => eff_load rfl ty9 (gd h rfl)) rfl ?_;refine sg rfl rfl (fun h => eff_call rfl K4031 rfl (c4031 a0.Link) (ag_cons (gd h rfl) ag_nil)) rfl ?_;refine sg rfl rfl (fun h => eff_not rfl (gd h rfl)) rfl ?_;refine su (eff_or rfl rfl rfl rfl) rfl ?_;refine st_nil ?_;refine aw_cond _ rfl (fun h1 => ?_) (fun h1 => ?_)
 ·replace hR := condT hR h1;refine aw_seq ?_;refine aw_region [.p] ?_;refine sa rfl rfl ?_;refine st_nil ?_;refine aw_ret ?_;subst hR;exact res_c rfl (rv_g rfl)
 ·replace h1 : (((((!(s91 a0.Name)) || (!(s91 a0.Carrier))) || (!(s91 a0.Partner))) || (!(s4031 a0.Terminal))) || (!(s4031 a0.Link))) = false := h1;replace hR := condF hR h1;(try simp only [bB] at h1);refine aw_skip ?_;refine aw_seq ?_;refine aw_seq ?_;refine aw_region [.p, .p, .p, .p, .p, .p, .p, .p] ?_;refine su (eff_fieldAddr rfl fl116_2 rfl) rfl ?_;refine su (eff_load rfl ty9 rfl) rfl ?_;refine su (eff_sne rfl rfl rfl) rfl ?_;refine sm rfl rfl ?_;refine sg rfl rfl (fun h => eff_fieldAddr rfl fl116_2 rfl) rfl ?_;refine sg rfl rfl (fun h => eff_load rfl ty9 (gd h rfl)) rfl ?_;refine sg rfl rfl (fun h => eff_sne rfl (gd h rfl) rfl) rfl ?_;refine su (eff_and rfl rfl rfl rfl) rfl ?_;refine st_nil ?_;refine aw_cond _ rfl (fun h2 => ?_) (fun h2 => ?_)
  ·replace hR := condT hR h2;refine aw_seq ?_;refine aw_region [.p] ?_;refine sa rfl rfl ?_;refine st_nil ?_;refine aw_ret ?_;subst hR;exact res_c rfl (rv_g rfl)
  ·replace h2 : ((!decide (a0.Kind = (⟨#[65]⟩))) && (!decide (a0.Kind = (⟨#[68]⟩)))) = false := h2;replace hR := condF hR h2;(try simp only [bB] at h2);refine aw_skip ?_;refine aw_seq ?_;refine aw_seq ?_;refine aw_region [.p, .p, .p, .p, .p] ?_;refine su (eff_fieldAddr rfl fl116_5 rfl) rfl ?_;refine su (eff_load rfl ty9 rfl) rfl ?_;refine su (eff_fieldAddr rfl fl116_0 rfl) rfl ?_;refine su (eff_load rfl ty9 rfl) rfl ?_;refine su (eff_seq rfl rfl rfl) rfl ?_;refine st_nil ?_;refine aw_cond _ rfl (fun h3 => ?_) (fun h3 => ?_)
   ·replace hR := condT hR h3;refine aw_seq ?_;refine aw_region [.p] ?_;refine sa rfl rfl ?_;refine st_nil ?_;refine aw_ret ?_;subst hR;exact res_c rfl (rv_g rfl)
   ·replace h3 : (decide (a0.Link = a0.Name)) = false := h3;replace hR := condF hR h3;(try simp only [bB] at h3);refine aw_skip ?_;refine aw_seq ?_;refine aw_region [.p, .p, .p, .p] ?_;refine su (eff_fieldAddr rfl fl116_6 rfl) rfl ?_;refine su (eff_loadA rfl ty46 rfl rfl rfl) rfl ?_;refine su (eff_call rfl K40 rfl (c40 a0.Period) (ag_cons rfl ag_nil)) rfl ?_;refine sa rfl rfl ?_;refine st_nil ?_;refine aw_seq ?_;refine aw_seq ?_;refine aw_region [.p, .p] ?_;refine sm rfl rfl ?_;refine su (eff_neq rfl rfl rfl) rfl ?_;refine st_nil ?_;refine aw_cond _ rfl (fun h4 => ?_) (fun h4 => ?_)
    ·replace hR := condT hR h4;refine aw_seq ?_;refine aw_region [.p, .p] ?_;refine sm rfl rfl ?_;refine sa rfl rfl ?_;refine st_nil ?_;refine aw_ret ?_;subst hR;exact res_c rfl (rv_g rfl)
    ·replace h4 : (decide ((s40 a0.Period) ≠ 0)) = false := h4;replace hR := condF hR h4;(try simp only [bB] at h4);refine aw_skip ?_;refine aw_seq ?_;refine aw_draw [.p, .p, .p, .p, .p, .p, .p, .p, .p, .p, .p, .p, .p, .p, .p] (by kernel_rfl) ?_;refine su (eff_fieldAddr rfl fl116_7 rfl) rfl ?_;refine su (eff_load rfl ty3 rfl) rfl ?_;refine su (eff_call rfl K90 rfl (c90 a0.Minute 0 1439) (ag_cons rfl (ag_cons rfl (ag_cons rfl ag_nil)))) rfl ?_;refine su (eff_fieldAddr rfl fl116_8 rfl) rfl ?_;refine su (eff_load rfl ty3 rfl) rfl ?_;refine su (eff_call rfl K90 rfl (c90 a0.Seats 0 999) (ag_cons rfl (ag_cons rfl (ag_cons rfl ag_nil)))) rfl ?_;refine su (eff_fieldAddr rfl fl116_9 rfl) rfl ?_;refine su (eff_load rfl ty3 rfl) rfl ?_;refine su (eff_call rfl K90 rfl (c90 a0.Size 1 9) (ag_cons rfl (ag_cons rfl (ag_cons rfl ag_nil)))) rfl ?_;refine su (eff_fieldAddr rfl fl116_10 rfl) rfl ?_;refine su (eff_load rfl ty3 rfl) rfl ?_;refine su (eff_call rfl K90 rfl (c90 a0.Noise 0 99) (ag_cons rfl (ag_cons rfl (ag_cons rfl ag_nil)))) rfl ?_;refine su (eff_buildSlice rfl Tryz.underlying38 ty3 z3 rfl (ps_cons rfl (ps_cons rfl (ps_cons rfl (ps_cons rfl ps_nil)))) rfl (by simp []) (by decide)) rfl ?_;refine su (eff_call rfl K89 rfl (c89 [(s90 a0.Minute 0 1439), (s90 a0.Seats 0 999), (s90 a0.Size 1 9), (s90 a0.Noise 0 99)]) (ag_cons rfl ag_nil)) rfl ?_;refine sa rfl rfl ?_;refine st_nil ?_;refine aw_ret ?_;subst hR;exact res_c rfl (rv_g rfl)
def s102 (a0 : S45) : Int :=
 (bif decide ((s152 [(s153 a0.fFrom), (s153 a0.fTo)]) ≠ 0) then (s152 [(s153 a0.fFrom), (s153 a0.fTo)]) else (s152 [(s154 (decide (a0.fTo < a0.fFrom)) 11), (s154 (decide (400 < IntKind.i64.wrap (a0.fTo - a0.fFrom))) 4), (s155 a0.Days 1 127)]))
theorem c102 {g : GL} (a0 : S45)    : Con (EG g) 26 [G.agg [G.int a0.fFrom, G.int a0.fTo, G.int a0.Days]] (G.int (s102 a0)) := by
 generalize hR : s102 a0 = R;unfold s102 at hR;refine con_of_aw Tryz.func26 rfl rfl fun w0 M0 => ?_;refine aw_seq ?_;refine aw_region [.p, .p] ?_;refine su (eff_box rfl rfl) rfl ?_;refine sa rfl rfl ?_;refine st_nil ?_;refine aw_seq ?_;refine aw_seq ?_;refine aw_draw [.p, .p, .p, .p, .p, .p, .p, .p, .p] (by kernel_rfl) ?_;refine su (eff_fieldAddr rfl fl46_0 rfl) rfl ?_;refine su (eff_load rfl ty3 rfl) rfl ?_;refine su (eff_call rfl K153 rfl (c153 a0.fFrom) (ag_cons rfl ag_nil)) rfl ?_;refine su (eff_fieldAddr rfl fl46_1 rfl) rfl ?_;refine su (eff_load rfl ty3 rfl) rfl ?_;refine su (eff_call rfl K153 rfl (c153 a0.fTo) (ag_cons rfl ag_nil)) rfl ?_;refine su (eff_buildSlice rfl Tryz.underlying93 ty37 z37 rfl (ps_cons rfl (ps_cons rfl ps_nil)) rfl (by simp []) (by decide)) rfl ?_;refine su (eff_call rfl K152 rfl (c152 [(s153 a0.fFrom), (s153 a0.fTo)]) (ag_cons rfl ag_nil)) rfl ?_;refine sa rfl rfl ?_;refine st_nil ?_;refine aw_seq ?_;refine aw_region [.p, .p] ?_;refine sm rfl rfl ?_;refine su (eff_neq rfl rfl rfl) rfl ?_;refine st_nil ?_;refine aw_cond _ rfl (fun h1 => ?_) (fun h1 => ?_)
 ·replace hR := condT hR h1;refine aw_seq ?_;refine aw_region [.p, .p] ?_;refine sm rfl rfl ?_;refine sa rfl rfl ?_;refine st_nil ?_;refine aw_ret ?_;subst hR;exact res_c rfl (rv_g rfl)
 ·replace h1 : (decide ((s152 [(s153 a0.fFrom), (s153 a0.fTo)]) ≠ 0)) = false := h1;replace hR := condF hR h1;(try simp only [bB] at h1);refine aw_skip ?_;refine aw_seq ?_;refine aw_draw [.p, .p, .p, .p, .p, .p, .p, .p, .p, .p, .p, .p, .p, .p, .p, .p, .p, .p, .p] (by kernel_rfl) ?_;refine su (eff_fieldAddr rfl fl46_1 rfl) rfl ?_;refine su (eff_load rfl ty3 rfl) rfl ?_;refine su (eff_fieldAddr rfl fl46_0 rfl) rfl ?_;refine su (eff_load rfl ty3 rfl) rfl ?_;refine su (eff_lss rfl rfl rfl) rfl ?_;refine su (eff_call rfl K154 rfl (c154 (decide (a0.fTo < a0.fFrom)) 11) (ag_cons rfl (ag_cons rfl ag_nil))) rfl ?_;refine su (eff_fieldAddr rfl fl46_1 rfl) rfl ?_;refine su (eff_load rfl ty3 rfl) rfl ?_;refine su (eff_fieldAddr rfl fl46_0 rfl) rfl ?_;refine su (eff_load rfl ty3 rfl) rfl ?_;refine su (eff_subw rfl rfl rfl) rfl ?_;refine su (eff_gtr rfl rfl rfl) rfl ?_;refine su (eff_call rfl K154 rfl (c154 (decide (400 < IntKind.i64.wrap (a0.fTo - a0.fFrom))) 4) (ag_cons rfl (ag_cons rfl ag_nil))) rfl ?_;refine su (eff_fieldAddr rfl fl46_2 rfl) rfl ?_;refine su (eff_load rfl ty3 rfl) rfl ?_;refine su (eff_call rfl K155 rfl (c155 a0.Days 1 127) (ag_cons rfl (ag_cons rfl (ag_cons rfl ag_nil)))) rfl ?_;refine su (eff_buildSlice rfl Tryz.underlying93 ty37 z37 rfl (ps_cons rfl (ps_cons rfl (ps_cons rfl ps_nil))) rfl (by simp []) (by decide)) rfl ?_;refine su (eff_call rfl K152 rfl (c152 [(s154 (decide (a0.fTo < a0.fFrom)) 11), (s154 (decide (400 < IntKind.i64.wrap (a0.fTo - a0.fFrom))) 4), (s155 a0.Days 1 127)]) (ag_cons rfl ag_nil)) rfl ?_;refine sa rfl rfl ?_;refine st_nil ?_;refine aw_ret ?_;subst hR;exact res_c rfl (rv_g rfl)
def s187 (a0 : Int) (a1 : Int) : Bool :=
 decide (andI (shrI a0 a1) 1 = 1)
theorem c187 {g : GL} (a0 : Int) (a1 : Int)  (hw : 0 ≤ a1)  : Con (EG g) 75 [G.int a0, G.int a1] (G.bool (s187 a0 a1)) := by
 generalize hR : s187 a0 a1 = R;unfold s187 at hR;refine con_of_aw Tryz.func75 rfl rfl fun w0 M0 => ?_;refine aw_seq ?_;refine aw_region [.p] ?_;refine sa rfl rfl ?_;refine st_nil ?_;refine aw_seq ?_;refine aw_region [.p, .p, .p, .p, .p, .p] ?_;refine sm rfl rfl ?_;refine sm rfl rfl ?_;refine su (eff_shr rfl rfl rfl (by omega)) rfl ?_;refine su (eff_and2 rfl rfl rfl) rfl ?_;refine su (eff_eql rfl rfl rfl) rfl ?_;refine sa rfl rfl ?_;refine st_nil ?_;refine aw_ret ?_;subst hR;exact res_c rfl (rv_g rfl)
def s4083 (a0 : ByteArray) : Int :=
 (s4085 (!(s147 a0)) 8)
theorem c4083 {g : GL} (a0 : ByteArray)    : Con (EG g) 92 [G.str a0] (G.int (s4083 a0)) := by
 generalize hR : s4083 a0 = R;unfold s4083 at hR;refine con_of_aw Tryz.func92 rfl rfl fun w0 M0 => ?_;refine aw_seq ?_;refine aw_region [.p] ?_;refine sa rfl rfl ?_;refine st_nil ?_;refine aw_seq ?_;refine aw_region [.p, .p, .p, .p, .p] ?_;refine sm rfl rfl ?_;refine su (eff_call rfl K147 rfl (c147 a0) (ag_cons rfl ag_nil)) rfl ?_;refine su (eff_not rfl rfl) rfl ?_;refine su (eff_call rfl K4085 rfl (c4085 (!(s147 a0)) 8) (ag_cons rfl (ag_cons rfl ag_nil))) rfl ?_;refine sa rfl rfl ?_;refine st_nil ?_;refine aw_ret ?_;subst hR;exact res_c rfl (rv_g rfl)
def s4084 (a0 : ByteArray) : Int :=
 (s4085 ((!decide (a0 = (⟨#[]⟩))) && (!(s147 a0))) 8)
theorem c4084 {g : GL} (a0 : ByteArray)    : Con (EG g) 93 [G.str a0] (G.int (s4084 a0)) := by
 generalize hR : s4084 a0 = R;unfold s4084 at hR;refine con_of_aw Tryz.func93 rfl rfl fun w0 M0 => ?_;refine aw_seq ?_;refine aw_region [.p] ?_;refine sa rfl rfl ?_;refine st_nil ?_;refine aw_seq ?_;refine aw_region [.p, .p, .p, .p, .p, .p, .p, .p, .p] ?_;refine sm rfl rfl ?_;refine su (eff_sne rfl rfl rfl) rfl ?_;refine sm rfl rfl ?_;refine sg rfl rfl (fun h => eff_moveg rfl rfl) rfl ?_;refine sg rfl rfl (fun h => eff_call rfl K147 rfl (c147 a0) (ag_cons (gd h rfl) ag_nil)) rfl ?_;refine sg rfl rfl (fun h => eff_not rfl (gd h rfl)) rfl ?_;refine su (eff_and rfl rfl rfl rfl) rfl ?_;refine su (eff_call rfl K4085 rfl (c4085 ((!decide (a0 = (⟨#[]⟩))) && (!(s147 a0))) 8) (ag_cons rfl (ag_cons rfl ag_nil))) rfl ?_;refine sa rfl rfl ?_;refine st_nil ?_;refine aw_ret ?_;subst hR;exact res_c rfl (rv_g rfl)
def s4086 (a0 : ByteArray) : Bool :=
 (decide (a0 = (⟨#[65]⟩))) || (decide (a0 = (⟨#[68]⟩)))
theorem c4086 {g : GL} (a0 : ByteArray)    : Con (EG g) 56 [G.str a0] (G.bool (s4086 a0)) := by
 generalize hR : s4086 a0 = R;unfold s4086 at hR;refine con_of_aw Tryz.func56 rfl rfl fun w0 M0 => ?_;refine aw_seq ?_;refine aw_region [.p] ?_;refine sa rfl rfl ?_;refine st_nil ?_;refine aw_seq ?_;refine aw_region [.p, .p, .p, .p, .p, .p, .p] ?_;refine sm rfl rfl ?_;refine su (eff_seq rfl rfl rfl) rfl ?_;refine sm rfl rfl ?_;refine sg rfl rfl (fun h => eff_moveg rfl rfl) rfl ?_;refine sg rfl rfl (fun h => eff_seq rfl (gd h rfl) rfl) rfl ?_;refine su (eff_or rfl rfl rfl rfl) rfl ?_;refine sa rfl rfl ?_;refine st_nil ?_;refine aw_ret ?_;subst hR;exact res_c rfl (rv_g rfl)
def s4056 (a0 : S115) : Int :=
 (s4082 [(s4083 a0.Name), (s4083 a0.Carrier), (s4083 a0.Partner), (s4084 a0.Terminal), (s4084 a0.Link), (s4085 (!(s4086 a0.Kind)) 13), (s4085 (decide (a0.Link = a0.Name)) 32), (s102 a0.Period), (s4087 a0.Minute 0 1439), (s4087 a0.Seats 0 999), (s4087 a0.Size 1 9), (s4087 a0.Noise 0 99)])
theorem c4056 {g : GL} (a0 : S115)    : Con (EG g) 47 [G.agg [G.str a0.Name, G.str a0.Carrier, G.str a0.Kind, G.str a0.Terminal, G.str a0.Partner, G.str a0.Link, G.int a0.Period.fFrom, G.int a0.Period.fTo, G.int a0.Period.Days, G.int a0.Minute, G.int a0.Seats, G.int a0.Size, G.int a0.Noise]] (G.int (s4056 a0)) := by
 generalize hR : s4056 a0 = R;unfold s4056 at hR;refine con_of_aw Tryz.func47 rfl rfl fun w0 M0 => ?_;refine aw_seq ?_;refine aw_region [.p, .p] ?_;refine su (eff_box rfl rfl) rfl ?_;refine sa rfl rfl ?_;refine st_nil ?_;refine aw_seq ?_;refine aw_draw [.p, .p, .p, .p, .p, .p, .p, .p, .p, .p, .p, .p, .p, .p, .p, .p, .p, .p, .p, .p, .p, .p, .p, .p, .p, .p, .p, .p, .p, .p, .p, .p, .p, .p, .p, .p, .p, .p, .p, .p, .p, .p, .p, .p] (by kernel_rfl) ?_;refine su (eff_fieldAddr rfl fl116_0 rfl) rfl ?_;refine su (eff_load rfl ty9 rfl) rfl ?_;refine su (eff_call rfl K4083 rfl (c4083 a0.Name) (ag_cons rfl ag_nil)) rfl ?_;refine su (eff_fieldAddr rfl fl116_1 rfl) rfl ?_;refine su (eff_load rfl ty9 rfl) rfl ?_;refine su (eff_call rfl K4083 rfl (c4083 a0.Carrier) (ag_cons rfl ag_nil)) rfl ?_;refine su (eff_fieldAddr rfl fl116_4 rfl) rfl ?_;refine su (eff_load rfl ty9 rfl) rfl ?_;refine su (eff_call rfl K4083 rfl (c4083 a0.Partner) (ag_cons rfl ag_nil)) rfl ?_;refine su (eff_fieldAddr rfl fl116_3 rfl) rfl ?_;refine su (eff_load rfl ty9 rfl) rfl ?_;refine su (eff_call rfl K4084 rfl (c4084 a0.Terminal) (ag_cons rfl ag_nil)) rfl ?_;refine su (eff_fieldAddr rfl fl116_5 rfl) rfl ?_;refine su (eff_load rfl ty9 rfl) rfl ?_;refine su (eff_call rfl K4084 rfl (c4084 a0.Link) (ag_cons rfl ag_nil)) rfl ?_;refine su (eff_fieldAddr rfl fl116_2 rfl) rfl ?_;refine su (eff_load rfl ty9 rfl) rfl ?_;refine su (eff_call rfl K4086 rfl (c4086 a0.Kind) (ag_cons rfl ag_nil)) rfl ?_;refine su (eff_not rfl rfl) rfl ?_;refine su (eff_call rfl K4085 rfl (c4085 (!(s4086 a0.Kind)) 13) (ag_cons rfl (ag_cons rfl ag_nil))) rfl ?_;refine su (eff_fieldAddr rfl fl116_5 rfl) rfl ?_;refine su (eff_load rfl ty9 rfl) rfl ?_;refine su (eff_fieldAddr rfl fl116_0 rfl) rfl ?_;refine su (eff_load rfl ty9 rfl) rfl ?_;refine su (eff_seq rfl rfl rfl) rfl ?_;refine su (eff_call rfl K4085 rfl (c4085 (decide (a0.Link = a0.Name)) 32) (ag_cons rfl (ag_cons rfl ag_nil))) rfl ?_;refine su (eff_fieldAddr rfl fl116_6 rfl) rfl ?_;refine su (eff_loadA rfl ty46 rfl rfl rfl) rfl ?_;refine su (eff_call rfl K102 rfl (c102 a0.Period) (ag_cons rfl ag_nil)) rfl ?_;refine su (eff_fieldAddr rfl fl116_7 rfl) rfl ?_;refine su (eff_load rfl ty3 rfl) rfl ?_;refine su (eff_call rfl K4087 rfl (c4087 a0.Minute 0 1439) (ag_cons rfl (ag_cons rfl (ag_cons rfl ag_nil)))) rfl ?_;refine su (eff_fieldAddr rfl fl116_8 rfl) rfl ?_;refine su (eff_load rfl ty3 rfl) rfl ?_;refine su (eff_call rfl K4087 rfl (c4087 a0.Seats 0 999) (ag_cons rfl (ag_cons rfl (ag_cons rfl ag_nil)))) rfl ?_;refine su (eff_fieldAddr rfl fl116_9 rfl) rfl ?_;refine su (eff_load rfl ty3 rfl) rfl ?_;refine su (eff_call rfl K4087 rfl (c4087 a0.Size 1 9) (ag_cons rfl (ag_cons rfl (ag_cons rfl ag_nil)))) rfl ?_;refine su (eff_fieldAddr rfl fl116_10 rfl) rfl ?_;refine su (eff_load rfl ty3 rfl) rfl ?_;refine su (eff_call rfl K4087 rfl (c4087 a0.Noise 0 99) (ag_cons rfl (ag_cons rfl (ag_cons rfl ag_nil)))) rfl ?_;refine su (eff_buildSlice rfl Tryz.underlying93 ty37 z37 rfl (ps_cons rfl (ps_cons rfl (ps_cons rfl (ps_cons rfl (ps_cons rfl (ps_cons rfl (ps_cons rfl (ps_cons rfl (ps_cons rfl (ps_cons rfl (ps_cons rfl (ps_cons rfl ps_nil)))))))))))) rfl (by simp []) (by decide)) rfl ?_;refine su (eff_call rfl K4082 rfl (c4082 [(s4083 a0.Name), (s4083 a0.Carrier), (s4083 a0.Partner), (s4084 a0.Terminal), (s4084 a0.Link), (s4085 (!(s4086 a0.Kind)) 13), (s4085 (decide (a0.Link = a0.Name)) 32), (s102 a0.Period), (s4087 a0.Minute 0 1439), (s4087 a0.Seats 0 999), (s4087 a0.Size 1 9), (s4087 a0.Noise 0 99)]) (ag_cons rfl ag_nil)) rfl ?_;refine sa rfl rfl ?_;refine st_nil ?_;refine aw_ret ?_;subst hR;exact res_c rfl (rv_g rfl)
def s180 (a0 : Int) : Int :=
 Int.tmod (IntKind.i64.wrap (a0 + 5)) 7
theorem c180 {g : GL} (a0 : Int)    : Con (EG g) 82 [G.int a0] (G.int (s180 a0)) := by
 generalize hR : s180 a0 = R;unfold s180 at hR;refine con_of_aw Tryz.func82 rfl rfl fun w0 M0 => ?_;refine aw_seq ?_;refine aw_region [.p] ?_;refine sa rfl rfl ?_;refine st_nil ?_;refine aw_seq ?_;refine aw_region [.p, .p, .p, .p] ?_;refine sm rfl rfl ?_;refine su (eff_addw rfl rfl rfl) rfl ?_;refine su (eff_remt rfl rfl rfl (by decide)) rfl ?_;refine sa rfl rfl ?_;refine st_nil ?_;refine aw_ret ?_;subst hR;exact res_c rfl (rv_g rfl)
def s192_l1  : Nat → Int → Int → Bool
 | 0, x1, x2 => decide (Int.tmod x1 2 = 1)
 | k4 + 1, x1, x2 => s192_l1 k4 (IntKind.i64.wrap (Int.tdiv x1 2)) (x2 + 1)
def s192 (a0 : Int) (a1 : Int) : Bool :=
 s192_l1 ((a1 - 0).toNat) a0 0
theorem c192 {g : GL} (a0 : Int) (a1 : Int)  (hw : a1 ≤ 7)  : Con (EG g) 81 [G.int a0, G.int a1] (G.bool (s192 a0 a1)) := by
 generalize hR : s192 a0 a1 = R;unfold s192 at hR;refine con_of_aw Tryz.func81 rfl rfl fun w0 M0 => ?_;refine aw_seq ?_;refine aw_region [.p] ?_;refine sa rfl rfl ?_;refine st_nil ?_;refine aw_seq ?_;refine aw_seq ?_;refine aw_region [.p] ?_;refine sa rfl rfl ?_;refine st_nil ?_;refine aw_block ?_;refine aw_loop_g (γ := Nat × Int × Int) (fun g => ([(0, .g (G.int g.2.1)), (1, .g (G.int a1)), (5, .g (G.int g.2.2))], [])) (fun g => g.1 = (a1 - g.2.2).toNat ∧ 0 ≤ g.2.2 ∧ s192_l1 g.1 g.2.1 g.2.2 = R) (fun g => g.1) ⟨rfl, ((a1 - 0).toNat, a0, 0), ⟨rfl, rfl, rfl, trivial⟩, trivial, rfl, ⟨rfl, iD, (by exact hR)⟩, trivial⟩ ?_
 ·rintro ⟨k4, x1, x2⟩ ⟨hk1, iv1_0, hR⟩;replace hk1 : k4 = (a1 - x2).toNat := hk1;replace hR : s192_l1 k4 x1 x2 = R := hR;replace iv1_0 : 0 ≤ x2 := iv1_0;refine aw_seq ?_;refine aw_seq ?_;refine aw_region [.p, .p, .p] ?_;refine sm rfl rfl ?_;refine sm rfl rfl ?_;refine su (eff_lss rfl rfl rfl) rfl ?_;refine st_nil ?_;refine aw_cond _ rfl (fun h1 => ?_) (fun h1 => ?_)
  ·replace h1 : (decide (x2 < a1)) = true := h1;replace h1 := decT h1;obtain ⟨k4, rfl⟩ : ∃ m, k4 = m + 1 := ⟨k4 - 1, by omega⟩;rw [s192_l1] at hR;(try dsimp only at hR);refine aw_skip ?_;refine aw_seq ?_;refine aw_block ?_;refine aw_region [.p, .p, .p] ?_;refine sm rfl rfl ?_;refine su (eff_quow rfl rfl rfl (by decide)) rfl ?_;refine sa rfl rfl ?_;refine st_nil ?_;refine aw_region [.p, .p, .p] ?_;refine sm rfl rfl ?_;refine su (eff_add rfl rfl rfl iG) rfl ?_;refine sa rfl rfl ?_;refine st_nil ?_;exact ⟨rfl, (k4, IntKind.i64.wrap (Int.tdiv x1 2), x2 + 1), ⟨rfl, rfl, rfl, trivial⟩, trivial, rfl, ⟨iB, iB, hR⟩, by simp⟩
  ·replace h1 : (decide (x2 < a1)) = false := h1;replace h1 := decF h1
   obtain rfl : k4 = 0 := by omega
   rw [s192_l1] at hR;refine aw_exit ?_;refine aw_seq ?_;refine aw_region [.p, .p, .p, .p] ?_;refine sm rfl rfl ?_;refine su (eff_remt rfl rfl rfl (by decide)) rfl ?_;refine su (eff_eql rfl rfl rfl) rfl ?_;refine sa rfl rfl ?_;refine st_nil ?_;refine aw_ret ?_;subst hR;exact res_c rfl (rv_g rfl)
end Go.Sim
namespace Go.Proofs
open Go.RowKit Go.Shelf
set_option maxHeartbeats 4000000 in
set_option maxRecDepth 1000000 in
theorem bld_str (B b : Nat) (bs : List Value) (s : ByteArray) (w : World) (h : Lib.IsBuilder 111 5 B b bs w) (hlen : bs.length + s.size ≤ 140737488355328) (hBw : B ≤ w.heap.size) :
  Calls Tryz.prog 77 #[.pointer (some ⟨b, 0, none⟩), .string s] w fun e w' => e = .returned (.tuple #[.int .i64 s.size, .nilIface]) ∧ (Lib.BuilderAt 111 5 B b (.pointer (some ⟨b, 0, none⟩)) (bs ++ Lib.strCells s) w' ∧ Below B w w') := by
 have X := Tryz.Builder_Extra_156;obtain ⟨i0, hi, hz0, hz1, hz2⟩ := info_parts X.infoByte;have e105 : ∀ args w, (callFunc 105 args).run Tryz.prog w = .ok (.enter 105 args) w := enters_of Tryz.func105 (by kernel_rfl) rfl
 go_enter Tryz.func77, Tryz.ntmps77
 go_wp2_with (go_at_fn 105; refine (bld_check B b bs _ h).mono ?_)
 rintro e w1 ⟨rfl, h1, hb1⟩;obtain ⟨hB, v, hbk, hown, hne⟩ := h1
 have c0 : w1.cell? ⟨b, 0, none⟩ = some (.pointer (some ⟨b, 0, none⟩)) := by rw [Lib.cell_of_heap hbk]; rfl
 have c1 : w1.cell? ⟨b, 1, none⟩ = some v := by rw [Lib.cell_of_heap hbk]; rfl
 go_wp2_with (at_builtin; refine Lib.wpList_append_own_string _ rfl _ _ 109 9 rfl B 5 i0 Tryz.underlying109 Tryz.underlying9 hi hz0 hz1 hz2 _ _ _ rfl hown s rfl ?c3 ?c4 ?c5 ?_)
 case c3 => unfold maxLen; omega
 case c4 => omega
 case c5 => have := hb1.size; omega
 intro v' w2 hown' hgrow _;have hlt : b < w1.heap.size := (Array.getElem?_eq_some_iff.1 hbk).1
 have hb2 : w2.heap[b]? = some (.cells #[.pointer (some ⟨b, 0, none⟩), v] 111 (0, 0)) := by
  rw [hgrow.block b hlt (fun e => hne e.symm)];exact hbk
 have d1 : w2.cell? ⟨b, 1, none⟩ = some v := by rw [Lib.cell_of_heap hb2]; rfl
 have f1 : w2.frozen? ⟨b, 1, none⟩ = false := Lib.frozen_of_heap hb2 1
 obtain ⟨ao, n', cap, rfl⟩ : ∃ ao n' cap, v' = .slice ao n' cap := by
  rcases hown'.2 with ⟨hv, _⟩ | ⟨g, cap, cur, hv, _⟩
  ·exact ⟨_, _, _, hv⟩
  ·exact ⟨_, _, _, hv⟩
 go_wp2
 go_ret2
 refine ⟨rfl, ?_, ?_⟩
 ·exact Lib.BuilderAt.put (T := 111) (e := 5) hB hb2 (bs' := bs ++ Lib.strCells s) (by simpa [Lib.strCells_length] using hown') X.neB5
 ·exact (hb1.grown hgrow (by have := hb1.size; omega) (fun k hk => (hown.lt k hk).1)).setCell (p := ⟨b, 1, none⟩) hB _
def maskL (m : Int) : Nat → List UInt8
 | 0 => []
 | n + 1 => maskL m n ++ [if Go.Sim.s187 m n = true then (49 + n).toUInt8 else 48]
theorem maskL_length (m : Int) : ∀ n, (maskL m n).length = n
 | 0 => rfl
 | n + 1 => by simp [maskL, maskL_length m n]
theorem dig_cells (n : Nat) (h : n < 7) : Lib.strCells ⟨(Lib.decDigits (n + 1)).toArray⟩ = Lib.byteCells [(49 + n).toUInt8] := by
 rw [Lib.decDigits_one (by omega), show 48 + (n + 1) = 49 + n by omega]; rfl
theorem dig_size (n : Nat) (h : n < 7) : (⟨(Lib.decDigits (n + 1)).toArray⟩ : ByteArray).size = 1 := by
 rw [Lib.decDigits_one (by omega)]; rfl
theorem bldAt_below {T e : TypeId} {B b : Nat} {p : Value} {bs : List Value} {W W' : World} (h : Lib.BuilderAt T e B b p bs W) (hb : Below W.heap.size W W') : Lib.BuilderAt T e B b p bs W' := by
 have hlt := h.lt;obtain ⟨hB, v, hv, hown, hne⟩ := h;exact ⟨hB, v, (hb.block b hlt).trans hv, hown.kept (row := none) ⟨hb.os, hb.tape, hb.output, hb.size, fun k hk _ => hb.block k hk⟩ (Classical.em _), hne⟩
theorem bld_below {T e : TypeId} {B b : Nat} {bs : List Value} {W W' : World} (h : Lib.IsBuilder T e B b bs W) (hb : Below W.heap.size W W') : Lib.IsBuilder T e B b bs W' :=
 h.elim (fun x => .inl (bldAt_below x hb)) (fun x => .inr (bldAt_below x hb))
theorem in_mask (m : Int) (n : Nat) (w : World) : Calls Tryz.prog 75 #[.int .i64 m, .int .i64 n] w fun e w' => e = .returned (.bool (Go.Sim.s187 m n)) ∧ Below w.heap.size w w' := by
 refine (Go.Sim.c187 (g := []) m n (by omega) w (fun _ => False) [.int .i64 m, .int .i64 n] (by intro _ h; cases h) (by intro _ _ h; cases h) ⟨rfl, rfl, trivial⟩).mono ?_;rintro e w' ⟨v, rfl, h1, h2⟩;exact ⟨by rw [show v = _ from h2], h1⟩
set_option maxHeartbeats 4000000 in
set_option maxRecDepth 1000000 in
theorem print_mask (m : Int) (w : World) : Calls Tryz.prog 35 #[.int .i64 m] w fun e w' => e = .returned (.string ⟨(maskL m 7).toArray⟩) ∧ Below w.heap.size w w' := by
 have e75 : ∀ args w, (callFunc 75 args).run Tryz.prog w = .ok (.enter 75 args) w := enters_of Tryz.func75 (by kernel_rfl) rfl;have e77 : ∀ args w, (callFunc 77 args).run Tryz.prog w = .ok (.enter 77 args) w := enters_of Tryz.func77 (by kernel_rfl) rfl;have e78 : ∀ args w, (callFunc 78 args).run Tryz.prog w = .ok (.enter 78 args) w := enters_of Tryz.func78 (by kernel_rfl) rfl;have e79 : ∀ args w, (callFunc 79 args).run Tryz.prog w = .ok (.enter 79 args) w := enters_of Tryz.func79 (by kernel_rfl) rfl;have e80 : ∀ args w, (callFunc 80 args).run Tryz.prog w = .ok (.enter 80 args) w := enters_of Tryz.func80 (by kernel_rfl) rfl
 go_enter Tryz.func35, Tryz.ntmps35
 go_wp2
 go_loopw [5] (fun i wr => ∃ k : Nat, k ≤ 7 ∧ i = .int .i64 k ∧ Lib.IsBuilder 111 5 w.heap.size w.heap.size (Lib.byteCells (maskL m k)) wr ∧ Below w.heap.size w wr) (fun i _ => 7 - (intOf i).toNat)
 case atStart =>
  exact ⟨0, by omega, rfl, Lib.fresh_isBuilder 111 5 w, (Below.refl _ w).alloc (Nat.le_refl _) _⟩
 case round =>
  obtain ⟨k, hk, rfl, hI, hbw⟩ := hrel;have hsz := hbw.size
  have hlen : (Lib.byteCells (maskL m k)).length = k := by rw [Lib.byteCells_length, maskL_length]
  by_cases hk7 : k < 7
  ·go_wp2_with (go_at_fn 75; refine (in_mask m k _).mono ?_)
   rintro e w1 ⟨rfl, b1⟩;have s1 := b1.size;have hbw1 := hbw.trans (b1.mono hsz)
   cases hb : Go.Sim.s187 m k with
   | true =>
    go_wp2_with (go_at_fn 78; rw [show ((k : Int) + 1) = ((k + 1 : Nat) : Int) by omega]; refine (Tryz.strconv_Itoa_small (k + 1) (by omega) _).mono ?_)
    rintro e w2 ⟨rfl, rfl⟩
    go_wp2_with (go_at_fn 77; refine (bld_str w.heap.size w.heap.size _ _ _ (bld_below hI b1) (by rw [hlen, dig_size k hk7]; omega) (by omega)).mono ?_)
    rintro e w3 ⟨rfl, h3, b3⟩
    go_wp2
    go_roundw
    case rel =>
     refine ⟨k + 1, by omega, by go_num, ?_, hbw1.trans b3⟩;rw [dig_cells k hk7, ← Lib.byteCells_append] at h3;simp only [maskL, hb, if_true];exact Or.inr h3
    case measure => simp [intOf]; omega
   | false =>
    go_wp2_with (go_at_fn 79; refine (bld_byte w.heap.size w.heap.size _ _ _ (bld_below hI b1) (by rw [hlen]; omega) (by omega)).mono ?_)
    rintro e w3 ⟨rfl, h3, b3⟩
    go_wp2
    go_roundw
    case rel =>
     refine ⟨k + 1, by omega, by go_num, ?_, hbw1.trans b3⟩;rw [show [Value.int IntKind.u8 48] = Lib.byteCells [48] from rfl, ← Lib.byteCells_append] at h3;simp only [maskL, hb, if_neg Bool.false_ne_true];exact Or.inr h3
    case measure => simp [intOf]; omega
  ·have : k = 7 := by omega
   subst this
   go_wp2_with (go_at_fn 80; refine (Tryz.Builder_String_any w.heap.size w.heap.size _ _ hI (by omega)).mono ?_)
   rintro e w1 ⟨rfl, b1⟩
   go_wp2
   go_ret
   exact ⟨rfl, hbw.trans b1⟩
end Go.Proofs
namespace Go.Sim
open Go.Proofs Go.RowKit Go.Shelf
def powC : List Value := Lib.pow10Tab.map (Value.int .u64 ·)
class GlR (g : List (Nat × List Value)) : Prop where
 pow : (3, powC) ∈ g
 mx : ∃ m, (0, [Value.int .i64 m]) ∈ g
theorem wB_size (l : List UInt8) : (wB l).size = l.length := by unfold wB; show l.toArray.size = _; simp
theorem wB_app (a b : List UInt8) : wB a ++ wB b = wB (a ++ b) := by
 apply ByteArray.ext
 rw [ByteArray.data_append];unfold wB
 simp
theorem tab_pow {g : GL} [hg : GlR g] {w : World} {M : Nat → Prop} (h : GlOk (EG g) w M) : Lib.TabIs Tryz.prog w "internal/strconv.uint64pow10" .u64 Lib.pow10Tab := by
 obtain ⟨_, _, e, r, h2⟩ := h 3 powC hg.pow
 have hn : Tryz.prog.globalNamed "internal/strconv.uint64pow10" = some 3 := by kernel_rfl
 show World.var? _ _ _ = _;simp only [World.var?, hn, Option.bind_some, h2]
 rfl
theorem max_cell {g : GL} [hg : GlR g] {w : World} {M : Nat → Prop} (h : GlOk (EG g) w M) : ∃ m, w.cell? ⟨0, 0, none⟩ = some (.int .i64 m) := by
 obtain ⟨m, hm⟩ := hg.mx;obtain ⟨_, h1, _⟩ := h 0 _ hm;obtain ⟨⟨v, h2, h3, _⟩, _⟩ := h1;exact ⟨m, by rw [h2, show v = _ from h3]⟩
theorem strs_cells {w : World} {M : Nat → Prop} {b : Nat} : ∀ {xs : List ByteArray} {o : Nat}, Cells w M b o (xs.map cStr).flatten → ∀ (j : Nat) x, xs[j]? = some x → w.cell? ⟨b, o + j, none⟩ = some (.string x)
 | [], _, _, j, x, h => by simp at h
 | y :: ys, o, ⟨⟨v, h1, h2, _⟩, h4⟩, 0, x, h => by
  simp at h; subst h
  rw [Nat.add_zero, h1, show v = _ from h2]
 | y :: ys, o, ⟨_, h4⟩, j + 1, x, h => by
  rw [show o + (j + 1) = o + 1 + j by omega];exact strs_cells h4 j x (by simpa using h)
theorem strs_len (xs : List ByteArray) : (xs.map cStr).flatten = xs.map G.str := by induction xs with
 | nil => rfl
 | cons a l ih => simp [ih]
def s6048 (xs : List ByteArray) (sep : ByteArray) : ByteArray := wB (Lib.join (xs.map (·.data.toList)) sep.data.toList)
theorem c6048 {g : GL} (xs : List ByteArray) (sep : ByteArray) (hN : xs.length ≤ 140737488355328) (hlen : (s6048 xs sep).size ≤ 140737488355328) : Con (EG g) 48 [G.sl 1 (xs.map cStr), G.str sep] (G.str (s6048 xs sep)) := by
 intro w M vs hM hgl hf
 obtain ⟨v1, v2, rfl⟩ : ∃ a b, vs = [a, b] := by
  match vs, hf with
  | [a, b], _ => exact ⟨a, b, rfl⟩
 obtain ⟨h1, h2, _⟩ := hf;obtain rfl : v2 = .string sep := h2;obtain ⟨a, cap, rfl, k1, k2, k3, k4⟩ := h1;rw [List.length_map] at k1 ⊢
 rcases k4 with ⟨k4, _⟩ | ⟨b, o, rfl, k5, k6⟩
 ·have : xs = [] := by
   rw [strs_len] at k4
   simpa using k4
  subst this;refine (Tryz.strings_Join_none a cap sep w).mono ?_;rintro e w' ⟨rfl, rfl⟩;exact ⟨_, rfl, Below.refl _ _, rfl⟩
 ·cases hx : xs with
  | nil =>
   refine (Tryz.strings_Join_none _ cap sep w).mono ?_;rintro e w' ⟨rfl, rfl⟩;exact ⟨_, rfl, Below.refl _ _, rfl⟩
  | cons x0 xr =>
   rw [← hx];have hc := strs_cells k6
   have hlt : b < w.heap.size := by
    have := hc 0 x0 (by rw [hx]; rfl);exact block_lt_of_cell this
   refine (Tryz.strings_Join b o cap xs sep w hc hlt hN k1 (by rw [s6048, wB_size] at hlen; exact hlen)).mono ?_;rintro e w' ⟨rfl, hb⟩;exact ⟨_, rfl, hb, rfl⟩
def s6030 (s sep : ByteArray) : List ByteArray := Lib.splitB sep 0 (Lib.countB s sep) s
theorem cells_strs {w : World} {M : Nat → Prop} {b : Nat} {A : Array Value} {e : TypeId} {r : Nat × Nat} (hb : w.heap[b]? = some (.cells A e r)) : ∀ (xs : List ByteArray) (o : Nat), A.toList.drop o = xs.map Value.string → Cells w M b o (xs.map cStr).flatten
 | [], _, _ => trivial
 | x :: xs, o, h => by
  have h1 : A.toList[o]? = some (.string x) := by
   have := congrArg (fun l => l[0]?) h
   simpa using this
  refine ⟨⟨_, ?_, rfl, rfl⟩, cells_strs hb xs (o + 1) ?_⟩
  ·simp only [World.cell?, hb]
   simpa using h1
  ·rw [← List.drop_drop, h]; rfl
theorem c6030 {g : GL} [GlR g] (s sep : ByteArray) (hs : s.size < 4294967281) (h1 : 1 ≤ sep.size) : Con (EG g) 30 [G.str s, G.str sep] (G.sl 1 ((s6030 s sep).map cStr)) := by
 intro w M vs hM hgl hf
 obtain ⟨v1, v2, rfl⟩ : ∃ a b, vs = [a, b] := by
  match vs, hf with
  | [a, b], _ => exact ⟨a, b, rfl⟩
 obtain ⟨h2, h3, _⟩ := hf;obtain rfl : v1 = .string s := h2;obtain rfl : v2 = .string sep := h3;obtain ⟨m, hm⟩ := max_cell hgl;refine (Tryz.strings_Split s sep m w hs hm h1).mono ?_;rintro e w' ⟨rfl, rfl⟩;have hl : (s6030 s sep).length = Lib.countB s sep + 1 := Lib.splitB_all sep h1 0 _ s rfl
 have hcnt : Lib.countB s sep ≤ s.size := by
  exact Lib.countB_le sep h1 _ s (Nat.le_refl _)
 refine ⟨_, rfl, (Below.refl _ _).alloc (Nat.le_refl _) _, ?_⟩;refine ⟨some ⟨w.heap.size, 0, none⟩, Lib.countB s sep + 1, ?_, ?_, ?_, ?_, .inr ⟨w.heap.size, 0, rfl, fun h => Nat.lt_irrefl _ (hM _ h), ?_⟩⟩
 ·rw [List.length_map, hl]
 ·rw [List.length_map, hl]; exact Nat.le_refl _
 ·unfold maxLen; omega
 ·intro c hc;obtain ⟨x, _, rfl⟩ := List.mem_map.1 hc
  rfl
 ·exact cells_strs (A := ((s6030 s sep).map Value.string).toArray) (MapKept.heap_alloc w _).1 _ 0 (by simp)
theorem c6078 {g : GL} [GlR g] (n : Int) (h0 : 0 ≤ n) (h1 : n ≤ 9223372036854775807) : Con (EG g) 78 [G.int n] (G.str (wB (Lib.decDigits n.toNat))) := by
 intro w M vs hM hgl hf
 obtain ⟨v1, rfl⟩ : ∃ a, vs = [a] := by
  match vs, hf with
  | [a], _ => exact ⟨a, rfl⟩
 obtain ⟨h2, _⟩ := hf;obtain rfl : v1 = .int .i64 n := h2;refine (Tryz.strconv_Itoa n (by omega) h1 w (tab_pow hgl)).mono ?_;rintro e w' ⟨rfl, k, os, rfl⟩;refine ⟨_, rfl, ?_, ?_⟩
 ·exact ⟨rfl, rfl, rfl, by show w.heap.size ≤ (w.heap ++ os).size; rw [Array.size_append]; omega, fun j hj => by show (w.heap ++ os)[j]? = w.heap[j]?; rw [Array.getElem?_append, if_pos hj]⟩
 ·show Value.string _ = Value.string _;rw [Lib.itoa, if_neg (by omega)]; rfl
theorem c6109 {g : GL} (s : ByteArray) (c : Int) (h0 : 0 ≤ c) (h1 : s.size * c.toNat ≤ 140737488355328) (h2 : c ≤ 9223372036854775807) : Con (EG g) 109 [G.str s, G.int c] (G.str (wB (Lib.repeatL s.data.toList c.toNat))) := by
 intro w M vs hM hgl hf
 obtain ⟨v1, v2, rfl⟩ : ∃ a b, vs = [a, b] := by
  match vs, hf with
  | [a, b], _ => exact ⟨a, b, rfl⟩
 obtain ⟨h3, h4, _⟩ := hf;obtain rfl : v1 = .string s := h3;obtain rfl : v2 = .int .i64 c := h4;obtain ⟨k, rfl⟩ : ∃ k : Nat, c = k := ⟨c.toNat, by omega⟩;refine (Tryz.strings_Repeat s k w (by omega) (by simpa using h1)).mono ?_;rintro e w' ⟨rfl, hb⟩;exact ⟨_, rfl, hb, rfl⟩
theorem c6086 {g : GL} (s p : ByteArray) (hs : s.size ≤ 9223372036854775807) : Con (EG g) 86 [G.str s, G.str p] (G.tup [G.str (wB (Lib.trimSuffix s.data.toList p.data.toList)), G.bool (Lib.hasSuffix s.data.toList p.data.toList)]) := by
 intro w M vs hM hgl hf
 obtain ⟨v1, v2, rfl⟩ : ∃ a b, vs = [a, b] := by
  match vs, hf with
  | [a, b], _ => exact ⟨a, b, rfl⟩
 obtain ⟨h3, h4, _⟩ := hf;obtain rfl : v1 = .string s := h3;obtain rfl : v2 = .string p := h4;refine (Tryz.strings_CutSuffix s p w hs).mono ?_;rintro e w' ⟨rfl, rfl⟩;exact ⟨_, rfl, Below.refl _ _, _, rfl, rfl, rfl, trivial⟩
def s6035 (m : Int) : ByteArray := wB (maskL m 7)
theorem c6035 {g : GL} (m : Int) : Con (EG g) 35 [G.int m] (G.str (s6035 m)) := by
 intro w M vs hM hgl hf
 obtain ⟨v1, rfl⟩ : ∃ a, vs = [a] := by
  match vs, hf with
  | [a], _ => exact ⟨a, rfl⟩
 obtain ⟨h2, _⟩ := hf;obtain rfl : v1 = .int .i64 m := h2;refine (print_mask m w).mono ?_;rintro e w' ⟨rfl, hb⟩;exact ⟨_, rfl, hb, rfl⟩
end Go.Sim
namespace Go.Proofs.YtlgimmdbgbofgaaGreatDoor
open Go.ChangeShapes Go.WideShapes Go.ChangeAt Go.WideMaps Go.WideElems Go.RowKit
open Go.Sim (EG GlOk Cells GCells G Grow GlR powC)
abbrev laid2 : List (String × DataW Unit) := [("math/bits.deBruijn32tab", Rows.laid_math_bits_deBruijn32tab), ("math/bits.deBruijn64tab", Rows.laid_math_bits_deBruijn64tab), ("internal/strconv.uint64pow10", Rows.laid_internal_strconv_uint64pow10), ("unicode/utf8.acceptRanges", Rows.laid_unicode_utf8_acceptRanges), ("unicode/utf8.first", Rows.laid_unicode_utf8_first)]
theorem own : ownKnob Tryz.prog.godebug = none := by kernel_rfl
theorem laidOut : laidOutB Tryz.prog = true := by kernel_rfl
theorem gPow : Tryz.prog.globalNamed "internal/strconv.uint64pow10" = some 3 := by kernel_rfl
theorem tPow : (Tryz.prog.globals[3]?).map (·.type) = some 176 := by kernel_rfl
def glM (m : Int) : List (Nat × List Value) := [(0, [Value.int .i64 m]), (3, powC)]
instance (m : Int) : GlR (glM m) := ⟨List.mem_cons_of_mem _ List.mem_cons_self, m, List.mem_cons_self⟩
theorem pow_tab : (Rows.laid_internal_strconv_uint64pow10 : DataW Unit) = Lib.tabData .u64 Lib.pow10Tab := by kernel_rfl
theorem tabIs_pow {W : World} (h : laidMetH Tryz.prog laid2 W) : Lib.TabIs Tryz.prog W "internal/strconv.uint64pow10" .u64 Lib.pow10Tab := by
 rw [MakeChecks.laidMetH_plain _ _ _ (by kernel_rfl)] at h;obtain ⟨ps, ⟨_, _, _, _, _, _, _, _, _, _, ⟨_, _, _, _, _, _, _, _, _, _, ⟨g, t, cs, fuel, p, q, hg, ht, hv, hd, _, _⟩, _⟩, _⟩, _, _⟩ := h;obtain rfl := Option.some.inj (gPow.symm.trans hg);obtain rfl := Option.some.inj (tPow.symm.trans ht);rw [pow_tab] at hd;have hu : ∃ e, Tryz.prog.underlying 176 = some (.array 20 e) ∧ Tryz.prog.underlying e = some (.int .u64) ∧ Tryz.prog.cellsOf e = 1 := ⟨160, by kernel_rfl, by kernel_rfl, by kernel_rfl⟩;obtain ⟨e, h1, h2, h3⟩ := hu;unfold Lib.TabIs;rw [hv, ← Lib.cells_of_tab h1 h2 h3 (by kernel_rfl) hd]
theorem block_int {P : Program} {w : World} {g : Nat} {t : TypeId} {zero : Array Value} {k : IntKind}
  (h : w.ShapedOpen P) (hg : g < P.globals.size)
  (h0 : ((begin P (fun _ _ => 0) default).world.heap[g]?).bind Obj.row? = some (zero, t)) (hz : zero.size = 1)
  (hb : P.buildable t = true) (hc : P.cellTypes P.depth t = some [t]) (hu : P.underlying t = some (.int k)) :
  ∃ m e r, w.heap[g]? = some (.cells #[.int k m] e r) := by
 obtain ⟨cs, hh, hs, hr⟩ := h.1 g zero t hg h0;obtain ⟨ts, hts, _, hall⟩ := hr hb;rw [hc] at hts
 cases hts
 have h1 : 0 < cs.size := by omega
 obtain ⟨u, hu', hok⟩ := hall 0 cs[0] (by simp [h1])
 have : u = t := by simpa using hu'.symm
 subst this
 have hcs : cs = #[cs[0]] := by
  apply Array.ext
  ·show cs.size = 1; omega
  ·intro i h1 h2;have h3 : i < 1 := h2
   have : i = 0 := by omega
   subst this; rfl
 unfold Cell.ok at hok;rw [hu] at hok
 cases hv : cs[0] <;> rw [hv] at hok <;> simp at hok
 case int k' n => exact ⟨n, _, _, by rw [hh, hcs, hv, hok.1]⟩
theorem max_block {W : World} (h : W.ShapedOpen Tryz.prog) : ∃ m e r, W.heap[0]? = some (.cells #[.int .i64 m] e r) := by
 have hs : Tryz.prog.globals.size = 6 := by kernel_rfl
 exact block_int (t := 3) (zero := #[.int .i64 0]) h (by omega) (by kernel_rfl) rfl (by kernel_rfl) (by kernel_rfl) Tryz.underlying3
theorem cells_lits {W : World} {g : Nat} : ∀ {vs : List Value} {o : Nat}, (∀ v ∈ vs, v.oneCell' = true) → (∀ i v, vs[i]? = some v → W.cell? ⟨g, o + i, none⟩ = some v) → Cells W (fun _ => False) g o (vs.map G.lit)
 | [], _, _, _ => trivial
 | v :: vs, o, h1, h2 => ⟨⟨v, by simpa using h2 0 v rfl, rfl, h1 v (List.mem_cons_self ..)⟩, cells_lits (fun u hu => h1 u (List.mem_cons_of_mem _ hu)) fun i u hu => by
   have := h2 (i + 1) u (by simpa using hu)
   rw [show o + 1 + i = o + (i + 1) by omega]; exact this⟩
theorem gl_block {W : World} {g : Nat} {vs : List Value} {e : TypeId} {r : Nat × Nat} (h : W.heap[g]? = some (.cells vs.toArray e r)) (h1 : ∀ v ∈ vs, v.oneCell' = true) : (¬ (fun _ : Nat => False) g ∧ g < W.heap.size) ∧ GCells W (fun _ => False) g vs :=
 ⟨⟨fun h => h, (Array.getElem?_eq_some_iff.1 h).1⟩, cells_lits h1 (fun i v hv => by simp only [World.cell?, h]; simpa using hv), e, r, h⟩
theorem glOk_of_laid {W : World} (h : laidMetH Tryz.prog laid2 W) (hs : W.ShapedOpen Tryz.prog) : ∃ m, GlOk (EG (glM m)) W (fun _ => False) := by
 obtain ⟨m, e, r, hm⟩ := max_block hs;have ht := tabIs_pow h
 have hp : ∃ e r, W.heap[3]? = some (.cells powC.toArray e r) := by
  unfold Lib.TabIs at ht;simp only [World.var?, gPow, Option.bind_some] at ht
  split at ht
  ·rename_i cs e r hh
   exact ⟨e, r, by rw [hh, Option.some.inj ht]; rfl⟩
  ·cases ht
 obtain ⟨e2, r2, hp⟩ := hp;refine ⟨m, fun g vs hg => ?_⟩;have hg : (g, vs) ∈ glM m := hg;simp only [glM, List.mem_cons, List.not_mem_nil, or_false, Prod.mk.injEq] at hg
 rcases hg with ⟨rfl, rfl⟩ | ⟨rfl, rfl⟩
 ·exact gl_block hm (fun v hv => by rw [List.mem_singleton] at hv; subst hv; rfl)
 ·exact gl_block hp (fun v hv => by obtain ⟨z, _, rfl⟩ := List.mem_map.1 hv; rfl)
end Go.Proofs.YtlgimmdbgbofgaaGreatDoor
namespace Go.Proofs.YtlgimmdbgbofgaaGreatDoor
open Go.ChangeShapes Go.WideShapes Go.ChangeAt Go.WideMaps Go.WideElems Go.RowKit
open Go.Sim (EG GlOk Cells G Grow)
set_option maxRecDepth 100000 in
theorem door_met (os : Os) (args : Array Value) : laidMetH Tryz.prog laid2 ((World.laidAll Tryz.prog os laid2).forCall (fun _ _ => 0) ⟨#[], args, []⟩).memory := by
 rw [MakeChecks.laidMetH_plain _ _ _ (by kernel_rfl)];exact laidMet_laidAll _ (by kernel_rfl) (by kernel_rfl)
theorem trodAll_grow {H : Type} {enc : TypeId × Value → H} {P : Program} (hl : laidOutB P = true) {W W' : World} (hb : Below W.heap.size W W') : ∀ {ts : List TypeId} {vs : List Value} {ds : List (DataW H)} {ps : List MemPlace}, (∀ t ∈ ts, P.readableRec t = true ∧ t < P.types.size) → (∀ x ∈ ps, x.block < W.heap.size) →
  DataW.TrodAll enc P W 0 (fun _ => true) true ts vs ds ps → DataW.TrodAll enc P W' 0 (fun b => decide (b < W.heap.size)) true ts vs ds ps
 | [], [], [], _, _, _, h => h
 | t :: ts, v :: vs, d :: ds, ps, ht, hp, ⟨p, q, h1, h2, h3⟩ => by
  subst h3;have := ht t (List.mem_cons_self ..);exact ⟨p, q, Below.trod hl this.1 this.2 h1 hb fun x hx => hp x (List.mem_append_left _ hx), trodAll_grow hl hb (fun t h => ht t (List.mem_cons_of_mem _ h)) (fun x hx => hp x (List.mem_append_right _ hx)) h2, rfl⟩
 | [], _ :: _, _, _, _, _, h => h.elim
 | [], [], _ :: _, _, _, _, h => h.elim
 | _ :: _, [], _, _, _, _, h => h.elim
 | _ :: _, _ :: _, [], _, _, _, h => h.elim
theorem post_law {H : Type} {enc : TypeId × Value → H} {P : Program} (hl : laidOutB P = true) {f : Func} {s : ChangeSpec} {W W' : World} {args : Array Value} {ds gs : List (DataW H)} {before : List MemPlace} (ht4 : P.underlying 4 = some .bool)
  (hW : DataW.Whole enc P f.params.toList s.vars false W args.toList ds gs before) (hvars : s.vars = []) (hres : f.resultTypes = #[4]) (hts : ∀ t ∈ f.params.toList, P.readableRec t = true ∧ t < P.types.size)
  (hs : s.fn H (ds ++ gs) = { results := [.lit (.bool true)], args := ds }) (hg : Below W.heap.size W W') : s.post enc P f false true false false W args (.bool true) W' := by
 have hW' := hW;obtain ⟨p, q, hA, hV, hb, _, _⟩ := hW;rw [hvars] at hV;obtain ⟨rfl, rfl⟩ := trodVars_none hV;rw [List.append_nil] at hb;subst hb;have hlt : ∀ x ∈ before, x.block < W.heap.size := fun x hx => hW'.lt x hx;refine ⟨_, _, _, [], before, [], hW', ?_, ?_, ?_, hg.frame _, fun h => by cases h⟩
 ·rw [hs, hres];exact trodAll_mk1 (shut_bool ht4 _)
 ·rw [hs];exact trodAll_grow hl hg hts hlt hA
 ·rw [hs, hvars]; rfl
theorem handed_shaped {H : Type} {enc : TypeId × Value → H} {a : Assume} {C : Checked} {os : Os} {f : FuncId} {fn : Func} {s : ChangeSpec} {conds : List PathCond} {apart fresh handsOn again : Bool} {X : World → Array Value → Prop}
  (hX : ∀ (w w' : World) (args : Array Value), w.heap = w'.heap → X w args → X w' args)
  (own : ownKnob C.prog.godebug = none) (started : os.Started) (noInit : C.prog.inits.idxOf? f = none) (hfn : C.prog.funcs[f]? = some fn)
  (witness : ∃ (w : World) (tape : Tape) (i : Input), w.os = os ∧ (w.forCall tape i).Shaped C.prog ∧ i.vars = [] ∧ Input.okWide C.prog (w.forCall tape i) .any w.heap.size f i ∧
   ((s.pre enc C.prog fn conds apart (w.forCall tape i).memory i.args ∧ X (w.forCall tape i).memory i.args) ∧ sizedMet enc C.prog fn (OpenSpec.ofChange s) apart (w.forCall tape i).memory i.args) ∧ a.holds C.prog (lone (Frame.enter C.prog f i.args .normal) [] (w.forCall tape i)))
  (contract : ∀ (W : World) (base : Nat) (args : Array Value) (ds gs : List (DataW H)) (before : List MemPlace),
   (∀ (j : Nat) t v, fn.params[j]? = some t → args[j]? = some v → Value.okWide C.prog W .any base t v) →
   DataW.Whole enc C.prog fn.params.toList s.vars apart W args.toList ds gs before →
   conds.all (PathCond.test C.prog ⟨fn.params.toList, ds, s.plain.varTypes C.prog, gs⟩) = true →
   (DataW.weightsEach C.prog (fn.params.toList ++ s.plain.varTypes C.prog) (ds ++ gs)).all (· ≤ reachBytes) = true → X W args → W.ShapedOpen C.prog →
   a.holds C.prog (lone (Frame.enter C.prog f args .normal) [] W) →
   Calls C.prog f args W fun e W' => ∃ v, e = .returned v ∧ s.post enc C.prog fn apart fresh handsOn again W args v W') :
  ReturnsInHanded a C os f .any (fun w args => (s.pre enc C.prog fn conds apart w args ∧ X w args) ∧ sizedMet enc C.prog fn (OpenSpec.ofChange s) apart w args) (s.post enc C.prog fn apart fresh handsOn again) := by
 refine returnsInHanded_of_calls own started noInit witness ?_;intro w tape i _ hsh _ hok hpre hholds;obtain ⟨_, _, _, fn', hfn', _, _, _, _, hval⟩ := hok;have e : fn' = fn := Option.some.inj (hfn'.symm.trans hfn);subst e;obtain ⟨⟨⟨ds, gs, before, hw, hc⟩, hx⟩, hz⟩ := hpre;have hw' := DataW.Whole.of_heap (w' := w.forCall tape i) (by rfl) hw;refine (contract (w.forCall tape i) w.heap.size i.args ds gs before hval hw' hc (hz.weights hw) (hX _ _ _ (by rfl) hx) hsh hholds).mono fun e W' ⟨v, he, hp⟩ => ?_;subst he;exact ChangeSpec.post_blind hp
end Go.Proofs.YtlgimmdbgbofgaaGreatDoor
namespace Go.Sim
variable {H : Type} {enc : TypeId × Value → H} {P : Program} {w : World} {base : Nat} {spare : Nat → Bool} {held : Bool}
theorem arg_rng {r : Reach} {b0 : Nat} {t : TypeId} {v : Value} {d : DataW H} {p : List MemPlace} {k : IntKind} (hs : P.underlying t = some (.int k)) (hv : Value.okWide P w r b0 t v) (h : DataW.Trod enc P w base spare held t v d p) :
  ∃ n : Int, (G.lit (.int k n)).p w (fun _ => False) v ∧ v = .int k n ∧ k.min ≤ n ∧ n ≤ k.max := by
 obtain ⟨n, h1, rfl⟩ := arg_int hs hv h;refine ⟨n, h1, rfl, ?_⟩;unfold Value.okWide at hv;rw [hs] at hv;dsimp only at hv;unfold Cell.okWide Cell.ok at hv;rw [hs] at hv;exact hv.2
theorem s180_le (x : Int) : s180 x ≤ 7 := by
 unfold s180;generalize IntKind.i64.wrap (x + 5) = y;have := Int.tmod_lt_of_pos y (show (0 : Int) < 7 by decide)
 omega
end Go.Sim
set_option maxRecDepth 10000
namespace Go.Sim
open Go.Proofs
def s157 (a0 : S45) (a1 : Int) : Bool :=
 ((decide (a0.fFrom ≤ a1)) && (decide (a1 ≤ a0.fTo))) && (s192 a0.Days (s180 a1))
theorem c157 {g : GL} (a0 : S45) (a1 : Int)    : Con (EG g) 36 [G.agg [G.int a0.fFrom, G.int a0.fTo, G.int a0.Days], G.int a1] (G.bool (s157 a0 a1)) := by
 generalize hR : s157 a0 a1 = R;unfold s157 at hR;refine con_of_aw Tryz.func36 rfl rfl fun w0 M0 => ?_;refine aw_seq ?_;refine aw_region [.p, .p] ?_;refine su (eff_box rfl rfl) rfl ?_;refine sa rfl rfl ?_;refine st_nil ?_;refine aw_seq ?_;refine aw_draw [.p, .p, .p, .p, .p, .p, .p, .p, .p, .p, .p, .p, .p, .p, .p, .p, .p, .p] (by kernel_rfl) ?_;refine sm rfl rfl ?_;refine su (eff_fieldAddr rfl fl46_0 rfl) rfl ?_;refine su (eff_load rfl ty3 rfl) rfl ?_;refine su (eff_geq rfl rfl rfl) rfl ?_;refine sm rfl rfl ?_;refine sg rfl rfl (fun h => eff_moveg rfl rfl) rfl ?_;refine sg rfl rfl (fun h => eff_fieldAddr rfl fl46_1 rfl) rfl ?_;refine sg rfl rfl (fun h => eff_load rfl ty3 (gd h rfl)) rfl ?_;refine sg rfl rfl (fun h => eff_leq rfl (gd h rfl) (gd h rfl)) rfl ?_;refine su (eff_and rfl rfl rfl rfl) rfl ?_;refine sm rfl rfl ?_;refine sg rfl rfl (fun h => eff_fieldAddr rfl fl46_2 rfl) rfl ?_;refine sg rfl rfl (fun h => eff_load rfl ty3 (gd h rfl)) rfl ?_;refine sg rfl rfl (fun h => eff_moveg rfl rfl) rfl ?_;refine sg rfl rfl (fun h => eff_call rfl K180 rfl (c180 a1) (ag_cons (gd h rfl) ag_nil)) rfl ?_;refine sg rfl rfl (fun h => eff_call rfl K192 rfl (c192 a0.Days (s180 a1) (s180_le _)) (ag_cons (gd h rfl) (ag_cons (gd h rfl) ag_nil))) rfl ?_;refine su (eff_and rfl rfl rfl rfl) rfl ?_;refine sa rfl rfl ?_;refine st_nil ?_;refine aw_ret ?_;subst hR;exact res_c rfl (rv_g rfl)
def s104_j1 (rec1 : (List Int) → Int → List Int) (x2 : Int) (x4 : List Int) : List Int :=
 rec1 x4 (x2 + 1)
def s104_l1 (a0 : S45) : Nat → (List Int) → Int → List Int
 | 0, x1, x2 => x1
 | k3 + 1, x1, x2 => (bif (s157 a0 x2) then s104_j1 (fun z0_ z1_ => s104_l1 a0 k3 z0_ z1_) x2 (x1 ++ [x2]) else s104_j1 (fun z0_ z1_ => s104_l1 a0 k3 z0_ z1_) x2 x1)
def s104 (a0 : S45) : List Int :=
 s104_l1 a0 (((a0.fTo + 1) - a0.fFrom).toNat) [] a0.fFrom
theorem c104 {g : GL} (a0 : S45)  (hp0 : 0 ≤ a0.fFrom) (hp1 : a0.fTo ≤ 1000000)  : Con (EG g) 12 [G.agg [G.int a0.fFrom, G.int a0.fTo, G.int a0.Days]] (G.sl 1 (List.map cInt (s104 a0))) := by
 generalize hR : s104 a0 = R;unfold s104 at hR;refine con_of_aw Tryz.func12 rfl rfl fun w0 M0 => ?_;refine aw_seq ?_;refine aw_region [.p, .w] ?_;refine su (eff_box rfl rfl) rfl ?_;refine sw (eff_nilL 2 3 1 rfl rfl rfl) rfl ?_;refine st_nil ?_;refine aw_seq ?_;refine aw_region [.w] ?_;refine sw (eff_nilL 3 3 1 rfl rfl rfl) rfl ?_;refine st_nil ?_;refine aw_seq ?_;refine aw_seq ?_;refine aw_region [.p, .p, .p] ?_;refine su (eff_fieldAddr rfl fl46_0 rfl) rfl ?_;refine su (eff_load rfl ty3 rfl) rfl ?_;refine sa rfl rfl ?_;refine st_nil ?_;refine aw_block ?_;refine aw_loop_g (γ := Nat × (List Int) × Int) (fun g => ([(1, .g (G.ref [G.int a0.fFrom, G.int a0.fTo, G.int a0.Days])), (3, .osl 3 1 0 (List.length g.2.1)), (4, .g (G.int g.2.2))], [(3, .arr 3 1 (List.map cInt g.2.1))])) (fun g => g.1 = ((a0.fTo + 1) - g.2.2).toNat ∧ a0.fFrom ≤ g.2.2 ∧ g.2.1.length ≤ (g.2.2 - a0.fFrom).toNat ∧ s104_l1 a0 g.1 g.2.1 g.2.2 = R) (fun g => g.1) ⟨rfl, (((a0.fTo + 1) - a0.fFrom).toNat, [], a0.fFrom), ⟨rfl, rfl, rfl, trivial⟩, ⟨rfl, trivial⟩, rfl, ⟨rfl, iD, iD, (by exact hR)⟩, trivial⟩ ?_
 ·rintro ⟨k3, x1, x2⟩ ⟨hk1, iv1_0, iv1_1, hR⟩;replace hk1 : k3 = ((a0.fTo + 1) - x2).toNat := hk1;replace hR : s104_l1 a0 k3 x1 x2 = R := hR;replace iv1_0 : a0.fFrom ≤ x2 := iv1_0;replace iv1_1 : x1.length ≤ (x2 - a0.fFrom).toNat := iv1_1;refine aw_seq ?_;refine aw_seq ?_;refine aw_region [.p, .p, .p, .p] ?_;refine sm rfl rfl ?_;refine su (eff_fieldAddr rfl fl46_1 rfl) rfl ?_;refine su (eff_load rfl ty3 rfl) rfl ?_;refine su (eff_leq rfl rfl rfl) rfl ?_;refine st_nil ?_;refine aw_cond _ rfl (fun h1 => ?_) (fun h1 => ?_)
  ·replace h1 : (decide (x2 ≤ a0.fTo)) = true := h1;replace h1 := decT h1;obtain ⟨k3, rfl⟩ : ∃ m, k3 = m + 1 := ⟨k3 - 1, by omega⟩;rw [s104_l1] at hR;(try dsimp only at hR);refine aw_skip ?_;refine aw_cut_g (γ := (List Int)) (fun g => ([(1, .g (G.ref [G.int a0.fFrom, G.int a0.fTo, G.int a0.Days])), (3, .osl 3 1 0 (List.length g)), (4, .g (G.int x2))], [(3, .arr 3 1 (List.map cInt g))])) (fun g => g.length ≤ (x2 + 1 - a0.fFrom).toNat ∧ s104_j1 (fun z0_ z1_ => s104_l1 a0 k3 z0_ z1_) x2 g = R) ?_ ?_
   ·refine aw_block ?_;refine aw_seq ?_;refine aw_region [.p, .p, .p] ?_;refine su (eff_loadA rfl ty46 rfl rfl rfl) rfl ?_;refine sm rfl rfl ?_;refine su (eff_call rfl K157 rfl (c157 a0 x2) (ag_cons rfl (ag_cons rfl ag_nil))) rfl ?_;refine st_nil ?_;refine aw_cond _ rfl (fun h3 => ?_) (fun h3 => ?_)
    ·replace h3 : ((s157 a0 x2)) = true := h3;replace hR := condT hR h3;(try simp only [bB] at h3);refine aw_region [.p, .p, .p, .k, .p] ?_;refine su (eff_moveO rfl rfl) rfl ?_;refine sm rfl rfl ?_;refine su (eff_buildSlice rfl Tryz.underlying38 ty3 z3 rfl (ps_cons rfl ps_nil) rfl (by simp []) (by decide)) rfl ?_;refine st_k rfl rfl (eff_appL (f := cInt) (out := x1) (new := [x2]) rfl app82 rfl rfl (src_eq rfl (src_sl (by decide) (by simp []))) (refsN rfl) (by simp; omega)) rfl ?_;refine su (eff_assignO rfl rfl) rfl ?_;refine st_nil ?_;exact ⟨rfl, x1 ++ [x2], ⟨rfl, rfl, rfl, trivial⟩, ⟨rfl, trivial⟩, rfl, ⟨iB, hR⟩, trivial⟩
    ·replace h3 : ((s157 a0 x2)) = false := h3;replace hR := condF hR h3;(try simp only [bB] at h3);refine aw_skip ?_;exact ⟨rfl, x1, ⟨rfl, rfl, rfl, trivial⟩, ⟨rfl, trivial⟩, rfl, ⟨iB, hR⟩, trivial⟩
   ·rintro x4 ⟨jv1_0, hR⟩;replace jv1_0 : x4.length ≤ (x2 + 1 - a0.fFrom).toNat := jv1_0;replace hR : s104_j1 (fun z0_ z1_ => s104_l1 a0 k3 z0_ z1_) x2 x4 = R := hR;unfold s104_j1 at hR;refine aw_region [.p, .p, .p] ?_;refine sm rfl rfl ?_;refine su (eff_add rfl rfl rfl iG) rfl ?_;refine sa rfl rfl ?_;refine st_nil ?_;exact ⟨rfl, (k3, x4, x2 + 1), ⟨rfl, rfl, rfl, trivial⟩, ⟨rfl, trivial⟩, rfl, ⟨iB, iB, iB, hR⟩, by simp⟩
  ·replace h1 : (decide (x2 ≤ a0.fTo)) = false := h1;replace h1 := decF h1
   obtain rfl : k3 = 0 := by omega
   rw [s104_l1] at hR;refine aw_exit ?_;refine aw_seq ?_;refine aw_region [.p, .p] ?_;refine su (eff_moveO rfl rfl) rfl ?_;refine su (eff_assignO rfl rfl) rfl ?_;refine st_nil ?_;refine aw_ret ?_;subst hR;exact res_c rfl (rv_viewL rfl rfl)
end Go.Sim
namespace Go.Proofs
open Go.RowKit Go.Shelf
attribute [local go_sem] Oper.semAt_some
theorem wd_any (d : Int) (h0 : 0 ≤ d) (h1 : d ≤ 1000000) (w : World) : Calls Tryz.prog 76 #[.int .i64 d] w fun e w' => e = .returned (.int .i64 ((d + 5) % 7)) ∧ w' = w := by
 go_enter Tryz.func76, Tryz.ntmps76
 go_wp2
 go_ret
 exact ⟨rfl, rfl⟩
theorem bits_and (a b : Int) : bits BinOp.and IntKind.i64 a b = Sim.andI a b := rfl
theorem shr_eq (m d : Int) (h0 : 0 ≤ d) (h1 : d ≤ 6) : m / 2 ^ d.toNat = Sim.shrI m d := by
 unfold Sim.shrI;rw [Nat.min_eq_left (by omega), Int.fdiv_eq_ediv_of_nonneg _ (by exact Int.le_of_lt (Int.pow_pos (by decide)))]
theorem im_any (m d : Int) (h0 : 0 ≤ d) (h1 : d ≤ 6) (w : World) : Calls Tryz.prog 75 #[.int .i64 m, .int .i64 d] w fun e w' => e = .returned (.bool (decide (Sim.andI (Sim.shrI m d) 1 = 1))) ∧ w' = w := by
 go_enter Tryz.func75, Tryz.ntmps75
 go_wp2
 go_ret
 refine ⟨?_, rfl⟩;rw [bits_and, shr_eq m d h0 h1];rw [show (Sim.andI (Sim.shrI m d) 1 == 1) = decide (Sim.andI (Sim.shrI m d) 1 = 1) by rw [Bool.eq_iff_iff]; simp]
 rfl
def inM (m d : Int) : Bool := decide (Sim.andI (Sim.shrI m ((d + 5) % 7)) 1 = 1)
def dayL (m : Int) : Nat → Int → List Int
 | 0, _ => []
 | n + 1, d => if inM m d = true then d :: dayL m n (d + 1) else dayL m n (d + 1)
theorem im_T (m d : Int) (hm : inM m d = true) (h0 : 0 ≤ d) (h1 : d ≤ 1000000) (w : World) : Calls Tryz.prog 75 #[.int .i64 m, .int .i64 ((d + 5) % 7)] w fun e w' => e = .returned (.bool true) ∧ w' = w :=
 (im_any m ((d + 5) % 7) (by omega) (by omega) w).mono fun e w' ⟨h, k⟩ => ⟨by rw [h]; unfold inM at hm; rw [hm], k⟩
theorem im_F (m d : Int) (hm : inM m d = false) (h0 : 0 ≤ d) (h1 : d ≤ 1000000) (w : World) : Calls Tryz.prog 75 #[.int .i64 m, .int .i64 ((d + 5) % 7)] w fun e w' => e = .returned (.bool false) ∧ w' = w :=
 (im_any m ((d + 5) % 7) (by omega) (by omega) w).mono fun e w' ⟨h, k⟩ => ⟨by rw [h]; unfold inM at hm; rw [hm], k⟩
set_option maxRecDepth 100000 in
set_option maxHeartbeats 1000000 in
theorem days1_in (F : Fence) (n : Nat) (h6 : F.fn 74) (h7 : F.fn 75) (h8 : F.fn 76) (hro : F.round = none) (hw : F = Fence.wide) (hn : 2 ≤ n) (l b o n₀ : Nat) (hb : b < n₀) (f t m : Int) (hf : 0 ≤ f) (ht : t ≤ 1000000) (J Jx : List Int → World → Prop) (hJd : ∀ pre W k, J pre W → J pre (W.drewN k))
  (hY : ∀ pre x W, J pre W → pre.length < (dayL m (t + 1 - f).toNat f).length → YieldAt F (n - 1) Tryz.prog l #[.int .i64 x] W fun e W' =>
   (e = .returned (.bool true) ∧ J (pre ++ [x]) W' ∧ Below n₀ W W') ∨ (e = .returned (.bool false) ∧ Jx (pre ++ [x]) W'))
  (W : World) (c0 : W.cell? ⟨b, o, none⟩ = some (.int .i64 f)) (c1 : W.cell? ⟨b, o + 1, none⟩ = some (.int .i64 t)) (c2 : W.cell? ⟨b, o + 2, none⟩ = some (.int .i64 m)) (h0 : J [] W) :
  CallsIn F n Tryz.prog 74 #[.func (.yield l) #[] #[], .pointer (some ⟨b, o, none⟩)] W fun e W' => (∃ v, e = .returned v) ∧
   ((∃ ys, ys = dayL m (t + 1 - f).toNat f ∧ J ys W') ∨ (∃ pre, pre <+: dayL m (t + 1 - f).toNat f ∧ Jx pre W')) := by
 refine callsIn_of_wp Tryz.func74 rfl h6 ?_ hro;simp only [Tryz.ntmps74, List.size_toArray, List.length_cons, List.length_nil, Nat.reduceAdd, Nat.reduceSub, Array.replicate_succ, Array.replicate_zero, List.push_toArray, List.append_toArray, List.nil_append, List.cons_append];subst hw
 gi_wp2
 gi_loopw [3] (fun p wr => ∃ (pre : List Int) (d : Int), p = .int .i64 d ∧ f ≤ d ∧ (d ≤ t + 1 ∨ d = f) ∧ dayL m (t + 1 - f).toNat f = pre ++ dayL m (t + 1 - d).toNat d ∧ wr.cell? ⟨b, o + 1, none⟩ = some (.int .i64 t) ∧ wr.cell? ⟨b, o + 2, none⟩ = some (.int .i64 m) ∧ J pre wr)
  (fun p _ => (t + 1 - intOf p).toNat)
 case atStart => exact ⟨[], f, rfl, Int.le_refl _, .inr rfl, rfl, c1, c2, h0⟩
 case round =>
  clear c0 c1 c2 h0;obtain ⟨pre, d, rfl, hd1, hd2, hx, c1, c2, hJs⟩ := hrel
  by_cases hlt : d ≤ t
  ·have hs : dayL m (t + 1 - d).toNat d = if inM m d = true then d :: dayL m (t + 1 - (d + 1)).toNat (d + 1) else dayL m (t + 1 - (d + 1)).toNat (d + 1) := by
    obtain ⟨k, hk⟩ : ∃ k, (t + 1 - d).toNat = k + 1 := ⟨(t - d).toNat, by omega⟩;rw [hk, dayL, show (t + 1 - (d + 1)).toNat = k by omega]
   by_cases hm : inM m d = true
   ·obtain ⟨fn, tmps, assign, body, hy, hR'⟩ := YieldAt.mono (hY pre d wr.drew (hJd _ _ 1 hJs) (by rw [hx, hs, if_pos hm]; simp)) (R' := fun e W' => ∃ bb : Bool, e = .returned (.bool bb) ∧ ((bb = true → J (pre ++ [d]) W' ∧ Below n₀ wr.drew W') ∧ (bb = false → Jx (pre ++ [d]) W'))) (by
     rintro e W' (⟨rfl, k1, k2⟩ | ⟨rfl, k1⟩)
     ·exact ⟨true, rfl, (fun _ => ⟨k1, k2⟩), (fun h => (by cases h))⟩
     ·exact ⟨false, rfl, (fun h => (by cases h)), (fun _ => k1)⟩)
    have X1 := Lib.hid hx; clear hx;have X2 := Lib.hid hs; clear hs
    gi_wp2
    gi_region_with (first | (refine ⟨fun h => (by cases h), ?_⟩; gi_at_call 76; refine (callsIn_wide.2 (wd_any _ (by omega) (by omega) _)).mono ?_; rintro e w' ⟨rfl, rfl⟩) | (refine ⟨fun h => (by cases h), ?_⟩; gi_at_call 75; refine (callsIn_wide.2 (im_T _ _ hm (by omega) (by omega) _)).mono ?_; rintro e w' ⟨rfl, rfl⟩) | (refine ⟨fun h => (by cases h), ?_⟩; refine hR'.mono ?_; rintro e W' ⟨bb, rfl, hT, hF⟩))
    all_goals
     cases bb with
     | true =>
      obtain ⟨hJ3, hk3⟩ := hT rfl;clear hT hF;have e1 : W'.cell? ⟨b, o + 1, none⟩ = some (.int .i64 t) := (hk3.cell (p := ⟨b, o + 1, none⟩) hb).trans c1;have e2 : W'.cell? ⟨b, o + 2, none⟩ = some (.int .i64 m) := (hk3.cell (p := ⟨b, o + 2, none⟩) hb).trans c2
      go_simp
      gi_wp2
      go_roundw
      case rel => exact ⟨pre ++ [d], d + 1, rfl, by omega, by omega, by rw [X1.out, X2.out, if_pos hm]; simp, e1, e2, hJ3⟩
      case measure => simp [intOf]; omega
     | false =>
      have hX := hF rfl;clear hT hF
      go_simp
      gi_wp2
      refine bodyPost_ret (results_none rfl _ _ _) rfl ?_;exact ⟨⟨_, rfl⟩, .inr ⟨pre ++ [d], ⟨dayL m (t + 1 - (d + 1)).toNat (d + 1), by rw [X1.out, X2.out, if_pos hm]; simp⟩, hX⟩⟩
   ·have hm' : inM m d = false := by simpa using hm
    have X1 := Lib.hid hx; clear hx;have X2 := Lib.hid hs; clear hs
    gi_wp2
    refine wpIn_region_quiet_lit rfl (by kernel_rfl) (by kernel_rfl) ?_
    repeat (gi_big_quiet_step (fail))
    gi_big_quiet_step ((refine ⟨fun h => (by cases h), ?_⟩; exact CallsIn.quiet_of_same (callsIn_wide.2 (wd_any d (by omega) (by omega) _))))
    repeat (gi_big_quiet_step (fail))
    gi_big_quiet_step ((refine ⟨fun h => (by cases h), ?_⟩; exact CallsIn.quiet_of_same (callsIn_wide.2 (im_F m d hm' (by omega) (by omega) _))))
    repeat (gi_big_quiet_step (fail))
    refine BigFrame.wpQuietIn_skip (fun _ _ _ _ => trivial) (by rfl) ?_;simp only [Act.put, List.setIfInBounds_toArray, List.set_cons_succ, List.set_cons_zero]
    repeat (gi_big_quiet_step (fail))
    refine wpQuietIn_nil ?_;intro _ hw';obtain ⟨nq, hw''⟩ := hw';subst hw''
    gi_wp2
    go_roundw
    case rel => exact ⟨pre, d + 1, rfl, by omega, by omega, by rw [X1.out, X2.out, if_neg hm], c1, c2, hJd _ _ _ hJs⟩
    case measure => simp [intOf]; omega
  ·have hs : dayL m (t + 1 - d).toNat d = [] := by rw [show (t + 1 - d).toNat = 0 by omega]; rfl
   have X1 := Lib.hid hx; clear hx;have X2 := Lib.hid hs; clear hs
   gi_wp2
   go_end0
   refine ⟨⟨_, rfl⟩, .inl ?_⟩
   have : dayL m (t + 1 - f).toNat f = pre := by rw [X1.out, X2.out]; simp
   rw [this]; exact hJs
theorem days_stops (n : Nat) (hn : 2 ≤ n) (b o n₀ : Nat) (f t m : Int) (hf : 0 ≤ f) (ht : t ≤ 1000000) (w : World) (hb : b < n₀) (hn₀ : n₀ ≤ w.heap.size) (c0 : w.cell? ⟨b, o, none⟩ = some (.int .i64 f)) (c1 : w.cell? ⟨b, o + 1, none⟩ = some (.int .i64 t)) (c2 : w.cell? ⟨b, o + 2, none⟩ = some (.int .i64 m)) :
  SeqStopsK Fence.wide n Tryz.prog 74 #[.pointer (some ⟨b, o, none⟩)] (fun x : Int => #[Value.int .i64 x]) (Below n₀) (fun ys => ys = dayL m (t + 1 - f).toNat f) (fun pre => pre <+: dayL m (t + 1 - f).toNat f) (dayL m (t + 1 - f).toNat f).length w := fun l J Jx W hW hJ _ hY h0 =>
 days1_in Fence.wide n trivial trivial trivial rfl rfl hn l b o n₀ hb f t m hf ht J Jx (fun pre W k h => hJ pre W (W.drewN k) none h ⟨rfl, rfl, rfl, Nat.le_refl _, fun _ _ _ => rfl⟩ (fun r e => by cases e)) hY W
  ((hW.cell (p := ⟨b, o, none⟩) (Nat.lt_of_lt_of_le hb hn₀)).trans c0) ((hW.cell (p := ⟨b, o + 1, none⟩) (Nat.lt_of_lt_of_le hb hn₀)).trans c1) ((hW.cell (p := ⟨b, o + 2, none⟩) (Nat.lt_of_lt_of_le hb hn₀)).trans c2) h0
theorem dayL_len (m : Int) : ∀ (n : Nat) (d : Int), (dayL m n d).length ≤ n
 | 0, _ => Nat.le_refl _
 | n + 1, d => by
  unfold dayL;have := dayL_len m n (d + 1)
  split <;> simp <;> omega
theorem yes_any (x : Int) (w : World) : Calls Tryz.prog 34 #[.int .i64 x] w fun e w' => e = .returned (.bool true) ∧ w' = w := by
 go_enter Tryz.func34, Tryz.ntmps34
 go_wp2
 go_ret
 exact ⟨rfl, rfl⟩
end Go.Proofs
namespace Go.Proofs
open Go.RowKit Go.Shelf
attribute [local go_sem] Oper.semAt_some
theorem yes_any2 (x : Int) (w : World) : Calls Tryz.prog 34 #[.int .i64 x] w fun e w' => e = .returned (.bool true) ∧ w = w' := (yes_any x w).mono fun _ _ ⟨h, k⟩ => ⟨h, k.symm⟩
theorem info3 : (Tryz.prog.info? 3).map (fun i => (i.zero, i.size, i.bytes)) = some (some (.int .i64 0), 1, 8) := by kernel_rfl
set_option maxRecDepth 100000 in
set_option maxHeartbeats 2000000 in
theorem collected_in (b o : Nat) (f t m : Int) (hf : 0 ≤ f) (ht : t ≤ 1000000) (w : World) (hb : b < w.heap.size) (c0 : w.cell? ⟨b, o, none⟩ = some (.int .i64 f)) (c1 : w.cell? ⟨b, o + 1, none⟩ = some (.int .i64 t)) (c2 : w.cell? ⟨b, o + 2, none⟩ = some (.int .i64 m)) :
  CallsIn Fence.wide 4 Tryz.prog 32 #[.func (.func 74) #[] #[.pointer (some ⟨b, o, none⟩)], .func (.func 34) #[] #[]] w fun e W' => ∃ v, e = .returned v ∧ W'.ownsRow (w.heap.size + 1) 3 1 v (dayL m (t + 1 - f).toNat f).length ((dayL m (t + 1 - f).toNat f).map (Value.int .i64)) ∧ (v = .slice none 0 0 ↔ dayL m (t + 1 - f).toNat f = []) ∧ Below w.heap.size w W' := by
 obtain ⟨i0, hi, hz0, hz1, hz2⟩ := info_parts info3;have hlen := dayL_len m (t + 1 - f).toNat f
 have hlen2 : (t + 1 - f).toNat ≤ 1000001 := by omega
 refine callsIn_of_wp_marks Tryz.func32 rfl trivial ?_ rfl;simp only [Tryz.ntmps32, List.size_toArray, List.length_cons, List.length_nil, Nat.reduceAdd, Nat.reduceSub, Array.replicate_succ, Array.replicate_zero, List.push_toArray, List.append_toArray, List.nil_append, List.cons_append]
 gi_wp2
 have bO := Boxed.new (w.alloc (.cells #[.func (.func 34) #[] #[]] 80)) 38 (.slice none 0 0);rw [World.size_alloc] at bO;have bF := (Boxed.new w 80 (.func (.func 34) #[] #[])).cell;have hB00 : Below w.heap.size w (w.alloc (.cells #[.func (.func 34) #[] #[]] 80)) := (Below.refl _ w).alloc (Nat.le_refl _) _;have hB0 : Below (w.heap.size + 1) (w.alloc (.cells #[.func (.func 34) #[] #[]] 80)) ((w.alloc (.cells #[.func (.func 34) #[] #[]] 80)).alloc (.cells #[.slice none 0 0] 38)) := (Below.refl _ _).alloc (by simp) _;have hB1 : Below w.heap.size w ((w.alloc (.cells #[.func (.func 34) #[] #[]] 80)).alloc (.cells #[.slice none 0 0] 38)) := hB00.trans (hB0.mono (by omega));refine wpIn_rangeFunc_ownG rfl (by decide) (gf := 74) (lb := #[.pointer (some ⟨b, o, none⟩)]) rfl trivial (enters_of Tryz.func74 (by kernel_rfl) rfl)
  (days_stops 3 (by decide) b o (w.heap.size + 1) f t m hf ht _ (by omega) (by simp) ((hB1.cell (p := ⟨b, o, none⟩) hb).trans c0) ((hB1.cell (p := ⟨b, o + 1, none⟩) hb).trans c1) ((hB1.cell (p := ⟨b, o + 2, none⟩) hb).trans c2)) belowK_t (belowK_b (by simp)) (Below.refl _ _) (fun _ => rfl)
  (fun pre W => (∃ v, Boxed W (w.heap.size + 1) 38 v ∧ W.ownsRow (w.heap.size + 1) 3 1 v pre.length (pre.map (Value.int .i64)) ∧ (v = .slice none 0 0 ↔ pre = [])) ∧ Below (w.heap.size + 1) (w.alloc (.cells #[.func (.func 34) #[] #[]] 80)) W)
  (fun _ _ _ => False)
  (OwnFrom.and (Own.from (holdsRow_own (w.heap.size + 1) (w.heap.size + 1) 38 3 1 (fun pre : List Int => pre.length) (fun pre => pre.map (Value.int .i64)) (fun pre v => v = .slice none 0 0 ↔ pre = [])) _) (ownFrom_below (by simp) (by simp)))
  (fun _ _ _ _ _ hs _ _ => hs)
  ⟨⟨_, bO, World.ownsRow_nil _ _ _ _, by simp⟩, hB0⟩
  (fun x => { tmps := #[Value.func (Fn.func 74) #[] #[Value.pointer (some { block := b, off := o })],
     Value.func (Fn.func 34) #[] #[], undef, Value.pointer (some { block := w.heap.size, off := 0 }),
     Value.slice none 0 0, Value.pointer (some { block := w.heap.size + 1, off := 0 }), .int .i64 x,
     Value.func (Fn.func 74) #[] #[Value.pointer (some { block := b, off := o })], .int .i64 x, undef, undef, undef,
     undef, undef, undef, undef, undef], defers := [] }) ?assign ?body ?done ?stop
 case assign =>
  intro l x W K hK
  gi_wp2
  exact hK
 case body =>
  rintro l pre x W ⟨⟨v, hv, hrow, hnil⟩, hB⟩ hlt;have hc := hv.cell;have hfc : W.cell? ⟨w.heap.size, 0, none⟩ = some (.func (.func 34) #[] #[]) := (hB.cell (p := ⟨w.heap.size, 0, none⟩) (by simp)).trans bF
  gi_wp2_with (first | (gi_at_call 34; refine (CallsIn.inRound l (callsIn_wide.2 (yes_any2 x _))).mono ?_; rintro e w' ⟨rfl, rfl⟩) | (refine ⟨trivial, ?_⟩; gi_at_call 34; refine (CallsIn.inRound l (callsIn_wide.2 (yes_any2 x _))).mono ?_; rintro e w' ⟨rfl, rfl⟩) | (refine ⟨fun h => (by cases h), ?_⟩; gi_at_call 34; refine (CallsIn.inRound l (callsIn_wide.2 (yes_any2 x _))).mono ?_; rintro e w' ⟨rfl, rfl⟩) | (gi_at_builtin; refine wpListIn_append_own _ rfl _ _ 38 rfl (w.heap.size + 1) 3 i0 (.int .i64 0) 1 8 Tryz.underlying38 hi hz0 hz1 hz2 rfl (by decide) _ _ _ rfl (hrow.alloc _) ⟨W.heap.size, 0, none⟩ 1 1 [.int .i64 x] rfl rfl (cell_one_new _ _ _) (by simp [Value.oneCell']) (by unfold maxLen; omega) (by omega) (by have := hB.size; simp at this ⊢; omega) ?_; intro v' w1 hown' hgrow _; obtain ⟨g', cap', rfl⟩ := ownsRow_succ hown'; obtain ⟨hv1, hv2, hr2, hk2, hb2⟩ := hv.appended (by decide) hrow (by have := hB.size; simp at this ⊢; omega) (Nat.le_refl _) hown' hgrow; have hc1 := hv1.cell; have hf1 := hv1.frozen))
  exact ⟨hk2.from _, hb2, ⟨_, hv2, by simpa using hr2, by simp⟩, hB.trans hb2⟩
 case done =>
  rintro D ys W hD rfl ⟨⟨v, hv, hrow, hnil⟩, hB⟩ hK;have hc := hv.cell
  gi_wp2
  refine ⟨by simp, .inl ⟨_, _, rfl, run_takeDeferred hK, ?_⟩⟩;exact ⟨_, results_tmp rfl _ _ _, v, rfl, ownsRow_putObj hrow _ hK rfl, hnil, hB00.trans ((hB.mono (by omega)).trans (belowK_b (w := w) (Nat.le_refl _) W D _ _ (by simp at hD; omega) hK rfl rfl))⟩
 case stop =>
  rintro D c pre W _ _ h _;exact h.elim
end Go.Proofs
namespace Go.Sim
open Go.Proofs
def G.slX (k : Nat) (xs : List (List G)) : G :=
 ⟨fun w M u => (∀ c ∈ xs, c.length = k) ∧ ((xs = [] ∧ u = .slice none 0 0) ∨ ∃ b cap cur e, u = .slice (some ⟨b, 0, none⟩) xs.length cap ∧ xs.length ≤ cap ∧ cap ≤ maxLen ∧ ¬ M b ∧ w.heap[b]? = some (.cells cur e (0, 0)) ∧ cur.size = cap * k ∧ Fits w M xs.flatten (cur.toList.take (xs.length * k))), fun {w w' M M' u} h hh hM => by
  obtain ⟨h0, h⟩ := h;refine ⟨h0, ?_⟩
  rcases h with h | ⟨b, cap, cur, e, h1, h2, h3, h4, h5, h6, h7⟩
  ·exact .inl h
  ·have hlt := (Array.getElem?_eq_some_iff.1 h5).1
   exact .inr ⟨b, cap, cur, e, h1, h2, h3, fun hm => h4 (hM b hlt hm), (hh b hlt h4).trans h5, h6, h7.mono hh hM⟩⟩
instance (k : Nat) (xs : List (List G)) : One (.slX k xs) := ⟨fun ⟨_, h⟩ => by
 rcases h with ⟨_, h⟩ | ⟨_, _, _, _, h, _⟩ <;> rw [h] <;> rfl⟩
theorem slX_sl {w : World} {M : Nat → Prop} {k : Nat} {xs : List (List G)} {u : Value} (h : (G.slX k xs).p w M u) : (G.sl k xs).p w M u := by
 obtain ⟨h0, h⟩ := h
 rcases h with ⟨rfl, rfl⟩ | ⟨b, cap, cur, e, h1, h2, h3, h4, h5, h6, h7⟩
 ·exact ⟨none, 0, rfl, Nat.le_refl _, Nat.zero_le _, h0, .inl ⟨rfl, fun _ => rfl⟩⟩
 ·exact ⟨some ⟨b, 0, none⟩, cap, h1, h2, h3, h0, .inr ⟨b, 0, rfl, h4, by
   have hl := flatten_len h0;have hls := h7.length
   have : ∀ j v, (cur.toList.take (xs.length * k))[j]? = some v → w.cell? ⟨b, 0 + j, none⟩ = some v := by
    intro j v hj;rw [List.getElem?_take] at hj
    split at hj
    ·rw [cell_of_row w _ _ _ _ _ h5, Nat.zero_add]; simpa using hj
    ·cases hj
   exact cells_of_get h7 this⟩⟩
where cells_of_get {w : World} {M : Nat → Prop} {b : Nat} : ∀ {cs : List G} {vs : List Value} {o : Nat}, Fits w M cs vs → (∀ j v, vs[j]? = some v → w.cell? ⟨b, o + j, none⟩ = some v) → Cells w M b o cs
 | [], _, _, _, _ => trivial
 | c :: cs, [], _, h, _ => h.elim
 | c :: cs, v :: vs, o, h, hg => ⟨⟨v, hg 0 v rfl, h.1.1, h.1.2⟩, cells_of_get h.2 fun j u hj => by
   have := hg (j + 1) u (by simpa using hj)
   rwa [show o + (j + 1) = o + 1 + j by omega] at this⟩
theorem nil_slX (k : Nat) : ∀ w M, (G.slX k []).p w M (.slice none 0 0) := fun _ _ => ⟨by simp, .inl ⟨rfl, rfl⟩⟩
theorem flat_ints (l : List Int) : (l.map cInt).flatten = (l.map (Value.int .i64)).map G.lit := by
 induction l with
 | nil => rfl
 | cons x l ih => simp [ih]
theorem fits_lit {w : World} {M : Nat → Prop} : ∀ {vs : List Value}, (∀ v ∈ vs, v.oneCell' = true) → Fits w M (vs.map G.lit) vs
 | [], _ => trivial
 | v :: vs, h => ⟨⟨rfl, h v List.mem_cons_self⟩, fits_lit fun u hu => h u (List.mem_cons_of_mem _ hu)⟩
theorem slX_row {w w' : World} {M : Nat → Prop} {e : TypeId} {v : Value} {n0 : Nat} {l : List Int} (hM : ∀ b, M b → b < w.heap.size) (hn : w.heap.size ≤ n0) (h : w'.ownsRow n0 e 1 v l.length (l.map (Value.int .i64))) : (G.slX 1 (l.map cInt)).p w' M v := by
 obtain ⟨h1, h2⟩ := h;refine ⟨fun c hc => ?_, ?_⟩
 ·obtain ⟨x, _, rfl⟩ := List.mem_map.1 hc; rfl
 rcases h2 with ⟨rfl, h2⟩ | ⟨gg, cap, cur, rfl, g1, g2, g3, g4, g5, g6⟩
 ·exact .inl ⟨by rw [List.eq_nil_of_length_eq_zero h2]; rfl, rfl⟩
 ·refine .inr ⟨gg, cap, cur, e, by simp, by simpa using g3, g4, fun hm => by have := hM _ hm; omega, g2, g5, ?_⟩;rw [List.length_map, g6, flat_ints]
  exact fits_lit fun v hv => by obtain ⟨x, _, rfl⟩ := List.mem_map.1 hv; rfl
theorem c135X {g : GL} (f t m : Int) (hf : 0 ≤ f) (ht : t ≤ 1000000) : Con (EG g) 32 [G.fn (.func 74) [] [G.ref [G.int f, G.int t, G.int m]], G.lit (.func (.func 34) #[] #[])] (G.slX 1 (List.map cInt (dayL m (t + 1 - f).toNat f))) := by
 intro w M vs hM hgl hv
 match vs, hv with
 | [v1, v2], hv =>
  obtain ⟨⟨fs, cs, rfl, hfs, hcs⟩, rfl, _⟩ := hv
  cases fs with
  | cons _ _ => exact hfs.elim
  | nil =>
   match cs, hcs with
   | [c], hcs =>
    obtain ⟨b, o, rfl, hnm, hc⟩ := hcs.1
    have hnm : ¬ M b := by rcases hnm with h | h; cases h; exact h
    obtain ⟨⟨_, e1, e1', _⟩, ⟨_, e2, e2', _⟩, ⟨_, e3, e3', _⟩, _⟩ := hc;have e1' : _ = _ := e1'; have e2' : _ = _ := e2'; have e3' : _ = _ := e3';subst e1'; subst e2'; subst e3';have hb : b < w.heap.size := block_lt_of_cell e1;refine (callsIn_wide.1 (collected_in b o f t m hf ht w hb e1 e2 e3)).mono ?_;rintro e W' ⟨v, rfl, h1, _, h3⟩;exact ⟨v, rfl, h3, slX_row hM (Nat.le_succ _) h1⟩
theorem c136 {g : GL} (f t m : Int) : Con (EG g) 33 [G.agg [G.int f, G.int t, G.int m]] (G.fn (.func 74) [] [G.ref [G.int f, G.int t, G.int m]]) := by
 refine con_of_aw Tryz.func33 rfl rfl fun w0 M0 => ?_;refine aw_seq ?_;refine aw_region [.p, .p] ?_;refine st rfl rfl (eff_box rfl rfl) rfl ?_;refine st rfl rfl (eff_assigng rfl rfl) rfl ?_;refine st_nil ?_;refine aw_seq ?_;refine aw_region [.p, .p] ?_;refine st rfl rfl (eff_makeF rfl rfl rfl) rfl ?_;refine st rfl rfl (eff_assigng rfl rfl) rfl ?_;refine st_nil ?_;refine aw_ret ?_;exact res_c rfl (rv_g rfl)
theorem first2 (a b : Int) (h : s152 [a, b] = 0) : a = 0 ∧ b = 0 := by
 simp only [s152, s152_l1] at h
 by_cases ha : a = 0
 ·by_cases hb : b = 0
  ·exact ⟨ha, hb⟩
  ·simp [ha, hb] at h
 ·simp [ha] at h
theorem first3 (a b c : Int) (h : s152 [a, b, c] = 0) : a = 0 ∧ b = 0 ∧ c = 0 := by
 simp only [s152, s152_l1] at h
 by_cases ha : a = 0
 ·by_cases hb : b = 0
  ·by_cases hc : c = 0
   ·exact ⟨ha, hb, hc⟩
   ·simp [ha, hb, hc] at h
  ·simp [ha, hb] at h
 ·simp [ha] at h
theorem rng0 (n lo hi : Int) (h : s155 n lo hi = 0) : lo ≤ n ∧ n ≤ hi := by
 simp only [s155, s154] at h
 by_cases h1 : n < lo
 ·simp [h1] at h
 ·by_cases h2 : hi < n
  ·simp [h2] at h
  ·omega
theorem when0 (b : Bool) (e : Int) (he : e ≠ 0) (h : s154 b e = 0) : b = false := by
 cases b with
 | false => rfl
 | true => exact absurd h he
theorem period_ok (p : S45) (h : s102 p = 0) : 0 ≤ p.fFrom ∧ p.fFrom ≤ p.fTo ∧ p.fTo ≤ 99999 ∧ p.fTo - p.fFrom ≤ 400 ∧ 1 ≤ p.Days ∧ p.Days ≤ 127 := by
 unfold s102 at h
 by_cases h1 : s152 [s153 p.fFrom, s153 p.fTo] = 0
 ·rw [decide_eq_false (by simpa using h1)] at h;rw [cond_false] at h;obtain ⟨a1, a2⟩ := first2 _ _ h1;obtain ⟨b1, b2, b3⟩ := first3 _ _ _ h;have c1 := rng0 _ _ _ a1;have c2 := rng0 _ _ _ a2;have c3 := rng0 _ _ _ b3;have d1 := when0 _ _ (by decide) b1;have d2 := when0 _ _ (by decide) b2;simp only [decide_eq_false_iff_not] at d1 d2;rw [wrap_i64 (by unfold I64; omega)] at d2
  omega
 ·rw [decide_eq_true (by simpa using h1)] at h;exact absurd h h1
end Go.Sim
set_option maxRecDepth 10000
namespace Go.Sim
open Go.Proofs
def s69 (a0 : S45) : (List Int) × Int :=
 (bif decide ((s102 a0) ≠ 0) then ([], (s102 a0)) else (dayL a0.Days (a0.fTo + 1 - a0.fFrom).toNat a0.fFrom, 0))
theorem c69 {g : GL} (a0 : S45)    : Con (EG g) 10 [G.agg [G.int a0.fFrom, G.int a0.fTo, G.int a0.Days]] (G.tup [G.slX 1 (List.map cInt ((s69 a0)).1), G.int ((s69 a0)).2]) := by
 generalize hR : s69 a0 = R;unfold s69 at hR;refine con_of_aw Tryz.func10 rfl rfl fun w0 M0 => ?_;refine aw_seq ?_;refine aw_region [.p, .p, .p] ?_;refine su (eff_box rfl rfl) rfl ?_;refine sa rfl rfl ?_;refine sa rfl rfl ?_;refine st_nil ?_;refine aw_seq ?_;refine aw_seq ?_;refine aw_region [.p, .p, .p] ?_;refine su (eff_loadA rfl ty46 rfl rfl rfl) rfl ?_;refine su (eff_call rfl K102 rfl (c102 a0) (ag_cons rfl ag_nil)) rfl ?_;refine sa rfl rfl ?_;refine st_nil ?_;refine aw_seq ?_;refine aw_region [.p, .p] ?_;refine sm rfl rfl ?_;refine su (eff_neq rfl rfl rfl) rfl ?_;refine st_nil ?_;refine aw_cond _ rfl (fun h1 => ?_) (fun h1 => ?_)
 ·replace h1 : (decide ((s102 a0) ≠ 0)) = true := h1;replace hR := condT hR h1;(try simp only [bB] at h1);refine aw_seq ?_;refine aw_region [.p, .p, .p] ?_;refine sm rfl rfl ?_;refine sa rfl rfl ?_;refine sa rfl rfl ?_;refine st_nil ?_;refine aw_ret ?_;subst hR;exact resN rfl ⟨rv_nilG rfl (nil_slX _), rv_g rfl, trivial⟩ (by simp)
 ·replace h1 : (decide ((s102 a0) ≠ 0)) = false := h1;replace hR := condF hR h1;(try simp only [bB] at h1);have hp := period_ok a0 (by simpa using h1);refine aw_skip ?_;refine aw_seq ?_;refine aw_region [.p, .p, .p, .p, .p] ?_;refine su (eff_loadA rfl ty46 rfl rfl rfl) rfl ?_;refine su (eff_call rfl K136 rfl (c136 a0.fFrom a0.fTo a0.Days) (ag_cons rfl ag_nil)) rfl ?_;refine su (eff_call rfl K135 rfl (c135X a0.fFrom a0.fTo a0.Days hp.1 (by omega)) (ag_cons rfl (ag_cons rfl ag_nil))) rfl ?_;refine sa rfl rfl ?_;refine sa rfl rfl ?_;refine st_nil ?_;refine aw_ret ?_;subst hR;exact resN rfl ⟨rv_g rfl, rv_g rfl, trivial⟩ (by simp)
theorem decode_lo {s : ByteArray} {i : Nat} (h : (s.get! i).toNat < 128) : Utf8.decode s i = ((s.get! i).toNat, 1) := by
 unfold Utf8.decode
 simp [h]
theorem decode_hi {s : ByteArray} {i : Nat} (h : 128 ≤ (s.get! i).toNat) : 128 ≤ (Utf8.decode s i).1 := by
 unfold Utf8.decode;simp only [Nat.add_zero];rw [if_neg (by omega)]
 repeat' split
 all_goals first | assumption | (simp [Utf8.runeError]; done) | (rename_i h2; simp only [Bool.and_eq_true, decide_eq_true_eq] at h2; have h3 := h2.1; dsimp only; omega)
theorem get_toList {s : ByteArray} {i : Nat} (h : i < s.data.toList.length) : s.get! i = s.data.toList[i] := by
 have h' : i < s.data.size := by simpa using h
 show s.data[i]! = _;rw [getElem!_pos s.data i h']
 simp
theorem name_loop (s : ByteArray) : ∀ n pos, s.size ≤ pos + n → s147_l1 (runesF s n pos) = s91_l1 (s.data.toList.drop pos) pos := by
 intro n
 induction n with
 | zero =>
  intro pos h;rw [List.drop_eq_nil_of_le (by simpa using h)]; rfl
 | succ n ih =>
  intro pos h;unfold runesF
  split
  ·rename_i hp
   have hl : pos < s.data.toList.length := by simpa using hp
   rw [List.drop_eq_getElem_cons hl, s147_l1, s91_l1, ← get_toList hl]
   rcases Nat.lt_or_ge (s.get! pos).toNat 128 with hb | hb
   ·rw [decode_lo hb, ih (pos + 1) (by omega)];have e1 : (decide (((pos : Nat) : Int) = 0)) = decide ((pos : Int) = 0) := rfl;dsimp only;rw [Bool.or_comm ((decide ((65 : Int) ≤ _)) && _)]
   ·have hb2 := decode_hi hb
    have c1 : (!(((decide ((65 : Int) ≤ ((Utf8.decode s pos).1 : Int))) && (decide (((Utf8.decode s pos).1 : Int) ≤ 90))) || ((decide ((97 : Int) ≤ ((Utf8.decode s pos).1 : Int))) && (decide (((Utf8.decode s pos).1 : Int) ≤ 122))))) = true := by
     simp; omega
    have c2 : (!(((decide ((97 : Int) ≤ ((s.get! pos).toNat : Int))) && (decide (((s.get! pos).toNat : Int) ≤ 122))) || ((decide ((65 : Int) ≤ ((s.get! pos).toNat : Int))) && (decide (((s.get! pos).toNat : Int) ≤ 90))))) = true := by
     simp; omega
    dsimp only;rw [c1, c2]
    have d1 : (decide (((Utf8.decode s pos).1 : Int) ≠ 95) && (decide (((Utf8.decode s pos).1 : Int) < 48) || decide (57 < ((Utf8.decode s pos).1 : Int)))) = true := by simp; omega
    have d2 : (decide (((s.get! pos).toNat : Int) ≠ 95) && (decide (((s.get! pos).toNat : Int) < 48) || decide (57 < ((s.get! pos).toNat : Int)))) = true := by simp; omega
    rw [d1, d2]; simp
  ·rename_i hp
   rw [List.drop_eq_nil_of_le (by simpa using hp)]; rfl
theorem name_eq (s : ByteArray) : s147 s = s91 s := by
 unfold s147 s91 runes;rw [name_loop s _ 0 (by omega)]; rfl
end Go.Sim
set_option maxRecDepth 10000
namespace Go.Sim
theorem s152_l1_zero : ∀ (l : List Int) (k : Nat), s152_l1 l k = 0 ↔ ∀ x ∈ l, x = 0
 | [], k => by simp [s152_l1]
 | y :: t, k => by
  rw [s152_l1]
  by_cases h : y = 0
  ·rw [decide_eq_false (by simpa using h), cond_false, s152_l1_zero t]; simp [h]
  ·rw [decide_eq_true h, cond_true]; simp [h]
theorem s152_zero (l : List Int) : s152 l = 0 ↔ ∀ x ∈ l, x = 0 := s152_l1_zero l 0
theorem s4082_l1_zero : ∀ (l : List Int) (k : Nat), s4082_l1 l k = 0 ↔ ∀ x ∈ l, x = 0
 | [], k => by simp [s4082_l1]
 | y :: t, k => by
  rw [s4082_l1]
  by_cases h : y = 0
  ·rw [decide_eq_false (by simpa using h), cond_false, s4082_l1_zero t]; simp [h]
  ·rw [decide_eq_true h, cond_true]; simp [h]
theorem s4082_zero (l : List Int) : s4082 l = 0 ↔ ∀ x ∈ l, x = 0 := s4082_l1_zero l 0
theorem s89_l1_zero : ∀ (l : List Int) (k : Nat), s89_l1 l k = 0 ↔ ∀ x ∈ l, x = 0
 | [], k => by simp [s89_l1]
 | y :: t, k => by
  rw [s89_l1]
  by_cases h : y = 0
  ·rw [decide_eq_false (by simpa using h), cond_false, s89_l1_zero t]; simp [h]
  ·rw [decide_eq_true h, cond_true]; simp [h]
theorem s89_zero (l : List Int) : s89 l = 0 ↔ ∀ x ∈ l, x = 0 := s89_l1_zero l 0
theorem s90_zero {a b c : Int} : s90 a b c = 0 ↔ b ≤ a ∧ a ≤ c := by
 unfold s90
 by_cases h1 : a < b <;> by_cases h2 : c < a <;> simp [h1, h2] <;> omega
theorem s4087_zero {a b c : Int} : s4087 a b c = 0 ↔ b ≤ a ∧ a ≤ c := by
 unfold s4087 s4085
 by_cases h1 : a < b <;> by_cases h2 : c < a <;> simp [h1, h2] <;> omega
theorem s155_zero' {a b c : Int} : s155 a b c = 0 ↔ b ≤ a ∧ a ≤ c := by
 unfold s155 s154
 by_cases h1 : a < b <;> by_cases h2 : c < a <;> simp [h1, h2] <;> omega
theorem per_ok {p : S45} (h : s40 p = 0) : s102 p = 0 := by
 unfold s40 at h;rw [cond_eq_ite] at h
 split at h
 ·simp at h
 rename_i h1
 simp only [Bool.or_eq_true, decide_eq_true_eq, not_or, Decidable.not_not, ne_eq] at h1;rw [cond_eq_ite] at h
 split at h
 ·simp at h
 rename_i h2
 rw [cond_eq_ite] at h
 split at h
 ·simp at h
 rename_i h3
 have q1 : 0 ≤ p.fFrom ∧ p.fFrom ≤ 99999 := s90_zero.1 h1.1;have q2 : 0 ≤ p.fTo ∧ p.fTo ≤ 99999 := s90_zero.1 h1.2;have q3 := s90_zero.1 h
 have z1 : s152 [s153 p.fFrom, s153 p.fTo] = 0 := (s152_zero _).2 (by
  intro x hx;simp only [List.mem_cons, List.not_mem_nil, or_false] at hx
  rcases hx with rfl | rfl
  ·exact s155_zero'.2 q1
  ·exact s155_zero'.2 q2)
 unfold s102;rw [z1];refine (s152_zero _).2 ?_;intro x hx;simp only [List.mem_cons, List.not_mem_nil, or_false] at hx
 rcases hx with rfl | rfl | rfl
 ·unfold s154; rw [decide_eq_false (by simpa using h2)]; rfl
 ·unfold s154; rw [decide_eq_false (by simpa using h3)]; rfl
 ·exact s155_zero'.2 q3
theorem opt_ok {s : ByteArray} (h : s4031 s = true) : s4084 s = 0 := by
 unfold s4031 at h; unfold s4084 s4085;rw [name_eq]
 by_cases h1 : s = (⟨#[]⟩ : ByteArray)
 ·simp [h1]
 ·simp only [h1, decide_false, Bool.false_or] at h
  simp [h]
structure RqOk (q : S115) : Prop where
 n : s147 q.Name = true
 c : s147 q.Carrier = true
 p : s147 q.Partner = true
 t : s4031 q.Terminal = true
 l : s4031 q.Link = true
 k : q.Kind = (⟨#[65]⟩ : ByteArray) ∨ q.Kind = (⟨#[68]⟩ : ByteArray)
 lk : ¬ q.Link = q.Name
 per : s102 q.Period = 0
 m : 0 ≤ q.Minute ∧ q.Minute ≤ 1439
 s : 0 ≤ q.Seats ∧ q.Seats ≤ 999
 z : 1 ≤ q.Size ∧ q.Size ≤ 9
 no : 0 ≤ q.Noise ∧ q.Noise ≤ 99
theorem rq_of {q : S115} (h : s4014 q = 0) : RqOk q := by
 unfold s4014 at h;rw [cond_eq_ite] at h
 split at h
 ·cases h
 rename_i h1
 rw [cond_eq_ite] at h
 split at h
 ·cases h
 rename_i h2
 rw [cond_eq_ite] at h
 split at h
 ·cases h
 rename_i h3
 rw [cond_eq_ite] at h
 split at h
 ·rename_i h4; simp at h4; exact absurd h h4
 rename_i h4
 simp only [Bool.or_eq_true, Bool.not_eq_true', not_or, Bool.not_eq_false] at h1;obtain ⟨⟨⟨⟨a1, a2⟩, a3⟩, a4⟩, a5⟩ := h1;have h5 := (s89_zero _).1 h;refine ⟨by rw [name_eq]; exact a1, by rw [name_eq]; exact a2, by rw [name_eq]; exact a3, a4, a5, ?_, by simpa using h3, per_ok (by simpa using h4), ?_, ?_, ?_, ?_⟩
 ·by_cases hA : q.Kind = (⟨#[65]⟩ : ByteArray)
  ·exact .inl hA
  ·by_cases hD : q.Kind = (⟨#[68]⟩ : ByteArray)
   ·exact .inr hD
   ·simp [hA, hD] at h2
 ·exact s90_zero.1 (h5 _ (by simp))
 ·exact s90_zero.1 (h5 (s90 q.Seats 0 999) (by simp))
 ·exact s90_zero.1 (h5 (s90 q.Size 1 9) (by simp))
 ·exact s90_zero.1 (h5 (s90 q.Noise 0 99) (by simp))
open Go.Proofs
set_option maxRecDepth 100000 in
theorem mask_all : ∀ m : Fin 128, ∀ w : Fin 7, s192 (m.1 : Int) (w.1 : Int) = decide (andI (shrI (m.1 : Int) (w.1 : Int)) 1 = 1) := by decide +kernel
theorem mask_eq {m d : Int} (h1 : 1 ≤ m) (h2 : m ≤ 127) (h3 : 0 ≤ d) (h4 : d ≤ 1000000) : s192 m (s180 d) = inM m d := by
 have hw : s180 d = (d + 5) % 7 := by
  unfold s180;rw [wrap_i64 (by unfold I64; omega), Int.tmod_eq_emod_of_nonneg (by omega)]
 rw [hw];have := mask_all ⟨m.toNat, by omega⟩ ⟨((d + 5) % 7).toNat, by omega⟩;simp only at this;rw [Int.toNat_of_nonneg (by omega), Int.toNat_of_nonneg (by omega)] at this;exact this
theorem s104_loop (p : S45) (h1 : 1 ≤ p.Days) (h2 : p.Days ≤ 127) (h3 : 0 ≤ p.fFrom) (h4 : p.fTo ≤ 99999) : ∀ (n : Nat) (x : List Int) (d : Int), p.fFrom ≤ d → n = (p.fTo + 1 - d).toNat → s104_l1 p n x d = x ++ dayL p.Days n d
 | 0, x, d, _, _ => by simp [s104_l1, dayL]
 | n + 1, x, d, hd, hn => by
  rw [s104_l1, dayL]
  have hs : s157 p d = inM p.Days d := by
   unfold s157;rw [mask_eq h1 h2 (by omega) (by omega), decide_eq_true (by omega), decide_eq_true (by omega)]
   simp
  rw [hs];unfold s104_j1;have ih := fun x => s104_loop p h1 h2 h3 h4 n x (d + 1) (by omega) (by omega);show (bif inM p.Days d then s104_l1 p n (x ++ [d]) (d + 1) else s104_l1 p n x (d + 1)) = _;rw [ih, ih]
  cases inM p.Days d <;> simp
theorem days_eq (p : S45) (h : s102 p = 0) : s104 p = dayL p.Days (p.fTo + 1 - p.fFrom).toNat p.fFrom := by
 obtain ⟨q1, q2, q3, q4, q5, q6⟩ := period_ok p h;unfold s104;rw [s104_loop p q5 q6 q1 q3 _ _ _ (Int.le_refl _) rfl]; rfl
section
variable {E : Env}
end
section
variable {E : Env} {w0 : World} {M0 : Nat → Prop} {ops : Array Oper} {md : Region.Mode} {cl : Nat → Cls}
theorem anyA_first2 {K : ASt → Prop} {i : Nat} {oi : Oper} (hi : ops[i]? = some oi) (D : Nat → Bool) (hD : ∀ j, D j = true → ∃ oj, ops[j]? = some oj ∧ ∃ e ∈ oj.after, Region.binds md e = true ∧ (e.on = i ∨ D e.on = true)) : ∀ (fuel : Nat) (listed : Array Bool) (s u : ASt),
  (∀ j, D j = true → listed.getD j true = false) →
  (∀ j oj, ops[j]? = some oj → j ≠ i → listed.getD j true = false → D j = false → oi.apart ops oj = true ∧ okC oi oj (cl i) (cl j) = true) →
  i ∈ Region.ready md ops listed → AStep E ops oi (cl i) s u → anyA E md ops cl K fuel (listed.setIfInBounds i true) u → anyA E md ops cl K (fuel + 1) listed s := by
 intro fuel
 induction fuel with
 | zero =>
  intro listed s u _ _ hr hy H;refine ⟨fun h => (by rw [h] at hr; cases hr), fun j hj => ?_⟩
  by_cases hji : j = i
  ·subst hji; unfold aOp; simp only [hi]; exact ⟨u, hy, H⟩
  ·have := ready_mono hj hji;rw [H.1] at this
   cases this
 | succ fuel ih =>
  intro listed s u hL hfree hr hy H;refine ⟨fun h => (by rw [h] at hr; cases hr), fun j hj => ?_⟩
  by_cases hji : j = i
  ·subst hji; unfold aOp; simp only [hi]; exact ⟨u, hy, H⟩
  ·have h1 := H.2 j (ready_mono hj hji);obtain ⟨hjun, oj, hoj, hall⟩ := mem_ready.1 hj
   have hnD : D j = false := by
    cases hd : D j with
    | false => rfl
    | true =>
     exfalso
     obtain ⟨oj', ho', e, he, hb, hon⟩ := hD j hd
     have : oj' = oj := by rw [hoj] at ho'; exact (Option.some.inj ho').symm
     subst this;have h2 := hall e he hb
     rcases hon with heq | hDe
     ·have h0 := (mem_ready.1 hr).1;rw [heq] at h2
      rcases Nat.lt_or_ge i listed.size with h' | h'
      ·simp [h'] at h0 h2; rw [h0] at h2; cases h2
      ·simp [Array.getElem?_eq_none h'] at h2
     ·have h0 := hL e.on hDe
      rcases Nat.lt_or_ge e.on listed.size with h' | h'
      ·simp [h'] at h0 h2; rw [h0] at h2; cases h2
      ·simp [Array.getElem?_eq_none h'] at h2
   unfold aOp at h1 ⊢;simp only [hoj] at h1 ⊢;obtain ⟨t, h2, h3⟩ := h1;obtain ⟨hap, hok⟩ := hfree j oj hoj hji hjun hnD;obtain ⟨s2, h4, h5⟩ := AStep.swap hap hok hy h2;refine ⟨s2, h4, ih (listed.setIfInBounds j true) s2 t (fun k hk => ?_) (fun k ok hk hki hun hno => ?_) (ready_mono hr (Ne.symm hji)) h5 ?_⟩
   ·by_cases hjk : j = k
    ·subst hjk; rw [hk] at hnD; cases hnD
    ·rw [getD_set_ne true hjk]; exact hL k hk
   ·refine hfree k ok hk hki ?_ hno
    by_cases hjk : j = k
    ·subst hjk; exact hjun
    ·rw [getD_set_ne true hjk] at hun; exact hun
   ·rw [Array.setIfInBounds_comm _ _ hji];exact h3
def descs (md : Region.Mode) (ops : Array Oper) (i : Nat) : List Nat :=
 (List.range ops.size).foldl (fun acc j => match ops[j]? with
  | some oj => bif oj.after.any (fun e => Region.binds md e && (e.on == i || acc.contains e.on)) then j :: acc else acc
  | none => acc) []
def freeC2 (md : Region.Mode) (ops : Array Oper) (cl : Nat → Cls) (listed : Array Bool) (i : Nat) (L : List Nat) : Bool :=
 match ops[i]? with
 | none => false
 | some oi => ((List.range ops.size).all fun j => j == i || listed.getD j true || L.contains j || match ops[j]? with
   | some oj => oi.apart ops oj && okC oi oj (cl i) (cl j)
   | none => true) && L.all fun j => !listed.getD j true && match ops[j]? with
   | some oj => oj.after.any (fun e => Region.binds md e && (e.on == i || L.contains e.on))
   | none => false
def lexC2 (md : Region.Mode) (ops : Array Oper) (cl : Nat → Cls) : Nat → Nat → Array Bool → Bool
 | 0, _, listed => (Region.ready md ops listed).isEmpty
 | fuel + 1, k, listed => (Region.ready md ops listed).contains k && freeC2 md ops cl listed k (descs md ops k) && lexC2 md ops cl fuel (k + 1) (listed.setIfInBounds k true)
theorem anyA_lex2 {K : ASt → Prop} : ∀ (l : List Oper) (cs : List Cls) (k : Nat) (listed : Array Bool) (s : ASt), (∀ j, l[j]? = ops[k + j]?) → (∀ j c, cs[j]? = some c → cl (k + j) = c) →
  lexC2 md ops cl l.length k listed = true → AOps E ops l cs s K → anyA E md ops cl K l.length listed s
 | [], [], _, _, _, _, _, hB, h => ⟨by simpa [lexC2] using hB, h⟩
 | o :: l, c :: cs, k, listed, s, hl, hc, hB, h => by
  have h0 : ops[k]? = some o := by simpa using (hl 0).symm
  have hc0 : cl k = c := by simpa using hc 0 c (by simp)
  simp only [List.length_cons, lexC2, Bool.and_eq_true] at hB;obtain ⟨⟨hr, hf⟩, hB'⟩ := hB;obtain ⟨s', h1, h2⟩ := h;subst hc0;simp only [freeC2, h0, Bool.and_eq_true, List.all_eq_true, List.mem_range] at hf;obtain ⟨hf1, hf2⟩ := hf;refine anyA_first2 h0 (fun j => (descs md ops k).contains j) (fun j hj => ?_) l.length listed s s' (fun j hj => ?_) (fun j oj hoj hne hun hnD => ?_) (by simpa using hr) h1
   (anyA_lex2 l cs (k + 1) _ _ (fun j => by have := hl (j + 1); simpa [Nat.add_assoc, Nat.add_comm 1 j] using this)
    (fun j c hj => by have := hc (j + 1) c (by simpa using hj); simpa [Nat.add_assoc, Nat.add_comm 1 j] using this) hB' h2)
  ·have h3 := (hf2 j (List.contains_iff_mem.1 hj)).2
   cases ho : ops[j]? with
   | none => rw [ho] at h3; cases h3
   | some oj =>
    rw [ho] at h3;obtain ⟨e, he, hb⟩ := Array.any_eq_true'.1 h3;simp only [Bool.and_eq_true, Bool.or_eq_true, beq_iff_eq] at hb;exact ⟨oj, rfl, e, he, hb.1, hb.2⟩
  ·have h3 := (hf2 j (List.contains_iff_mem.1 hj)).1
   simpa using h3
  ·have h3 := hf1 j (Array.getElem?_eq_some_iff.1 hoj).1;simp only [Bool.or_eq_true, beq_iff_eq] at h3
   rcases h3 with ((h3 | h3) | h3) | h3
   ·exact absurd h3 hne
   ·rw [hun] at h3; cases h3
   ·rw [h3] at hnD; cases hnD
   ·rw [hoj] at h3
    simpa using h3
 | [], _ :: _, _, _, _, _, _, _, h => h.elim
 | _ :: _, [], _, _, _, _, _, _, h => h.elim
def lexOk2 (ops : Array Oper) (cs : List Cls) : Bool := lexC2 .any ops (fun i => cs.getD i .k) ops.size 0 (Array.replicate ops.size false)
theorem aw_draw2 {id : Nat} {ops : Array Oper} {Q : Exit → ASt → Prop} {s : ASt} (cs : List Cls) (hB : lexOk2 ops cs = true) (h : AOps E ops ops.toList cs s (Q .normal)) : AWp E w0 M0 (.region id ops true) Q s := by
 intro a w ha;refine wpIn_region_any E.orders ?_;have h1 := anyA_lex2 (md := .any) (cl := fun i => cs.getD i .k) ops.toList cs 0 (Array.replicate ops.size false) s (by simp) (fun j c hj => by simp [hj]) (by simpa [lexOk2] using hB) h;have h2 := anyA.sound (w0 := w0) (M0 := M0) (Q := Q) _ _ s h1 a _ ha.draw
 simpa using h2
end
theorem condS {α : Type} {c c' : Bool} {a b r : α} (h : (bif c then a else b) = r) (h1 : c' = true) (e : c' = c := by simp) : a = r := by subst e; rw [h1] at h; exact h
section
variable {E : Env}
theorem eff_ixAO {o : Oper} {ev : Operand → TV} {t el : TypeId} {x ix : Operand} {k N id p : Nat} {b : Bool} {kk : IntKind} {n : Int} (ho : o.op = .indexAddr t x ix) (ht : E.P.underlying t = some (.array N el)) (he : tyK E.P el = some (k + 1, b))
  (hx : ev x = .ptr id p) (hi : ev ix = .g (.lit (.int kk n))) (h0 : 0 ≤ n) (hn : n < (N : Int)) (mem : Mem) : Eff E o mem ev (.ptr id (p + n.toNat * (k + 1))) :=
 eff_same (fun w M ρ e hev => by
  have h1 := hev x (by rw [ho]; simp [Op.operands]);rw [hx] at h1;have h2 := hev ix (by rw [ho]; simp [Op.operands]);rw [hi] at h2;have h2' : e ix = .int kk n := h2;obtain ⟨ow, h3, h4⟩ := h1;refine ⟨.pointer (some ⟨ow.b, ow.o + p + n.toNat * (k + 1), none⟩), ?_, ow, h3, by rw [Nat.add_assoc]⟩
  simp [execOp, ho, h4, h2', Instr.indexAt, asIntOf, underlying, ht, Instr.sureAddr, run_sizeOf he, h0, hn, Addr.add_lit]) mem
theorem eff_buildA {o : Oper} {ev : Operand → TV} {t el : TypeId} {N k : Nat} {b : Bool} {ps : Array (Nat × Operand)} {qs : List (Nat × List G)} {zs : List Value} {out : List G} (ho : o.op = .build t ps)
  (hz : zeroK E.P t = some zs) (hz1 : zs.all Value.oneCell' = true) (ht : E.P.underlying t = some (.array N el)) (hel : tyK E.P el = some (k, b)) (hq : PartsG ev ps.toList qs) (hf : fillG (fun i => some (i * k, k)) (zs.map G.lit) qs = some out) (mem : Mem) : Eff E o mem ev (.g (.agg out)) :=
 eff_same (fun w M ρ e he => by
  obtain ⟨ie, hie, hsz⟩ : ∃ ie, E.P.info? el = some ie ∧ ie.size = k := by
   unfold tyK at hel
   cases h : E.P.info? el with
   | none => simp [h] at hel
   | some ie =>
    cases hd : E.P.underlying el with
    | none => simp [h, hd] at hel
    | some d => simp [h, hd] at hel; exact ⟨ie, rfl, hel.1⟩
  unfold zeroK at hz
  cases hi : E.P.info? t with
  | none => simp [hi] at hz
  | some it =>
   cases hzz : it.zero with
   | none => simp [hi, hzz] at hz
   | some z =>
    simp [hi, hzz] at hz
    have hlits : Fits w M (zs.map G.lit) z.cells.toList := by rw [hz]; exact fits_lits (by simpa using hz1)
    have hx : ∀ p ∈ ps.toList, TRel w M ρ (ev p.2) (e p.2) := fun p hp => he p.2 (by rw [ho]; simp [Op.operands]; exact ⟨p.1, by simpa using hp⟩);obtain ⟨vout, h1, h2⟩ := fill_fits (vcells := z.cells) hq hx hlits hf;refine ⟨.agg vout, ?_, vout.toList, by simp, h2⟩
    have hb : E.P.built t (ps.map fun (i, x) => (i, e x)).toList = some vout := by
     unfold Program.built;simp only [hi, ht, hzz, hie, hsz];rw [Array.toList_map];exact h1
    have := run_build (P := E.P) w t (ps.map fun (i, x) => (i, e x)) vout hb;simp only [execOp, ho];rw [Sem.run_bind, this]
    rfl) mem
end
section
variable {E : Env} {o : Oper} {ev : Operand → TV}
def ascope (Q : Exit → ASt → Prop) : Exit → ASt → Prop
 | .goto _, _ => False
 | e, s => Q e s
theorem env_wp {E : Env} {c : Code} {Q : Exit → Act → World → Prop} {a : Act} {w : World} (h : c.wp E.P Q a w) (hr : E.rnd = none) : c.wpIn E.F 0 E.P Q a w := by
 obtain ⟨P, gl, ord, bow, rnd, mk⟩ := E
 cases hr
 exact wpIn_wide.2 h
theorem aw_scope {w0 : World} {M0 : Nat → Prop} {c : Code} {Q : Exit → ASt → Prop} {s : ASt} (h : AWp E w0 M0 c (ascope Q) s) (hr : E.rnd = none := by rfl) : AWp E w0 M0 (.scope c) Q s :=
 fun a w ha => env_wp (hr := hr) <| wp_scope_straight (wp_mono (wp_env (h a w ha) hr) fun e a' w' ⟨s', h1, h2⟩ => by
  cases e <;> first | exact h2.elim | exact ⟨s', h1, h2⟩)
end
section
variable {E : Env} {w0 : World} {M0 : Nat → Prop}
theorem MFits.get {w : World} {M : Nat → Prop} : ∀ {es : List (Value × G)} {l : List MapEntry} {j : Nat} {e : MapEntry}, MFits w M es l → l[j]? = some e → ∃ k g, es[j]? = some (k, g) ∧ e.key = k ∧ g.p w M e.val
 | [], [], _, _, _, h => by simp at h
 | (k, g) :: _, e' :: _, 0, e, h, he => by
  simp at he; subst he
  exact ⟨k, g, rfl, h.1.1, h.1.2⟩
 | _ :: _, _ :: _, j + 1, e, h, he => by
  obtain ⟨k, g, h1, h2⟩ := MFits.get h.2 (by simpa using he);exact ⟨k, g, by simpa using h1, h2⟩
 | [], _ :: _, _, _, h, _ => h.elim
 | _ :: _, [], _, _, h, _ => h.elim
theorem MFits.length {w : World} {M : Nat → Prop} : ∀ {es : List (Value × G)} {l : List MapEntry}, MFits w M es l → l.length = es.length
 | [], [], _ => rfl
 | (_, _) :: _, _ :: _, h => by simp [MFits.length h.2]
 | [], _ :: _, h => h.elim
 | _ :: _, [], h => h.elim
theorem eff_slD {α : Type} {f : α → List G} {l : List α} {o : Oper} {ev : Operand → TV} {t el : TypeId} {x : Operand} {lo : Option Operand} {k a : Nat} {b : Bool} (ho : o.op = .slice t x lo none none) (ht : E.P.underlying t = some (.slice el)) (hk : tyK E.P el = some (k, b)) (hx : ev x = .g (.sl k (l.map f)))
  (hlo : BndV ev lo a 0) (hac : a ≤ l.length) (mem : Mem) : Eff E o mem ev (.g (.sl k ((l.drop a).map f))) := by
 have := eff_slG (f := f) (l := l) ho ht hk hx hlo bnd_none hac (Nat.le_refl _) mem
 rwa [List.take_length] at this
theorem rv_map {s : ASt} {t id : Nat} {es : List (Value × G)} (h : s.get t = .omap id) (hb : lookO s.mem id = some (.mp es)) (hbw : lookO E.bow id = none := by rfl) (hst : strictB E = true := by rfl) : RVal E s (.tmp t) (G.mpf es) := by
 intro w0 M0 ρ w tmps hm ht;have h1 := ht t;rw [h] at h1;obtain ⟨ow, en, cl, g1, g2, g3, g4, g5⟩ := look_mp hm hb h1;have hsub := msub_res (M0 := M0) hm (tv := .g (G.bool true)) rfl;exact ⟨tmps.getD t undef, rfl, ⟨ow.b, en, cl, g2, not_lent hm g1 hbw hst, g3, g4.mono (fun _ _ _ => rfl) (fun b _ => hsub.sub b), g5⟩, fun _ _ => rfl⟩
end
section
variable {α : Type}
def MOrd (m : List α) (sn : List Nat) (l : List α) : Prop := sn.Nodup ∧ l.map some = sn.reverse.map (fun j => m[j]?)
theorem MOrd.lt {m : List α} {sn : List Nat} {l : List α} (h : MOrd m sn l) {j : Nat} (hj : j ∈ sn) : j < m.length := by
 have h1 : m[j]? ∈ sn.reverse.map (fun j => m[j]?) := List.mem_map.2 ⟨j, List.mem_reverse.2 hj, rfl⟩;rw [← h.2] at h1;obtain ⟨x, _, hx⟩ := List.mem_map.1 h1;exact (List.getElem?_eq_some_iff.1 hx.symm).1
theorem nodup_sub_len {α : Type} [DecidableEq α] : ∀ {a b : List α}, a.Nodup → (∀ x ∈ a, x ∈ b) → a.length ≤ b.length
 | [], _, _, _ => Nat.zero_le _
 | x :: a, b, hn, hs => by
  obtain ⟨h1, h2⟩ := List.nodup_cons.1 hn;have hx := hs x List.mem_cons_self;have := nodup_sub_len (b := b.erase x) h2 fun y hy => (List.mem_erase_of_ne (fun e => h1 (by rw [← e]; exact hy))).2 (hs y (List.mem_cons_of_mem _ hy));rw [List.length_erase_of_mem hx] at this;have : 0 < b.length := List.length_pos_of_mem hx
  simp; omega
theorem MOrd.len {m : List α} {sn : List Nat} {l : List α} (h : MOrd m sn l) : l.length ≤ m.length := by
 have h1 : l.length = sn.length := by have := congrArg List.length h.2; simpa using this
 have := nodup_sub_len h.1 (b := List.range m.length) fun x hx => List.mem_range.2 (h.lt hx)
 simp at this
 omega
end
section
variable {E : Env} {w0 : World} {M0 : Nat → Prop}
variable {K V : Type} [DecidableEq K] {kf : K → Value} {vf : V → G} {d : TypeDesc} [MKey kf d] {o : Oper} {mem : Mem} {ev : Operand → TV} {t kt et : TypeId} {x ix : Operand} {m : List (K × V)} {k : K} {z : V}
theorem run_lookupF {w : World} {M : Nat → Prop} (ht : E.P.underlying t = some (.map kt et)) (hk : E.P.underlying kt = some d) {zv : Value} (hz : (E.P.info? et).bind (·.zero) = some zv) (hz0 : ∀ w M, (vf z).p w M zv)
  {v : Value} (hv : (G.mpf (m.map fun p => (kf p.1, vf p.2))).p w M v) (ok : Bool) : ∃ u, (vf (mgetD m k z)).p w M u ∧ (Instr.lookup t v (kf k) ok).run E.P w = .ok (if ok then .tuple #[u, .bool (mhas m k)] else u) w := by
 obtain ⟨b, en, cl, rfl, _, h2, h3, _⟩ := hv
 have hzr : (zeroValue et).run E.P w = .ok zv w := by
  cases hi : E.P.info? et with
  | none => rw [hi] at hz; cases hz
  | some i =>
   rw [hi] at hz;have hz : i.zero = some zv := hz
   simp [zeroValue, typeInfo, hi, hz]
 have hck := MapKept.run_checkKey (w := w) hk (MKey.isKey (kf := kf) k) en.isEmpty 9999
 rcases mfind (kf := kf) (vf := vf) (k := k) 0 h3 with ⟨g1, g2, _⟩ | ⟨j, e, b, g1, g2, g3, g4, g5, _⟩
 ·refine ⟨zv, by simp only [mgetD, g1]; exact hz0 _ _, ?_⟩
  simp [Instr.lookup, run_underlying ht, MapKept.run_getObj_map h2, hck, MapKept.run_findKey hk g2, hzr, mhas, g1]
 ·refine ⟨e.val, by simp only [mgetD, g1]; exact g5, ?_⟩
  simp [Instr.lookup, run_underlying ht, MapKept.run_getObj_map h2, hck, MapKept.run_findKey hk g2, mhas, g1]
theorem eff_lookupF {zv : Value} (ho : o.op = .lookup t x ix false) (ht : E.P.underlying t = some (.map kt et)) (hk : E.P.underlying kt = some d) (hz : (E.P.info? et).bind (·.zero) = some zv) (hz0 : ∀ w M, (vf z).p w M zv)
  (hx : ev x = .g (G.mpf (m.map fun p => (kf p.1, vf p.2)))) (hi : ev ix = .g (.lit (kf k))) (mem : Mem) : Eff E o mem ev (.g (vf (mgetD m k z))) := by
 intro w0 M0 ρ w e hm he;have h1 := he x (by rw [ho]; simp [Op.operands]);rw [hx] at h1;have h2 := he ix (by rw [ho]; simp [Op.operands]);rw [hi] at h2;have h2' : e ix = kf k := h2;obtain ⟨u, g1, g2⟩ := run_lookupF (E := E) (z := z) (k := k) ht hk hz hz0 h1 false
 have : (execOp e o).run E.P w = .ok (.value u) w := by simp only [execOp, ho, h2', Sem.run_bind, g2, Result.andThen_ok, Sem.run_pure]; rfl
 rw [this];exact ⟨Grow.refl w, g1⟩
end
end Go.Sim
set_option maxRecDepth 10000
namespace Go.Sim
open Go.Proofs
def s6088_l1  : List (Int × Int) → Int → Int × Bool
 | [], x1 => (x1, true)
 | y3 :: t4, x1 => (bif (decide (y3.2 < 48)) || (decide (57 < y3.2)) then (0, false) else s6088_l1 t4 (IntKind.i64.wrap ((IntKind.i64.wrap (10 * x1)) + (IntKind.i64.wrap (IntKind.i32.wrap (y3.2 - 48))))))
def s6088 (a0 : ByteArray) (a1 : Int) : Int × Bool :=
 (bif decide ((ByteArray.size a0 : Int) ≠ a1) then (0, false) else s6088_l1 (runes a0) 0)
theorem c6088 {g : GL} (a0 : ByteArray) (a1 : Int)    : Con (EG g) 88 [G.str a0, G.int a1] (G.tup [G.int ((s6088 a0 a1).1), G.bool ((s6088 a0 a1).2)]) := by
 generalize hR : s6088 a0 a1 = R;unfold s6088 at hR;refine con_of_aw Tryz.func88 rfl rfl fun w0 M0 => ?_;refine aw_seq ?_;refine aw_region [.p, .p] ?_;refine sa rfl rfl ?_;refine sa rfl rfl ?_;refine st_nil ?_;refine aw_seq ?_;refine aw_seq ?_;refine aw_region [.p, .p, .p, .p] ?_;refine sm rfl rfl ?_;refine su (eff_lenS rfl Tryz.underlying9 rfl) rfl ?_;refine sm rfl rfl ?_;refine su (eff_neq rfl rfl rfl) rfl ?_;refine st_nil ?_;refine aw_cond _ rfl (fun h1 => ?_) (fun h1 => ?_)
 ·replace h1 : (decide ((ByteArray.size a0 : Int) ≠ a1)) = true := h1;replace hR := condT hR h1;(try simp only [bB] at h1);refine aw_seq ?_;refine aw_region [.p, .p] ?_;refine sa rfl rfl ?_;refine sa rfl rfl ?_;refine st_nil ?_;refine aw_ret ?_;subst hR;exact resN rfl ⟨rv_g rfl, rv_g rfl, trivial⟩ (by simp)
 ·replace h1 : (decide ((ByteArray.size a0 : Int) ≠ a1)) = false := h1;replace hR := condF hR h1;(try simp only [bB] at h1);refine aw_skip ?_;refine aw_seq ?_;refine aw_region [.p] ?_;refine sa rfl rfl ?_;refine st_nil ?_;refine aw_seq ?_;refine aw_seq ?_;refine aw_region [.p, .w] ?_;refine sm rfl rfl ?_;refine sw (eff_rangeS 14 rfl Tryz.underlying9 rfl rfl) rfl ?_;refine st_nil ?_;refine aw_block ?_;refine aw_loop_g (γ := Nat × (List (Int × Int)) × Int) (fun g => ([(6, .g (G.int g.2.2)), (14, .ptr 14 0)], [(14, .it a0 g.1)])) (fun g => RunesAt a0 g.1 g.2.1 ∧ s6088_l1 g.2.1 g.2.2 = R) (fun g => List.length g.2.1) ⟨rfl, (0, runes a0, 0), ⟨rfl, rfl, trivial⟩, ⟨rfl, trivial⟩, rfl, ⟨runesAt_start _, hR⟩, trivial⟩ ?_
  ·rintro ⟨p2, t4, x1⟩ ⟨hP, hR⟩;replace hP : RunesAt a0 p2 t4 := hP;replace hR : s6088_l1 t4 x1 = R := hR
   cases t4 with
   | nil =>
    rw [s6088_l1] at hR;refine aw_seq ?_;refine aw_region [.r, .p] ?_;refine sr (eff_nextE rfl rfl rfl (runesAt_nil hP)) rfl ?_;refine su (eff_extract rfl rfl rfl) rfl ?_;refine st_nil ?_;refine aw_seq ?_;refine aw_cond _ rfl (fun h2 => ?_) (fun h2 => ?_)
    ·exact Bool.noConfusion h2
    ·refine aw_exit ?_;refine aw_seq ?_;refine aw_region [.p, .p, .p] ?_;refine sm rfl rfl ?_;refine sa rfl rfl ?_;refine sa rfl rfl ?_;refine st_nil ?_;refine aw_ret ?_;subst hR;exact resN rfl ⟨rv_g rfl, rv_g rfl, trivial⟩ (by simp)
   | cons y3 t4 =>
    obtain ⟨hlt, hy, hP⟩ := runesAt_cons hP;rw [s6088_l1] at hR;refine aw_seq ?_;refine aw_region [.w, .p] ?_;refine sw (eff_nextY (y := y3) rfl rfl rfl hlt hy) rfl ?_;refine su (eff_extract rfl rfl rfl) rfl ?_;refine st_nil ?_;refine aw_seq ?_;refine aw_cond _ rfl (fun h3 => ?_) (fun h3 => ?_)
    ·refine aw_skip ?_;refine aw_block ?_;refine aw_seq ?_;refine aw_region [.p, .p] ?_;refine su (eff_extract rfl rfl rfl) rfl ?_;refine sa rfl rfl ?_;refine st_nil ?_;refine aw_seq ?_;refine aw_seq ?_;refine aw_region [.p, .p, .p, .p, .p, .p] ?_;refine sm rfl rfl ?_;refine su (eff_lss rfl rfl rfl) rfl ?_;refine sm rfl rfl ?_;refine sg rfl rfl (fun h => eff_moveg rfl rfl) rfl ?_;refine sg rfl rfl (fun h => eff_gtr rfl (gd h rfl) rfl) rfl ?_;refine su (eff_or rfl rfl rfl rfl) rfl ?_;refine st_nil ?_;refine aw_cond _ rfl (fun h4 => ?_) (fun h4 => ?_)
     ·replace h4 : ((decide (y3.2 < 48)) || (decide (57 < y3.2))) = true := h4;replace hR := condT hR h4;(try simp only [bB] at h4);refine aw_seq ?_;refine aw_region [.p, .p] ?_;refine sa rfl rfl ?_;refine sa rfl rfl ?_;refine st_nil ?_;refine aw_ret ?_;subst hR;exact resN rfl ⟨rv_g rfl, rv_g rfl, trivial⟩ (by simp)
     ·replace h4 : ((decide (y3.2 < 48)) || (decide (57 < y3.2))) = false := h4;replace hR := condF hR h4;(try simp only [bB] at h4);refine aw_skip ?_;refine aw_region [.p, .p, .p, .p, .p, .p, .p] ?_;refine sm rfl rfl ?_;refine su (eff_mulw rfl rfl rfl) rfl ?_;refine sm rfl rfl ?_;refine su (eff_subw rfl rfl rfl) rfl ?_;refine su (eff_conv rfl Tryz.underlying21 Tryz.underlying3 rfl) rfl ?_;refine su (eff_addw rfl rfl rfl) rfl ?_;refine sa rfl rfl ?_;refine st_nil ?_;exact ⟨rfl, ((p2 + (Utf8.decode a0 p2).2), t4, IntKind.i64.wrap ((IntKind.i64.wrap (10 * x1)) + (IntKind.i64.wrap (IntKind.i32.wrap (y3.2 - 48))))), ⟨rfl, rfl, trivial⟩, ⟨rfl, trivial⟩, rfl, ⟨hP, hR⟩, by simp⟩
    ·exact Bool.noConfusion h3
def s6067 (a0 : ByteArray) : Int × Int :=
 (bif ((!((s6088 a0 4).2)) || (decide (23 < IntKind.i64.wrap (Int.tdiv ((s6088 a0 4).1) 100)))) || (decide (59 < Int.tmod ((s6088 a0 4).1) 100)) then (0, 25) else (IntKind.i64.wrap ((IntKind.i64.wrap ((IntKind.i64.wrap (Int.tdiv ((s6088 a0 4).1) 100)) * 60)) + (Int.tmod ((s6088 a0 4).1) 100)), 0))
theorem c6067 {g : GL} (a0 : ByteArray)    : Con (EG g) 67 [G.str a0] (G.tup [G.int ((s6067 a0).1), G.int ((s6067 a0).2)]) := by
 generalize hR : s6067 a0 = R;unfold s6067 at hR;refine con_of_aw Tryz.func67 rfl rfl fun w0 M0 => ?_;refine aw_seq ?_;refine aw_region [.p, .p] ?_;refine sa rfl rfl ?_;refine sa rfl rfl ?_;refine st_nil ?_;refine aw_seq ?_;refine aw_region [.p, .p, .p, .p, .p, .p, .p] ?_;refine sm rfl rfl ?_;refine su (eff_call rfl K6088 rfl (c6088 a0 4) (ag_cons rfl (ag_cons rfl ag_nil))) rfl ?_;refine sm rfl rfl ?_;refine su (eff_extract rfl rfl rfl) rfl ?_;refine su (eff_extract rfl rfl rfl) rfl ?_;refine sa rfl rfl ?_;refine sa rfl rfl ?_;refine st_nil ?_;refine aw_seq ?_;refine aw_seq ?_;refine aw_region [.p, .p, .p, .p, .p, .p, .p, .p, .p, .p, .p, .p] ?_;refine sm rfl rfl ?_;refine su (eff_not rfl rfl) rfl ?_;refine sm rfl rfl ?_;refine sg rfl rfl (fun h => eff_moveg rfl rfl) rfl ?_;refine sg rfl rfl (fun h => eff_quow rfl (gd h rfl) rfl (by decide)) rfl ?_;refine sg rfl rfl (fun h => eff_gtr rfl (gd h rfl) rfl) rfl ?_;refine su (eff_or rfl rfl rfl rfl) rfl ?_;refine sm rfl rfl ?_;refine sg rfl rfl (fun h => eff_moveg rfl rfl) rfl ?_;refine sg rfl rfl (fun h => eff_remt rfl (gd h rfl) rfl (by decide)) rfl ?_;refine sg rfl rfl (fun h => eff_gtr rfl (gd h rfl) rfl) rfl ?_;refine su (eff_or rfl rfl rfl rfl) rfl ?_;refine st_nil ?_;refine aw_cond _ rfl (fun h1 => ?_) (fun h1 => ?_)
 ·replace h1 : (((!((s6088 a0 4).2)) || (decide (23 < IntKind.i64.wrap (Int.tdiv ((s6088 a0 4).1) 100)))) || (decide (59 < Int.tmod ((s6088 a0 4).1) 100))) = true := h1;replace hR := condT hR h1;(try simp only [bB] at h1);refine aw_seq ?_;refine aw_region [.p, .p] ?_;refine sa rfl rfl ?_;refine sa rfl rfl ?_;refine st_nil ?_;refine aw_ret ?_;subst hR;exact resN rfl ⟨rv_g rfl, rv_g rfl, trivial⟩ (by simp)
 ·replace h1 : (((!((s6088 a0 4).2)) || (decide (23 < IntKind.i64.wrap (Int.tdiv ((s6088 a0 4).1) 100)))) || (decide (59 < Int.tmod ((s6088 a0 4).1) 100))) = false := h1;replace hR := condF hR h1;(try simp only [bB] at h1);refine aw_skip ?_;refine aw_seq ?_;refine aw_region [.p, .p, .p, .p, .p, .p, .p, .p] ?_;refine sm rfl rfl ?_;refine su (eff_quow rfl rfl rfl (by decide)) rfl ?_;refine su (eff_mulw rfl rfl rfl) rfl ?_;refine sm rfl rfl ?_;refine su (eff_remt rfl rfl rfl (by decide)) rfl ?_;refine su (eff_addw rfl rfl rfl) rfl ?_;refine sa rfl rfl ?_;refine sa rfl rfl ?_;refine st_nil ?_;refine aw_ret ?_;subst hR;exact resN rfl ⟨rv_g rfl, rv_g rfl, trivial⟩ (by simp)
def s6091  : List (ByteArray × ByteArray) :=
 mset (mset (mset (mset (mset (mset (mset (mset (mset [] (⟨#[78]⟩) (⟨#[82, 69, 81]⟩)) (⟨#[72]⟩) (⟨#[82, 69, 81]⟩)) (⟨#[67]⟩) (⟨#[82, 69, 81]⟩)) (⟨#[82]⟩) (⟨#[82, 69, 81]⟩)) (⟨#[68]⟩) (⟨#[82, 69, 81]⟩)) (⟨#[75]⟩) (⟨#[65, 78, 83]⟩)) (⟨#[79]⟩) (⟨#[65, 78, 83]⟩)) (⟨#[85]⟩) (⟨#[65, 78, 83]⟩)) (⟨#[88]⟩) (⟨#[65, 78, 83]⟩)
theorem c6091 {g : GL}     : Con (EG g) 91 [] (G.mpf (List.map (fun p => ((Value.string) p.1, ((fun v => G.str v)) p.2)) s6091)) := by
 generalize hR : s6091  = R;unfold s6091 at hR;refine con_of_aw Tryz.func91 rfl rfl fun w0 M0 => ?_;refine aw_seq ?_;refine aw_region [.p] ?_;refine sa rfl rfl ?_;refine st_nil ?_;refine aw_seq ?_;refine aw_region [.w, .w, .w, .w, .w, .w, .w, .w, .w, .w, .p, .p] ?_;refine sw (eff_makeMap 1 rfl rfl) rfl ?_;refine st_wn rfl rfl (eff_update (kf := Value.string) (vf := (fun v => G.str v)) (m := []) (k := ⟨#[78]⟩) (v := ⟨#[82, 69, 81]⟩) (ins := true) rfl Tryz.underlying132 Tryz.underlying9 rfl rfl rfl rfl) ?_;refine st_wn rfl rfl (eff_update (kf := Value.string) (vf := (fun v => G.str v)) (m := mset [] (⟨#[78]⟩) (⟨#[82, 69, 81]⟩)) (k := ⟨#[72]⟩) (v := ⟨#[82, 69, 81]⟩) (ins := true) rfl Tryz.underlying132 Tryz.underlying9 rfl rfl rfl rfl) ?_;refine st_wn rfl rfl (eff_update (kf := Value.string) (vf := (fun v => G.str v)) (m := mset (mset [] (⟨#[78]⟩) (⟨#[82, 69, 81]⟩)) (⟨#[72]⟩) (⟨#[82, 69, 81]⟩)) (k := ⟨#[67]⟩) (v := ⟨#[82, 69, 81]⟩) (ins := true) rfl Tryz.underlying132 Tryz.underlying9 rfl rfl rfl rfl) ?_;refine st_wn rfl rfl (eff_update (kf := Value.string) (vf := (fun v => G.str v)) (m := mset (mset (mset [] (⟨#[78]⟩) (⟨#[82, 69, 81]⟩)) (⟨#[72]⟩) (⟨#[82, 69, 81]⟩)) (⟨#[67]⟩) (⟨#[82, 69, 81]⟩)) (k := ⟨#[82]⟩) (v := ⟨#[82, 69, 81]⟩) (ins := true) rfl Tryz.underlying132 Tryz.underlying9 rfl rfl rfl rfl) ?_;refine st_wn rfl rfl (eff_update (kf := Value.string) (vf := (fun v => G.str v)) (m := mset (mset (mset (mset [] (⟨#[78]⟩) (⟨#[82, 69, 81]⟩)) (⟨#[72]⟩) (⟨#[82, 69, 81]⟩)) (⟨#[67]⟩) (⟨#[82, 69, 81]⟩)) (⟨#[82]⟩) (⟨#[82, 69, 81]⟩)) (k := ⟨#[68]⟩) (v := ⟨#[82, 69, 81]⟩) (ins := true) rfl Tryz.underlying132 Tryz.underlying9 rfl rfl rfl rfl) ?_;refine st_wn rfl rfl (eff_update (kf := Value.string) (vf := (fun v => G.str v)) (m := mset (mset (mset (mset (mset [] (⟨#[78]⟩) (⟨#[82, 69, 81]⟩)) (⟨#[72]⟩) (⟨#[82, 69, 81]⟩)) (⟨#[67]⟩) (⟨#[82, 69, 81]⟩)) (⟨#[82]⟩) (⟨#[82, 69, 81]⟩)) (⟨#[68]⟩) (⟨#[82, 69, 81]⟩)) (k := ⟨#[75]⟩) (v := ⟨#[65, 78, 83]⟩) (ins := true) rfl Tryz.underlying132 Tryz.underlying9 rfl rfl rfl rfl) ?_;refine st_wn rfl rfl (eff_update (kf := Value.string) (vf := (fun v => G.str v)) (m := mset (mset (mset (mset (mset (mset [] (⟨#[78]⟩) (⟨#[82, 69, 81]⟩)) (⟨#[72]⟩) (⟨#[82, 69, 81]⟩)) (⟨#[67]⟩) (⟨#[82, 69, 81]⟩)) (⟨#[82]⟩) (⟨#[82, 69, 81]⟩)) (⟨#[68]⟩) (⟨#[82, 69, 81]⟩)) (⟨#[75]⟩) (⟨#[65, 78, 83]⟩)) (k := ⟨#[79]⟩) (v := ⟨#[65, 78, 83]⟩) (ins := true) rfl Tryz.underlying132 Tryz.underlying9 rfl rfl rfl rfl) ?_;refine st_wn rfl rfl (eff_update (kf := Value.string) (vf := (fun v => G.str v)) (m := mset (mset (mset (mset (mset (mset (mset [] (⟨#[78]⟩) (⟨#[82, 69, 81]⟩)) (⟨#[72]⟩) (⟨#[82, 69, 81]⟩)) (⟨#[67]⟩) (⟨#[82, 69, 81]⟩)) (⟨#[82]⟩) (⟨#[82, 69, 81]⟩)) (⟨#[68]⟩) (⟨#[82, 69, 81]⟩)) (⟨#[75]⟩) (⟨#[65, 78, 83]⟩)) (⟨#[79]⟩) (⟨#[65, 78, 83]⟩)) (k := ⟨#[85]⟩) (v := ⟨#[65, 78, 83]⟩) (ins := true) rfl Tryz.underlying132 Tryz.underlying9 rfl rfl rfl rfl) ?_;refine st_wn rfl rfl (eff_update (kf := Value.string) (vf := (fun v => G.str v)) (m := mset (mset (mset (mset (mset (mset (mset (mset [] (⟨#[78]⟩) (⟨#[82, 69, 81]⟩)) (⟨#[72]⟩) (⟨#[82, 69, 81]⟩)) (⟨#[67]⟩) (⟨#[82, 69, 81]⟩)) (⟨#[82]⟩) (⟨#[82, 69, 81]⟩)) (⟨#[68]⟩) (⟨#[82, 69, 81]⟩)) (⟨#[75]⟩) (⟨#[65, 78, 83]⟩)) (⟨#[79]⟩) (⟨#[65, 78, 83]⟩)) (⟨#[85]⟩) (⟨#[65, 78, 83]⟩)) (k := ⟨#[88]⟩) (v := ⟨#[65, 78, 83]⟩) (ins := true) rfl Tryz.underlying132 Tryz.underlying9 rfl rfl rfl rfl) ?_;refine su (eff_moveM rfl rfl) rfl ?_;refine su (eff_assignM rfl rfl) rfl ?_;refine st_nil ?_;refine aw_ret ?_;subst hR;exact res_c rfl (rv_map rfl rfl)
def s6046 (a0 : ByteArray) : Bool :=
 !decide ((mgetD s6091 a0 ByteArray.empty) = (⟨#[]⟩))
theorem c6046 {g : GL} (a0 : ByteArray)    : Con (EG g) 46 [G.str a0] (G.bool (s6046 a0)) := by
 generalize hR : s6046 a0 = R;unfold s6046 at hR;refine con_of_aw Tryz.func46 rfl rfl fun w0 M0 => ?_;refine aw_seq ?_;refine aw_region [.p] ?_;refine sa rfl rfl ?_;refine st_nil ?_;refine aw_seq ?_;refine aw_region [.p, .p, .p, .p, .p] ?_;refine su (eff_call rfl K6091 rfl (c6091 ) ag_nil) rfl ?_;refine sm rfl rfl ?_;refine su (eff_lookupF (kf := Value.string) (vf := (fun v => G.str v)) (m := s6091) (k := a0) (z := ByteArray.empty) rfl Tryz.underlying132 Tryz.underlying9 zr9 (fun _ _ => rfl) rfl rfl) rfl ?_;refine su (eff_sne rfl rfl rfl) rfl ?_;refine sa rfl rfl ?_;refine st_nil ?_;refine aw_ret ?_;subst hR;exact res_c rfl (rv_g rfl)
def s6028 (a0 : S6034) : Int :=
 (s4082 [(s4085 (!(s6046 a0.Action)) 13), (s4056 (S115.mk a0.Request.Name a0.Request.Carrier a0.Request.Kind a0.Request.Terminal a0.Request.Partner a0.Request.Link (S45.mk a0.Request.Period.fFrom a0.Request.Period.fTo a0.Request.Period.Days) a0.Request.Minute a0.Request.Seats a0.Request.Size a0.Request.Noise))])
theorem c6028 {g : GL} (a0 : S6034)    : Con (EG g) 28 [G.agg [G.str a0.Action, G.str a0.Request.Name, G.str a0.Request.Carrier, G.str a0.Request.Kind, G.str a0.Request.Terminal, G.str a0.Request.Partner, G.str a0.Request.Link, G.int a0.Request.Period.fFrom, G.int a0.Request.Period.fTo, G.int a0.Request.Period.Days, G.int a0.Request.Minute, G.int a0.Request.Seats, G.int a0.Request.Size, G.int a0.Request.Noise]] (G.int (s6028 a0)) := by
 generalize hR : s6028 a0 = R;unfold s6028 at hR;refine con_of_aw Tryz.func28 rfl rfl fun w0 M0 => ?_;refine aw_seq ?_;refine aw_region [.p, .p] ?_;refine su (eff_box rfl rfl) rfl ?_;refine sa rfl rfl ?_;refine st_nil ?_;refine aw_seq ?_;refine aw_draw [.p, .p, .p, .p, .p, .p, .p, .p, .p, .p, .p] (by kernel_rfl) ?_;refine su (eff_fieldAddr rfl fl6035_0 rfl) rfl ?_;refine su (eff_load rfl ty9 rfl) rfl ?_;refine su (eff_call rfl K6046 rfl (c6046 a0.Action) (ag_cons rfl ag_nil)) rfl ?_;refine su (eff_not rfl rfl) rfl ?_;refine su (eff_call rfl K4085 rfl (c4085 (!(s6046 a0.Action)) 13) (ag_cons rfl (ag_cons rfl ag_nil))) rfl ?_;refine su (eff_fieldAddr rfl fl6035_1 rfl) rfl ?_;refine su (eff_loadA rfl ty116 rfl rfl rfl) rfl ?_;refine su (eff_call rfl K4056 rfl (c4056 (S115.mk a0.Request.Name a0.Request.Carrier a0.Request.Kind a0.Request.Terminal a0.Request.Partner a0.Request.Link (S45.mk a0.Request.Period.fFrom a0.Request.Period.fTo a0.Request.Period.Days) a0.Request.Minute a0.Request.Seats a0.Request.Size a0.Request.Noise)) (ag_cons rfl ag_nil)) rfl ?_;refine su (eff_buildSlice rfl Tryz.underlying93 ty37 z37 rfl (ps_cons rfl (ps_cons rfl ps_nil)) rfl (by simp []) (by decide)) rfl ?_;refine su (eff_call rfl K4082 rfl (c4082 [(s4085 (!(s6046 a0.Action)) 13), (s4056 (S115.mk a0.Request.Name a0.Request.Carrier a0.Request.Kind a0.Request.Terminal a0.Request.Partner a0.Request.Link (S45.mk a0.Request.Period.fFrom a0.Request.Period.fTo a0.Request.Period.Days) a0.Request.Minute a0.Request.Seats a0.Request.Size a0.Request.Noise))]) (ag_cons rfl ag_nil)) rfl ?_;refine sa rfl rfl ?_;refine st_nil ?_;refine aw_ret ?_;subst hR;exact res_c rfl (rv_g rfl)
def s83_l1 (a1 : List Int) : List Int → Nat → Option Bool
 | [], k2 => some true
 | y3 :: t4, k2 => bindO (ixO a1 ((k2 : Nat) : Int)) fun y5 => (bif decide (y3 ≠ y5) then some false else s83_l1 a1 t4 (k2 + 1))
def s83 (a0 : List Int) (a1 : List Int) : Option Bool :=
 (bif decide ((List.length a0 : Int) ≠ (List.length a1 : Int)) then some false else s83_l1 a1 a0 0)
theorem c83 {g : GL} (a0 : List Int) (a1 : List Int) {R : Bool}   (hR : s83 a0 a1 = some R) : Con (EG g) 19 [G.sl 1 (List.map cInt a0), G.sl 1 (List.map cInt a1)] (G.bool R) := by
 unfold s83 at hR;refine con_of_aw Tryz.func19 rfl rfl fun w0 M0 => ?_;refine len_sl (f := cInt) (l := a0) 0 rfl fun hla0 => ?_;refine len_sl (f := cInt) (l := a1) 1 rfl fun hla1 => ?_;refine aw_seq ?_;refine aw_region [.p] ?_;refine sa rfl rfl ?_;refine st_nil ?_;refine aw_seq ?_;refine aw_seq ?_;refine aw_region [.p, .p, .p, .p, .p] ?_;refine sm rfl rfl ?_;refine su (eff_lenM (f := cInt) (l := a0) rfl Tryz.underlying38 rfl) rfl ?_;refine sm rfl rfl ?_;refine su (eff_lenM (f := cInt) (l := a1) rfl Tryz.underlying38 rfl) rfl ?_;refine su (eff_neq rfl rfl rfl) rfl ?_;refine st_nil ?_;refine aw_cond _ rfl (fun h1 => ?_) (fun h1 => ?_)
 ·replace hR := condT hR h1;refine aw_seq ?_;refine aw_region [.p] ?_;refine sa rfl rfl ?_;refine st_nil ?_;refine aw_ret ?_;obtain rfl := Option.some.inj hR;exact res_c rfl (rv_g rfl)
 ·replace h1 : (decide ((List.length a0 : Int) ≠ (List.length a1 : Int))) = false := h1;replace hR := condF hR h1;(try simp only [bB] at h1);refine aw_skip ?_;refine aw_seq ?_;refine aw_seq ?_;refine aw_region [.p] ?_;refine sa rfl rfl ?_;refine st_nil ?_;refine aw_block ?_;refine aw_loop_g (γ := Nat × (List Int)) (fun g => ([(0, .g (G.sl 1 (List.map cInt a0))), (1, .g (G.sl 1 (List.map cInt a1))), (5, .g (G.int ((g.1 : Nat) : Int)))], [])) (fun g => a0.drop g.1 = g.2 ∧ s83_l1 a1 g.2 g.1 = some R) (fun g => List.length g.2) ⟨rfl, (0, a0), ⟨rfl, rfl, rfl, trivial⟩, trivial, rfl, ⟨rfl, (by exact hR)⟩, trivial⟩ ?_
  ·rintro ⟨k2, t4⟩ ⟨hd, hR⟩;replace hd : a0.drop k2 = t4 := hd;replace hR : s83_l1 a1 t4 k2 = some R := hR;refine aw_seq ?_;refine aw_seq ?_;refine aw_region [.p, .p, .p, .p] ?_;refine sm rfl rfl ?_;refine sm rfl rfl ?_;refine su (eff_lenM (f := cInt) (l := a0) rfl Tryz.underlying38 rfl) rfl ?_;refine su (eff_lss rfl rfl rfl) rfl ?_;refine st_nil ?_;refine len_sl (f := cInt) (l := a0) 0 rfl fun hlz1 => ?_;refine aw_cond _ rfl (fun h2 => ?_) (fun h2 => ?_)
   ·replace h2 : (decide (((k2 : Nat) : Int) < (List.length a0 : Int))) = true := h2;obtain ⟨y3, t4, rfl, hx1, hd⟩ := drop_cons hd (decT h2);replace h2 := decT h2;rw [s83_l1] at hR;(try dsimp only at hR);refine aw_skip ?_;refine aw_seq ?_;refine aw_block ?_;refine aw_seq ?_;obtain ⟨y5, by5, hR⟩ := bindO_inv hR;refine aw_draw [.p, .p, .p, .p, .p, .p, .p, .p, .p] (by kernel_rfl) ?_;refine sm rfl rfl ?_;refine sm rfl rfl ?_;refine su (eff_ix (f := cInt) (l := a0) (a := y3) rfl Tryz.underlying38 ty3 rfl rfl (Int.natCast_nonneg _) hx1) rfl ?_;refine su (eff_load rfl ty3 rfl) rfl ?_;refine sm rfl rfl ?_;refine sm rfl rfl ?_;refine su (eff_ix (f := cInt) (l := a1) (a := y5) rfl Tryz.underlying38 ty3 rfl rfl (ixO_nn by5) (ixO_get by5)) rfl ?_;refine su (eff_load rfl ty3 rfl) rfl ?_;refine su (eff_neq rfl rfl rfl) rfl ?_;refine st_nil ?_;refine aw_cond _ rfl (fun h4 => ?_) (fun h4 => ?_)
    ·replace hR := condT hR h4;refine aw_seq ?_;refine aw_region [.p] ?_;refine sa rfl rfl ?_;refine st_nil ?_;refine aw_ret ?_;obtain rfl := Option.some.inj hR;exact res_c rfl (rv_g rfl)
    ·replace h4 : (decide (y3 ≠ y5)) = false := h4;replace hR := condF hR h4;(try simp only [bB] at h4);refine aw_skip ?_;refine aw_region [.p, .p, .p] ?_;refine sm rfl rfl ?_;refine su (eff_add rfl rfl rfl iE) rfl ?_;refine sa rfl rfl ?_;refine st_nil ?_;exact ⟨rfl, (k2 + 1, t4), ⟨rfl, rfl, rfl, trivial⟩, trivial, rfl, ⟨hd, hR⟩, by simp⟩
   ·replace h2 : (decide (((k2 : Nat) : Int) < (List.length a0 : Int))) = false := h2;obtain rfl := drop_nil hd (decF h2);rw [s83_l1] at hR;refine aw_exit ?_;refine aw_seq ?_;refine aw_region [.p] ?_;refine sa rfl rfl ?_;refine st_nil ?_;refine aw_ret ?_;obtain rfl := Option.some.inj hR;exact res_c rfl (rv_g rfl)
end Go.Sim
set_option maxRecDepth 10000
namespace Go.Sim
open Go.Proofs
def s6007 (a0 : S45) (a1 : Int) : S45 × Int :=
 (bif decide ((s152 [(s102 a0), (s155 a1 (-99999) 99999)]) ≠ 0) then ((S45.mk 0 0 0), (s152 [(s102 a0), (s155 a1 (-99999) 99999)])) else (bif (decide (IntKind.i64.wrap (a0.fFrom + a1) < 0)) || (decide (99999 < IntKind.i64.wrap (a0.fTo + a1))) then ((S45.mk 0 0 0), 30) else ((S45.mk (IntKind.i64.wrap (a0.fFrom + a1)) (IntKind.i64.wrap (a0.fTo + a1)) (andI (orI (shlI a0.Days (Int.tmod (IntKind.i64.wrap ((Int.tmod a1 7) + 7)) 7)) (shrI a0.Days (IntKind.i64.wrap (7 - (Int.tmod (IntKind.i64.wrap ((Int.tmod a1 7) + 7)) 7))))) 127)), 0)))
def s6013_j1 (rec1 : (List ByteArray) → Int → Int → Option (List ByteArray)) (x3 : Int) (x6 : List ByteArray) (x7 : Int) : Option (List ByteArray) :=
 rec1 x6 x7 (x3 + 1)
def s6013_l1 (a0 : ByteArray) : Nat → (List ByteArray) → Int → Int → Option (List ByteArray)
 | 0, x1, x2, x3 => some x1
 | k5 + 1, x1, x2, x3 => bindO (bif !(decide (x3 = (ByteArray.size a0 : Int))) then ixO (ByteArray.data a0).toList x3 else some default) fun y8 => (bif (decide (x3 = (ByteArray.size a0 : Int))) || (decide ((y8.toNat : Int) = 32)) then s6013_j1 (fun z0_ z1_ z2_ => s6013_l1 a0 k5 z0_ z1_ z2_) x3 (x1 ++ [ByteArray.extract a0 (Int.toNat x2) (Int.toNat x3)]) (x3 + 1) else s6013_j1 (fun z0_ z1_ z2_ => s6013_l1 a0 k5 z0_ z1_ z2_) x3 x1 x2)
def s6013 (a0 : ByteArray) : Option (List ByteArray) :=
 s6013_l1 a0 ((((ByteArray.size a0 : Int) + 1) - 0).toNat) [] 0 0
theorem s4083_zero {s : ByteArray} : s4083 s = 0 ↔ s147 s = true := by unfold s4083 s4085; cases s147 s <;> simp
theorem s4056_ok {r : S115} (h : RqOk r) : s4056 r = 0 := by
 unfold s4056;refine (s4082_zero _).2 fun x hx => ?_;simp only [List.mem_cons, List.not_mem_nil, or_false] at hx
 rcases hx with rfl | rfl | rfl | rfl | rfl | rfl | rfl | rfl | rfl | rfl | rfl | rfl
 ·exact s4083_zero.2 h.n
 ·exact s4083_zero.2 h.c
 ·exact s4083_zero.2 h.p
 ·exact opt_ok h.t
 ·exact opt_ok h.l
 ·have : s4086 r.Kind = true := by unfold s4086; rcases h.k with e | e <;> simp [e]
  rw [this]; rfl
 ·rw [decide_eq_false h.lk]; rfl
 ·exact h.per
 ·exact s4087_zero.2 h.m
 ·exact s4087_zero.2 h.s
 ·exact s4087_zero.2 h.z
 ·exact s4087_zero.2 h.no
section
variable {E : Env} {w0 : World} {M0 : Nat → Prop}
def ConT (E : Env) (f : FuncId) (args : List TV) (e : TypeId) (k : Nat) (xs xs' : List (List G)) (n : Nat) : Prop :=
 ∀ w M ρ (vs : List Value), (∀ b, M b → b < w.heap.size) → GlOk E w (owned M ρ) → (∀ id x, ρ id = some x → ∃ blk, lookO [(0, Blk.arr e k xs)] id = some blk) →
  (∀ id ow, ρ id = some (some ow) → ow.b < w.heap.size ∧ ¬ M ow.b) → (∀ id id' ow ow', ρ id = some (some ow) → ρ id' = some (some ow') → ow.b = ow'.b → id = id') →
  (∀ id blk, lookO [(0, Blk.arr e k xs)] id = some blk → BRel w (owned M ρ) ρ id blk) → ArgsT w (owned M ρ) ρ args vs →
  Calls E.P f vs.toArray w fun ex w' => ∃ v, ex = .returned v ∧ BelowX (fun b => ∃ id ow, ρ id = some (some ow) ∧ ow.b = b) w w' ∧ BRel w' (owned M ρ) ρ 0 (.arr e k xs') ∧ TRel w' (owned M ρ) ρ (.osl 0 k 0 n) v
theorem ConT.lend {f : FuncId} {args : List TV} {e : TypeId} {k n : Nat} {xs xs' : List (List G)} {mem : Mem} {x : Nat → Option Own} (h : ConT E f args e k xs xs' n) : ConT (E.lend mem x) f args e k xs xs' n := h
end
section
variable {E : Env} {w0 : World} {M0 : Nat → Prop}
theorem TFits.forget {w : World} {M : Nat → Prop} {ρ : Rho} : ∀ {cs : List TV} {vs : List Value} (p : Nat), TFits w M ρ cs vs → TFits w M ρ (cs.set p .any) vs
 | [], [], _, _ => trivial
 | _ :: _, _ :: _, 0, h => ⟨⟨trivial, h.1.2⟩, h.2⟩
 | _ :: _, _ :: _, p + 1, h => ⟨h.1, TFits.forget p h.2⟩
 | [], _ :: _, _, h => h.elim
 | _ :: _, [], _, h => h.elim
theorem TFits.give {w : World} {M : Nat → Prop} {ρ : Rho} {tv : TV} {v : Value} (ht : TRel w M ρ tv v) : ∀ {cs : List TV} {vs : List Value} (p : Nat), TFits w M ρ cs vs → vs[p]? = some v → TFits w M ρ (cs.set p tv) vs
 | [], [], _, _, _ => trivial
 | _ :: _, u :: _, 0, h, hv => by simp at hv; subst hv; exact ⟨⟨ht, h.1.2⟩, h.2⟩
 | _ :: _, _ :: _, p + 1, h, hv => ⟨h.1, TFits.give ht p h.2 (by simpa using hv)⟩
 | [], _ :: _, _, h, _ => h.elim
 | _ :: _, [], _, h, _ => h.elim
theorem rho_same {ρ : Rho} {id : Nat} {ow : Own} (h : ρ id = some (some ow)) : rhoSet ρ id (some ow) = ρ := by
 funext i
 by_cases hi : i = id
 ·subst hi; rw [rhoSet_same]; exact h.symm
 ·simp [rhoSet, hi]
theorem arel_nilcell {a : Act} {w : World} {s : ASt} {b p id k : Nat} {e : TypeId} {cs : List TV} (ha : ARel E w0 M0 s a w) (hb : lookO s.mem b = some (.box cs)) (hc : cs[p]? = some (.g (.lit (.slice none 0 0)))) (hf : lookO s.mem id = none) (hne : Nat.beq id b = false) :
  ARel E w0 M0 ⟨s.n, s.tmps, (b, .box (cs.set p (.osl id k 0 0))) :: (id, .arr e k []) :: s.mem⟩ a w := by
 obtain ⟨ρ, hm, hmk, ht⟩ := ha.ex;have hr := rho_none hm hf;obtain ⟨m1, m2⟩ := mrel_upd (id := id) (x := none) (blk' := .arr e k []) none hm ⟨rfl, rfl, rfl, Nat.le_refl _, fun _ _ _ => rfl⟩ (fun o ho => by cases ho) (.inr ⟨rfl, .inl hr⟩) (fun _ b _ _ => noref_none b) (.inl rfl) (.inl ⟨rhoSet_same _ _ _, rfl⟩)
 have hb' : lookO ((id, Blk.arr e k []) :: s.mem) b = some (.box cs) := by simp only [lookO, hne]; exact hb
 obtain ⟨ow, ty, vs, g1, g2, g3, g4⟩ := m1.blk b _ hb';obtain ⟨v, h4, h5, _⟩ := TFits.get p g4 hc;have hv : v = .slice none 0 0 := h5;subst hv;obtain ⟨n1, n2⟩ := mrel_upd (id := b) (x := some ow) (blk' := .box (cs.set p (.osl id k 0 0))) none m1 ⟨rfl, rfl, rfl, Nat.le_refl _, fun _ _ _ => rfl⟩ (fun o ho => by cases ho; exact ⟨.inr ⟨ow, g1, rfl⟩, (m1.fresh b ow g1).2⟩) (.inr ⟨rfl, .inr g1⟩) (fun _ b _ _ => noref_none b) (.inl rfl)
  ⟨ow, ty, vs, rhoSet_same _ _ _, g2, g3, by rw [rho_same g1]; exact TFits.give (show TRel w (owned M0 (rhoSet ρ id none)) (rhoSet ρ id none) (.osl id k 0 0) (.slice none 0 0) from Or.inl ⟨rhoSet_same _ _ _, rfl, rfl, rfl⟩) p g4 h4⟩
 exact ⟨ha.defers, ha.size, _, n1, ⟨hmk.1, fun d hd => by
  obtain ⟨D, q1, q2, q3⟩ := hmk.2 d hd
  exact ⟨D, q1, q2, n2 (.g (G.mark D)) undef rfl (m2 (.g (G.mark D)) undef rfl q3)⟩⟩, fun i => n2 _ _ (by cases s.get i <;> rfl) (m2 _ _ (by cases s.get i <;> rfl) (ht i))⟩
theorem aw_nilcell {c : Code} {Q : Exit → ASt → Prop} {s : ASt} (b p id k : Nat) (e : TypeId) {cs : List TV} (hb : lookO s.mem b = some (.box cs)) (hc : cs[p]? = some (.g (.lit (.slice none 0 0)))) (hf : lookO s.mem id = none) (hne : Nat.beq id b = false)
  (h : AWp E w0 M0 c Q ⟨s.n, s.tmps, (b, .box (cs.set p (.osl id k 0 0))) :: (id, .arr e k []) :: s.mem⟩) : AWp E w0 M0 c Q s := fun a w ha => h a w (arel_nilcell ha hb hc hf hne)
end
section
variable {E : Env} {ops : Array Oper} {o : Oper} {os : List Oper} {cs : List Cls} {s : ASt} {r : TV} {K : ASt → Prop}
end
section
variable {E : Env} {w0 : World} {M0 : Nat → Prop}
def MemF (s : ASt) (b : Nat) (blk : Blk) : Mem → Prop
 | [] => True
 | (i, B) :: r => (bif Nat.beq i b then B = blk else lookO s.mem i = some B) ∧ MemF s b blk r
theorem memF_look {s : ASt} {b : Nat} {blk : Blk} : ∀ {m : Mem}, MemF s b blk m → ∀ i B, lookO m i = some B → (i = b ∧ B = blk) ∨ (i ≠ b ∧ lookO s.mem i = some B)
 | [], _, _, _, h => by cases h
 | (j, B') :: r, hm, i, B, h => by
  simp only [lookO] at h
  cases hj : Nat.beq j i with
  | true =>
   rw [hj] at h;have hji := Nat.eq_of_beq_eq_true hj;subst hji;simp only [cond_true, Option.some.injEq] at h;subst h;have h1 := hm.1
   cases hb : Nat.beq j b with
   | true => rw [hb] at h1; exact .inl ⟨Nat.eq_of_beq_eq_true hb, h1⟩
   | false =>
    rw [hb] at h1;exact .inr ⟨fun e => by subst e; simp at hb, h1⟩
  | false => rw [hj] at h; exact memF_look hm.2 i B h
theorem aw_frzcell {c : Code} {Q : Exit → ASt → Prop} {s : ASt} (b p id k N : Nat) {e : TypeId} {cs : List TV} {xs : List (List G)} {l : List (Nat × TV)} {m : Mem} (hb : lookO s.mem b = some (.box cs)) (hc : cs[p]? = some (.osl id k 0 N)) (hx : lookO s.mem id = some (.arr e k xs)) (hN : xs.length = N)
  (h1 : WeakL s l) (h2 : MemF s b (.box (cs.set p (.g (.sl k xs)))) m) (h3 : closedB l m = true) (hid : lookO m id = none)
  (h : AWp E w0 M0 c Q (stt s.n l m)) (hbw : bowIn E m = true := by rfl) (hst : strictB E = true := by rfl) : AWp E w0 M0 c Q s := by
 intro a w ha;refine h a w ?_;obtain ⟨ρ, hm, hmk, ht⟩ := ha.ex
 let ρ' : Rho := fun id => if (lookO m id).isSome = true then ρ id else none
 have hρ : ∀ id, (lookO m id).isSome = true → ρ' id = ρ id := fun id hi => by simp only [ρ', if_pos hi]
 have hρ' : ∀ id x, ρ' id = some x → ρ id = some x ∧ (lookO m id).isSome = true := by
  intro id x hx;simp only [ρ'] at hx
  split at hx
  ·rename_i hi; exact ⟨hx, hi⟩
  ·cases hx
 have hM : ∀ b, owned M0 ρ' b → owned M0 ρ b := by
  rintro b (hb | ⟨id, o, ho, rfl⟩)
  ·exact .inl hb
  ·exact .inr ⟨id, o, (hρ' id _ ho).1, rfl⟩
 have hlent : lookO E.bow id = none := by
  cases hq : lookO E.bow id with
  | none => rfl
  | some x =>
   have := List.all_eq_true.1 hbw (id, x) (lookO_mem _ hq);simp only [hid] at this
   cases this
 have hno : ∀ ow, ρ id = some (some ow) → ¬ owned M0 ρ' ow.b := by
  rintro ow ho (hM0 | ⟨i, o, hi, he⟩)
  ·exact not_lent hm ho hlent hst (.inl hM0)
  ·have := hm.inj i id o ow (hρ' i _ hi).1 ho he;subst this;have := (hρ' i _ hi).2;rw [hid] at this; cases this
 simp only [closedB, Bool.and_eq_true, List.all_eq_true] at h3;refine ⟨ha.defers, ha.size, ρ', ⟨hm.below, hm.m0, ?_, ?_, ?_, ?_, ?_, hm.lentM, ?_⟩, hmk.sub hM, ?_⟩
 ·intro g vs hg;have := hm.glob g vs hg;exact ⟨⟨fun hb => this.1.1 (hM _ hb), this.1.2⟩, this.2.mono (fun _ _ _ => rfl) (fun b _ => hM b) this.1.1⟩
 ·intro id x hx;have := (hρ' id x hx).2
  cases hl : lookO m id with
  | none => rw [hl] at this; cases this
  | some b => exact ⟨b, hl⟩
 ·exact fun id ow ho => hm.fresh id ow (hρ' id _ ho).1
 ·exact fun id id' ow ow' ho ho' => hm.inj id id' ow ow' (hρ' id _ ho).1 (hρ' id' _ ho').1
 ·intro id x hx;rw [hρ id (List.all_eq_true.1 hbw (id, x) (lookO_mem _ hx))];exact hm.keep id x hx
 ·intro i blk' hb0;have hb0 : lookO m i = some blk' := hb0
  have hi : (lookO m i).isSome = true := by rw [hb0]; rfl
  rcases memF_look h2 i blk' hb0 with ⟨rfl, rfl⟩ | ⟨_, hold⟩
  ·obtain ⟨ow, ty, vs, g1, g2, g3, g4⟩ := hm.blk i _ hb;have hcl := h3.2 (i, .box (cs.set p (.g (.sl k xs)))) (lookO_mem _ hb0);obtain ⟨v, h4, h5, _⟩ := TFits.get p g4 hc;have hview := osl_view hm hx h5 (Nat.zero_le _) (by rw [hN]; exact Nat.le_refl _);obtain ⟨a', cap, e1, k1, k2, k3, k4, k5, k6⟩ := hview;subst hN;simp only [Nat.sub_zero, List.drop_zero, List.take_length] at e1 k1 k4 k5 k6
   have hv : TRel w (owned M0 ρ') ρ (.g (.sl k xs)) v := by
    refine ⟨a', cap, e1, k1, k2, k5, ?_⟩
    rcases k6 with k6 | ⟨b', o, cur, news, rfl, ⟨ow2, q0, rfl⟩, q1, q2, q3⟩
    ·have : xs = [] := List.eq_nil_of_length_eq_zero k6;subst this;exact .inl ⟨rfl, fun ha => (k3 ha).1⟩
    ·exact .inr ⟨ow2.b, o, rfl, hno ow2 q0, cells_of_fits q1 (q2.mono (fun _ _ _ => rfl) (fun b _ => hM b)) q3⟩
   refine ⟨ow, ty, vs, by rw [hρ i hi]; exact g1, g2, g3, ?_⟩;have hf : TFits w (owned M0 ρ) ρ (cs.set p .any) vs := TFits.forget p g4
   have hf' : TFits w (owned M0 ρ') ρ' (cs.set p .any) vs := hf.sub (m := m) hM hρ fun c hc' => by
    have hall : ∀ c ∈ cs.set p (.g (.sl k xs)), refsIn m c = true := by simpa [blkIn] using hcl
    rcases List.mem_or_eq_of_mem_set hc' with h | rfl
    ·obtain ⟨j, hj⟩ := List.mem_iff_getElem?.1 hc'
     by_cases hjp : p = j
     ·subst hjp;have hlt : p < cs.length := (List.getElem?_eq_some_iff.1 hc).1;rw [List.getElem?_set_self hlt] at hj
      cases hj; rfl
     ·rw [List.getElem?_set_ne hjp] at hj;exact hall c (List.mem_iff_getElem?.2 ⟨j, by rw [List.getElem?_set_ne hjp]; exact hj⟩)
    ·rfl
   have := TFits.give (tv := .g (.sl k xs)) (ρ := ρ') (show TRel w (owned M0 ρ') ρ' (.g (.sl k xs)) v from hv) p hf' h4
   rwa [List.set_set] at this
  ·have := hm.blk i blk' hold
   cases blk' with
   | box cs =>
    obtain ⟨ow, e, vs, g1, g2, g3, g4⟩ := this;have hcl := h3.2 (i, .box cs) (lookO_mem _ hb0);exact ⟨ow, e, vs, by rw [hρ i hi]; exact g1, g2, g3, g4.sub hM hρ (by simpa [blkIn] using hcl)⟩
   | arr e k xs =>
    rcases this with ⟨g1, g2⟩ | ⟨ow, vs, g1, g2, g3, g4, g5, g6, g7⟩
    ·exact .inl ⟨by rw [hρ i hi]; exact g1, g2⟩
    ·exact .inr ⟨ow, vs, by rw [hρ i hi]; exact g1, g2, g3, g4, g5, g6, g7.mono (fun _ _ _ => rfl) (fun b _ => hM b)⟩
   | mp es =>
    obtain ⟨ow, en, cl, g1, g2, g3, g4⟩ := this;exact ⟨ow, en, cl, by rw [hρ i hi]; exact g1, g2, g3.mono (fun _ _ _ => rfl) (fun b _ => hM b), g4⟩
   | obj o =>
    obtain ⟨ow, g1, g2, g3⟩ := this;exact ⟨ow, by rw [hρ i hi]; exact g1, g2, g3⟩
   | mit es seen =>
    obtain ⟨ow, g1, g2, g3⟩ := this;exact ⟨ow, by rw [hρ i hi]; exact g1, g2, g3.mono rfl (fun _ _ _ => rfl) (fun b _ => hM b)⟩
   | tbox T cs =>
    obtain ⟨ow, vs, g1, g2, g3, g4⟩ := this;have hcl := h3.2 (i, .tbox T cs) (lookO_mem _ hb0);exact ⟨ow, vs, by rw [hρ i hi]; exact g1, g2, g3, g4.sub hM hρ (by simpa [blkIn] using hcl)⟩
   | buf e bs =>
    rcases this with ⟨g1, g2⟩ | ⟨ow, cur, g1, g2⟩
    ·exact .inl ⟨by rw [hρ i hi]; exact g1, g2⟩
    ·exact .inr ⟨ow, cur, by rw [hρ i hi]; exact g1, g2⟩
   | gone => trivial
 ·intro i;show TRel _ _ _ (lookT l i) _
  rcases weakL_get h1 i with h4 | ⟨h4, v, h5, h6⟩
  ·rw [h4]; trivial
  ·rw [h4];refine (ht i).sub (m := m) ?_ hM hρ;rw [← h4, h6];exact h3.1 (i, v) h5
end
section
variable {E : Env}
def GSub (x y : G) : Prop := ∀ w M v, x.p w M v → y.p w M v
end
theorem refsM {id : Nat} {mem : Mem} (h : (mem.all fun p => Nat.beq p.1 id || (match lookO mem p.1 with | some b => b.noref (some id) | none => true)) = true) : ∀ i blk, lookO mem i = some blk → i ≠ id → blk.noref (some id) = true := by
 intro i blk hb hne;have := List.all_eq_true.1 h (i, blk) (lookO_mem _ hb);simp only [Bool.or_eq_true, hb] at this
 rcases this with h1 | h1
 ·exact absurd (Nat.eq_of_beq_eq_true h1) hne
 ·exact h1
section
variable {E : Env} {w0 : World} {M0 : Nat → Prop}
theorem tfits_app {w : World} {M : Nat → Prop} {ρ : Rho} : ∀ {cs ds : List TV} {us ws : List Value}, TFits w M ρ cs us → TFits w M ρ ds ws → TFits w M ρ (cs ++ ds) (us ++ ws)
 | [], _, [], _, _, h => h
 | _ :: _, _, _ :: _, _, h, k => ⟨h.1, tfits_app h.2 k⟩
 | [], _, _ :: _, _, h, _ => h.elim
 | _ :: _, _, [], _, h, _ => h.elim
instance (pre : List G) (id k hi : Nat) (post : List G) : PartT (.agl pre id k hi post) (pre.map TV.g ++ .osl id k 0 hi :: post.map TV.g) := ⟨fun {w M ρ v} h => by
 obtain ⟨vs, sv, us, rfl, h1, h2, h3⟩ := h;show TFits w M ρ _ (vs ++ sv :: us).toArray.toList;refine tfits_app (tfits_of_fits (ρ := ρ) h1) (show TFits w M ρ (_ :: _) (sv :: us) from ⟨?_, tfits_of_fits (ρ := ρ) h2⟩)
 rcases h3 with ⟨q1, q2, q3⟩ | ⟨ow, p, q1, q2, q3, q4⟩
 ·exact ⟨.inl ⟨q1, rfl, q2, q3⟩, by rw [q3]; rfl⟩
 ·exact ⟨.inr ⟨ow, q1, Nat.zero_le _, q2, p, by rw [q3]; simp, fun h => by simpa using q4 h⟩, by rw [q3]; rfl⟩⟩
theorem eff_forget {o : Oper} {mem mem' : Mem} {ev : Operand → TV} {r : TV} {kill : Option Nat} (b p : Nat) {cs : List TV} (hb : lookO mem b = some (.box cs)) (h : EffW E o ((b, .box (cs.set p .any)) :: mem) ev r mem' kill) : EffW E o mem ev r mem' kill := by
 intro w0 M0 ρ w e hm hx;refine h w0 M0 ρ w e ?_ hx;refine ⟨hm.below, hm.m0, hm.glob, ?_, hm.fresh, hm.inj, hm.keep, hm.lentM, ?_⟩
 ·intro id x h;obtain ⟨blk, hk⟩ := hm.dom id x h
  cases hbq : Nat.beq b id with
  | true => exact ⟨_, by simp only [lookO, hbq]; rfl⟩
  | false => exact ⟨blk, by simp only [lookO, hbq]; exact hk⟩
 ·intro id blk h;simp only [lookO] at h
  cases hbq : Nat.beq b id with
  | true =>
   rw [hbq] at h;have := Nat.eq_of_beq_eq_true hbq;subst this
   have : blk = .box (cs.set p .any) := by simpa using h.symm
   subst this;obtain ⟨ow, ty, vs, g1, g2, g3, g4⟩ := hm.blk b _ hb;exact ⟨ow, ty, vs, g1, g2, g3, TFits.forget p g4⟩
  | false =>
   rw [hbq] at h;exact hm.blk id blk h
end
section
variable {E : Env} {w0 : World} {M0 : Nat → Prop}
def Env.turn (E : Env) (lp : Nat) (mem : Mem) (x : Nat → Option Own) : Env := ⟨E.P, E.gl, E.orders, mem.map fun p => (p.1, x p.1), some lp, false, E.nb⟩
theorem Con.turn {f : FuncId} {args : List G} {r : G} {lp : Nat} {mem : Mem} {x : Nat → Option Own} (h : Con E f args r) : Con (E.turn lp mem x) f args r := h
theorem ConB.turn {f : FuncId} {args : List TV} {r : G} {m m' : Mem} {lp : Nat} {mem : Mem} {x : Nat → Option Own} (h : ConB E f args m r m') : ConB (E.turn lp mem x) f args m r m' := h
def sameIds (m m' : Mem) : Prop := m'.map (·.1) = m.map (·.1)
def liveM (m : Mem) : Bool := m.all fun q => q.2.live
theorem look_ids {m : Mem} {id : Nat} : (∃ b, lookO m id = some b) ↔ id ∈ m.map (·.1) := by
 induction m with
 | nil => simp [lookO]
 | cons q m ih =>
  obtain ⟨k, v⟩ := q;simp only [lookO, List.map_cons, List.mem_cons]
  rcases Bool.eq_false_or_eq_true (Nat.beq k id) with hk | hk
  ·rw [hk]; have := Nat.eq_of_beq_eq_true hk; simp [this]
  ·rw [hk]
   have : id ≠ k := fun e => by subst e; rw [Nat.beq_refl] at hk; cases hk
   simp only [cond_false, ih, this, false_or]
def Jm (ρ : Rho) (Mo : Nat → Prop) (lp D : Nat) (w : World) (st : Obj) (m : Mem) (W : World) : Prop :=
 BelowX (fun b => b = lp ∨ ∃ id ow, ρ id = some (some ow) ∧ ow.b = b) w W ∧ (∀ id blk, lookO m id = some blk → BRel W Mo ρ id blk) ∧ W.heap[lp]? = some st ∧ W.heap[D]? = some (.deferred (some []))
theorem Jm.grow {ρ : Rho} {Mo : Nat → Prop} {lp D : Nat} {w W W' : World} {st : Obj} {m : Mem} (hsub : ∀ id ow, ρ id = some (some ow) → ow.b < w.heap.size) (h : Jm ρ Mo lp D w st m W) (hg : Grow W W') : Jm ρ Mo lp D w st m W' := by
 obtain ⟨h1, h2, h3, h4⟩ := h;refine ⟨h1.trans (BelowX.of_grow hg), fun id blk hb => ?_, (hg.block lp (Array.getElem?_eq_some_iff.1 h3).1).trans h3, (hg.block D (Array.getElem?_eq_some_iff.1 h4).1).trans h4⟩;exact (h2 id blk hb).mono none (by simp) (noref_none _) (fun ow ho => hg.block _ (Nat.lt_of_lt_of_le (hsub id ow ho) h1.size)) hg.hh (fun _ _ h => h) (fun _ _ _ => rfl)
end
section
variable {E : Env} {w0 : World} {M0 : Nat → Prop}
theorem put_size (w : World) (b : Nat) (o : Obj) : (w.putObj b o).heap.size = w.heap.size := by simp [World.putObj]
theorem put_belowX (w : World) (b : Nat) (o : Obj) {L : Nat → Prop} (h : L b) : BelowX L w (w.putObj b o) :=
 ⟨rfl, rfl, rfl, Nat.le_of_eq (put_size w b o).symm, fun k _ hl => World.putObj_heap_other fun e => hl (by rw [e]; exact h)⟩
end
end Go.Sim
