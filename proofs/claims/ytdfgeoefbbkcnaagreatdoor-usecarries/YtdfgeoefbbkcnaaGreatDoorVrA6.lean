/-
  What is proved: lemmas and contracts of functions on the way to the law useCarries (part 6).
-/
import Derived.Test.YtdfgeoefbbkcnaaGreatDoorVrA5
import Derived.Test.YtdfgeoefbbkcnaaGreatDoorVrA4
import Derived.RangeFuncBox
import Derived.RangeFuncNested
import Derived.RangeFuncBound
import Derived.RangeFuncCalls
import Derived.RangeFuncLeaves
import Derived.Shelf.Abstract
import Derived.Shelf.RegionOpen
import Derived.WalkKit
import Derived.OwnWalkIn
import Derived.TacticsInMore
import Derived.LoopNIn
import Derived.LoopIn
import Derived.Maps.AppendAt
import Derived.Lib.Hide
import Derived.Stop.RegionWithIn
import Derived.Sort.QuietIn
import Derived.Test.YtdfgeoefbbkcnaaGreatDoorVrA3
set_option linter.unusedSectionVars false
set_option linter.unusedSimpArgs false
set_option linter.unusedVariables false
set_option linter.unnecessarySimpa false
set_option linter.deprecated false
set_option maxRecDepth 10000
namespace Go.Sim
open Go.Proofs
def s86 (a0 : Bool) (a1 : Int) : Int :=
 (bif a0 then a1 else 0)
theorem c86 {g : List (Nat × List Value)} (a0 : Bool) (a1 : Int)    : Con (EG g) 86 [G.bool a0, G.int a1] (G.int (s86 a0 a1)) := by
 generalize hR : s86 a0 a1 = R;unfold s86 at hR;refine qp Tryz.func86 rfl rfl fun w0 M0 => ?_;refine qb (qa [.p] (sa rfl rfl (qc (qb (qb (qa [.p] ?_))))));refine sm rfl rfl (qc (qi _ rfl (fun h1 => ?_) (fun h1 => ?_)))
 ·replace hR := zl hR h1;refine qb (qa [.p, .p] (sm rfl rfl (sa rfl rfl (qc (qo ?_)))));subst hR;exact zd rfl (rv_g rfl)
 ·replace hR := zt hR h1;refine qm (qb (qa [.p] (sa rfl rfl (qc (qo ?_)))));subst hR;exact zd rfl (rv_g rfl)
def s85 (a0 : Int) (a1 : Int) (a2 : Int) : Int :=
 (s86 ((decide (a0 < a1)) || (decide (a2 < a0))) 3)
theorem c85 {g : List (Nat × List Value)} (a0 : Int) (a1 : Int) (a2 : Int)    : Con (EG g) 85 [G.int a0, G.int a1, G.int a2] (G.int (s85 a0 a1 a2)) := by
 generalize hR : s85 a0 a1 a2 = R;unfold s85 at hR;refine qp Tryz.func85 rfl rfl fun w0 M0 => ?_;refine qb (qa [.p] (sa rfl rfl (qc (qb (qa [.p, .p, .p, .p, .p, .p, .p, .p, .p, .p] (sm rfl rfl ?_))))));refine sm rfl rfl (su (qy rfl rfl rfl) rfl (sm rfl rfl (sg rfl rfl (fun h => qh rfl rfl) rfl (sg rfl rfl (fun h => qh rfl rfl) rfl (sg rfl rfl (fun h => jh rfl (gd h rfl) (gd h rfl)) rfl (su (ju rfl rfl rfl rfl) rfl ?_))))));refine su (qf rfl K86 rfl (c86 ((decide (a0 < a1)) || (decide (a2 < a0))) 3) (qd rfl (qd rfl qk))) rfl (sa rfl rfl (qc (qo ?_)));subst hR;exact zd rfl (rv_g rfl)
def s84_l1  : List Int → Nat → Int
 | [], k2 => 0
 | y3 :: t4, k2 => (bif decide (y3 ≠ 0) then y3 else s84_l1  t4 (k2 + 1))
def s84 (a0 : List Int) : Int :=
 s84_l1 a0 0
theorem c84 {g : List (Nat × List Value)} (a0 : List Int)    : Con (EG g) 84 [G.sl 1 (List.map cInt a0)] (G.int (s84 a0)) := by
 generalize hR : s84 a0 = R;unfold s84 at hR;refine qp Tryz.func84 rfl rfl fun w0 M0 => ?_;refine zp (f := cInt) (l := a0) 0 rfl fun hla0 => ?_;refine qb (qa [.p] (sa rfl rfl (qc (qb (qb (qa [.p, .p, .p] ?_))))));refine sm rfl rfl (su (qz (f := cInt) (l := a0) rfl Tryz.underlying170 rfl) rfl (sm rfl rfl (qc (ql (qu (γ := Nat × (List Int)) (fun g => ([(5, .g (G.sl 1 (List.map cInt a0))), (6, .g (G.int (List.length a0 : Int))), (7, .g (G.int ((g.1 : Nat) : Int)))], [])) (fun g => a0.drop g.1 = g.2 ∧ s84_l1  g.2 g.1 = R) (fun g => List.length g.2) ⟨rfl, (0, a0), ⟨rfl, rfl, rfl, trivial⟩, trivial, rfl, ⟨rfl, hR⟩, trivial⟩ ?_)))))
 ·rintro ⟨k2, t4⟩ ⟨hd, hR⟩;replace hd : a0.drop k2 = t4 := hd;replace hR : s84_l1  t4 k2 = R := hR;refine qb (qa [.p] (su (qy rfl rfl rfl) rfl (qc (zp (f := cInt) (l := a0) 5 rfl fun hlz1 => ?_))));refine qb (qi _ rfl (fun h1 => ?_) (fun h1 => ?_))
  ·replace h1 : (decide (((k2 : Nat) : Int) < (List.length a0 : Int))) = true := h1;obtain ⟨y3, t4, rfl, hx1, hd⟩ := zm hd (decT h1);replace h1 := decT h1;rw [s84_l1] at hR;(try dsimp only at hR);refine qm (qb (ql (qb (qa [.p, .p, .p] (su (zu (f := cInt) (l := a0) (a := y3) rfl Tryz.underlying170 ty37 rfl rfl (Int.natCast_nonneg _) hx1) rfl (su (qg rfl ty37 rfl) rfl ?_))))));refine sa rfl rfl (qc (qb (qa [.p, .p] (sm rfl rfl (su (zw rfl rfl rfl) rfl (qc ?_))))));refine qi _ rfl (fun h3 => ?_) (fun h3 => ?_)
   ·replace hR := zl hR h3;refine qb (qa [.p, .p] (sm rfl rfl (sa rfl rfl (qc (qo ?_)))));subst hR;exact zd rfl (rv_g rfl)
   ·replace h3 : (decide (y3 ≠ 0)) = false := h3;replace hR := zt hR h3;(try simp only [bB] at h3);refine qm (qa [.p, .p] (su (ze rfl rfl rfl iE) rfl (sm rfl rfl (qc ?_))));exact ⟨rfl, (k2 + 1, t4), ⟨rfl, rfl, rfl, trivial⟩, trivial, rfl, ⟨hd, hR⟩, by simp⟩
  ·replace h1 : (decide (((k2 : Nat) : Int) < (List.length a0 : Int))) = false := h1;obtain rfl := zz hd (decF h1);rw [s84_l1] at hR;refine zc ?_;refine qb (qa [.p] (sa rfl rfl (qc (qo ?_))));subst hR;exact zd rfl (rv_g rfl)
def s90 (a0 : Int) (a1 : Int) (a2 : Int) : Int :=
 (bif (decide (a0 < a1)) || (decide (a2 < a0)) then 3 else 0)
theorem c90 {g : List (Nat × List Value)} (a0 : Int) (a1 : Int) (a2 : Int)    : Con (EG g) 90 [G.int a0, G.int a1, G.int a2] (G.int (s90 a0 a1 a2)) := by
 generalize hR : s90 a0 a1 a2 = R;unfold s90 at hR;refine qp Tryz.func90 rfl rfl fun w0 M0 => ?_;refine qb (qa [.p] (sa rfl rfl (qc (qb (qb (qa [.p, .p, .p, .p, .p, .p, .p, .p] ?_))))));refine sm rfl rfl (sm rfl rfl (su (qy rfl rfl rfl) rfl (sm rfl rfl (sg rfl rfl (fun h => qh rfl rfl) rfl (sg rfl rfl (fun h => qh rfl rfl) rfl (sg rfl rfl (fun h => jh rfl (gd h rfl) (gd h rfl)) rfl ?_))))));refine su (ju rfl rfl rfl rfl) rfl (qc (qi _ rfl (fun h1 => ?_) (fun h1 => ?_)))
 ·replace hR := zl hR h1;refine qb (qa [.p] (sa rfl rfl (qc (qo ?_))));subst hR;exact zd rfl (rv_g rfl)
 ·replace hR := zt hR h1;refine qm (qb (qa [.p] (sa rfl rfl (qc (qo ?_)))));subst hR;exact zd rfl (rv_g rfl)
def s89_l1  : List Int → Nat → Int
 | [], k2 => 0
 | y3 :: t4, k2 => (bif decide (y3 ≠ 0) then y3 else s89_l1  t4 (k2 + 1))
def s89 (a0 : List Int) : Int :=
 s89_l1 a0 0
def s154 (a0 : Bool) (a1 : Int) : Int :=
 (bif a0 then a1 else 0)
theorem c154 {g : List (Nat × List Value)} (a0 : Bool) (a1 : Int)    : Con (EG g) 154 [G.bool a0, G.int a1] (G.int (s154 a0 a1)) := by
 generalize hR : s154 a0 a1 = R;unfold s154 at hR;refine qp Tryz.func154 rfl rfl fun w0 M0 => ?_;refine qb (qa [.p] (sa rfl rfl (qc (qb (qb (qa [.p] ?_))))));refine sm rfl rfl (qc (qi _ rfl (fun h1 => ?_) (fun h1 => ?_)))
 ·replace hR := zl hR h1;refine qb (qa [.p, .p] (sm rfl rfl (sa rfl rfl (qc (qo ?_)))));subst hR;exact zd rfl (rv_g rfl)
 ·replace hR := zt hR h1;refine qm (qb (qa [.p] (sa rfl rfl (qc (qo ?_)))));subst hR;exact zd rfl (rv_g rfl)
def s155 (a0 : Int) (a1 : Int) (a2 : Int) : Int :=
 (s154 ((decide (a0 < a1)) || (decide (a2 < a0))) 3)
theorem c155 {g : List (Nat × List Value)} (a0 : Int) (a1 : Int) (a2 : Int)    : Con (EG g) 155 [G.int a0, G.int a1, G.int a2] (G.int (s155 a0 a1 a2)) := by
 generalize hR : s155 a0 a1 a2 = R;unfold s155 at hR;refine qp Tryz.func155 rfl rfl fun w0 M0 => ?_;refine qb (qa [.p] (sa rfl rfl (qc (qb (qa [.p, .p, .p, .p, .p, .p, .p, .p, .p, .p] (sm rfl rfl ?_))))));refine sm rfl rfl (su (qy rfl rfl rfl) rfl (sm rfl rfl (sg rfl rfl (fun h => qh rfl rfl) rfl (sg rfl rfl (fun h => qh rfl rfl) rfl (sg rfl rfl (fun h => jh rfl (gd h rfl) (gd h rfl)) rfl (su (ju rfl rfl rfl rfl) rfl ?_))))));refine su (qf rfl K154 rfl (c154 ((decide (a0 < a1)) || (decide (a2 < a0))) 3) (qd rfl (qd rfl qk))) rfl (sa rfl rfl (qc (qo ?_)));subst hR;exact zd rfl (rv_g rfl)
def s152_l1  : List Int → Nat → Int
 | [], k2 => 0
 | y3 :: t4, k2 => (bif decide (y3 ≠ 0) then y3 else s152_l1  t4 (k2 + 1))
def s152 (a0 : List Int) : Int :=
 s152_l1 a0 0
theorem c152 {g : List (Nat × List Value)} (a0 : List Int)    : Con (EG g) 152 [G.sl 1 (List.map cInt a0)] (G.int (s152 a0)) := by
 generalize hR : s152 a0 = R;unfold s152 at hR;refine qp Tryz.func152 rfl rfl fun w0 M0 => ?_;refine zp (f := cInt) (l := a0) 0 rfl fun hla0 => ?_;refine qb (qa [.p] (sa rfl rfl (qc (qb (qb (qa [.p, .p, .p] ?_))))));refine sm rfl rfl (su (qz (f := cInt) (l := a0) rfl Tryz.underlying170 rfl) rfl (sm rfl rfl (qc (ql (qu (γ := Nat × (List Int)) (fun g => ([(5, .g (G.sl 1 (List.map cInt a0))), (6, .g (G.int (List.length a0 : Int))), (7, .g (G.int ((g.1 : Nat) : Int)))], [])) (fun g => a0.drop g.1 = g.2 ∧ s152_l1  g.2 g.1 = R) (fun g => List.length g.2) ⟨rfl, (0, a0), ⟨rfl, rfl, rfl, trivial⟩, trivial, rfl, ⟨rfl, hR⟩, trivial⟩ ?_)))))
 ·rintro ⟨k2, t4⟩ ⟨hd, hR⟩;replace hd : a0.drop k2 = t4 := hd;replace hR : s152_l1  t4 k2 = R := hR;refine qb (qa [.p] (su (qy rfl rfl rfl) rfl (qc (zp (f := cInt) (l := a0) 5 rfl fun hlz1 => ?_))));refine qb (qi _ rfl (fun h1 => ?_) (fun h1 => ?_))
  ·replace h1 : (decide (((k2 : Nat) : Int) < (List.length a0 : Int))) = true := h1;obtain ⟨y3, t4, rfl, hx1, hd⟩ := zm hd (decT h1);replace h1 := decT h1;rw [s152_l1] at hR;(try dsimp only at hR);refine qm (qb (ql (qb (qa [.p, .p, .p] (su (zu (f := cInt) (l := a0) (a := y3) rfl Tryz.underlying170 ty37 rfl rfl (Int.natCast_nonneg _) hx1) rfl (su (qg rfl ty37 rfl) rfl ?_))))));refine sa rfl rfl (qc (qb (qa [.p, .p] (sm rfl rfl (su (zw rfl rfl rfl) rfl (qc ?_))))));refine qi _ rfl (fun h3 => ?_) (fun h3 => ?_)
   ·replace hR := zl hR h3;refine qb (qa [.p, .p] (sm rfl rfl (sa rfl rfl (qc (qo ?_)))));subst hR;exact zd rfl (rv_g rfl)
   ·replace h3 : (decide (y3 ≠ 0)) = false := h3;replace hR := zt hR h3;(try simp only [bB] at h3);refine qm (qa [.p, .p] (su (ze rfl rfl rfl iE) rfl (sm rfl rfl (qc ?_))));exact ⟨rfl, (k2 + 1, t4), ⟨rfl, rfl, rfl, trivial⟩, trivial, rfl, ⟨hd, hR⟩, by simp⟩
  ·replace h1 : (decide (((k2 : Nat) : Int) < (List.length a0 : Int))) = false := h1;obtain rfl := zz hd (decF h1);rw [s152_l1] at hR;refine zc ?_;refine qb (qa [.p] (sa rfl rfl (qc (qo ?_))));subst hR;exact zd rfl (rv_g rfl)
def s148_l1 (a1 : ByteArray) : List ByteArray → Nat → Int
 | [], k2 => (-1)
 | y3 :: t4, k2 => (bif decide (a1 = y3) then ((k2 : Nat) : Int) else s148_l1 a1 t4 (k2 + 1))
def s148 (a0 : List ByteArray) (a1 : ByteArray) : Int :=
 s148_l1 a1 a0 0
theorem c148 {g : List (Nat × List Value)} (a0 : List ByteArray) (a1 : ByteArray)    : Con (EG g) 148 [G.sl 1 (List.map cStr a0), G.str a1] (G.int (s148 a0 a1)) := by
 generalize hR : s148 a0 a1 = R;unfold s148 at hR;refine qp Tryz.func148 rfl rfl fun w0 M0 => ?_;refine zp (f := cStr) (l := a0) 0 rfl fun hla0 => ?_;refine qb (qa [.p] (sa rfl rfl (qc (qb (qb (qa [.p, .p, .p] ?_))))));refine sm rfl rfl (su (qz (f := cStr) (l := a0) rfl Tryz.underlying22 rfl) rfl (sm rfl rfl (qc (ql (qu (γ := Nat × (List ByteArray)) (fun g => ([(0, .g (G.sl 1 (List.map cStr a0))), (1, .g (G.str a1)), (7, .g (G.int (List.length a0 : Int))), (8, .g (G.int ((g.1 : Nat) : Int)))], [])) (fun g => a0.drop g.1 = g.2 ∧ s148_l1 a1 g.2 g.1 = R) (fun g => List.length g.2) ⟨rfl, (0, a0), ⟨rfl, rfl, rfl, rfl, trivial⟩, trivial, rfl, ⟨rfl, hR⟩, trivial⟩ ?_)))))
 ·rintro ⟨k2, t4⟩ ⟨hd, hR⟩;replace hd : a0.drop k2 = t4 := hd;replace hR : s148_l1 a1 t4 k2 = R := hR;refine qb (qa [.p] (su (qy rfl rfl rfl) rfl (qc (zp (f := cStr) (l := a0) 0 rfl fun hlz1 => ?_))));refine qb (qi _ rfl (fun h1 => ?_) (fun h1 => ?_))
  ·replace h1 : (decide (((k2 : Nat) : Int) < (List.length a0 : Int))) = true := h1;obtain ⟨y3, t4, rfl, hx1, hd⟩ := zm hd (decT h1);replace h1 := decT h1;rw [s148_l1] at hR;(try dsimp only at hR);refine qm (qb (ql (qb (qa [.p, .p] (sm rfl rfl (sa rfl rfl ?_))))));refine qc (qb (qa [.p, .p, .p, .p, .p, .p] (sm rfl rfl (sm rfl rfl (sm rfl rfl (su (zu (f := cStr) (l := a0) (a := y3) rfl Tryz.underlying22 ty9 rfl rfl (Int.natCast_nonneg _) hx1) rfl ?_))))));refine su (qg rfl ty9 rfl) rfl (su (kx rfl rfl rfl) rfl (qc (qi _ rfl (fun h3 => ?_) (fun h3 => ?_))))
   ·replace hR := zl hR h3;refine qb (qa [.p, .p] (sm rfl rfl (sa rfl rfl (qc (qo ?_)))));subst hR;exact zd rfl (rv_g rfl)
   ·replace h3 : (decide (a1 = y3)) = false := h3;replace hR := zt hR h3;(try simp only [bB] at h3);refine qm (qa [.p, .p] (su (ze rfl rfl rfl iE) rfl (sm rfl rfl (qc ?_))));exact ⟨rfl, (k2 + 1, t4), ⟨rfl, rfl, rfl, rfl, trivial⟩, trivial, rfl, ⟨hd, hR⟩, by simp⟩
  ·replace h1 : (decide (((k2 : Nat) : Int) < (List.length a0 : Int))) = false := h1;obtain rfl := zz hd (decF h1);rw [s148_l1] at hR;refine zc ?_;refine qb (qa [.p] (sa rfl rfl (qc (qo ?_))));subst hR;exact zd rfl (rv_g rfl)
def s88 (a0 : List ByteArray) (a1 : ByteArray) : Bool :=
 decide (0 ≤ (s148 a0 a1))
theorem c88 {g : List (Nat × List Value)} (a0 : List ByteArray) (a1 : ByteArray)    : Con (EG g) 88 [G.sl 1 (List.map cStr a0), G.str a1] (G.bool (s88 a0 a1)) := by
 generalize hR : s88 a0 a1 = R;unfold s88 at hR;refine qp Tryz.func88 rfl rfl fun w0 M0 => ?_;refine zp (f := cStr) (l := a0) 0 rfl fun hla0 => ?_;refine qb (qa [.p] (sa rfl rfl (qc (qb (qa [.p, .p, .p, .p, .p] (sm rfl rfl ?_))))));refine sm rfl rfl (su (qf rfl K148 rfl (c148 a0 a1) (qd rfl (qd rfl qk))) rfl (su (vi rfl rfl rfl) rfl (sa rfl rfl (qc (qo ?_)))));subst hR;exact zd rfl (rv_g rfl)
def s92_l1 (a1 : ByteArray) : List ByteArray → Nat → Bool
 | [], k2 => false
 | y3 :: t4, k2 => (bif decide (y3 = a1) then true else s92_l1 a1 t4 (k2 + 1))
def s92 (a0 : List ByteArray) (a1 : ByteArray) : Bool :=
 s92_l1 a1 a0 0
def s101 (a0 : ByteArray) : Int :=
 (s86 ((!decide (a0 = (⟨#[65]⟩))) && (!decide (a0 = (⟨#[68]⟩)))) 13)
theorem c101 {g : List (Nat × List Value)} (a0 : ByteArray)    : Con (EG g) 101 [G.str a0] (G.int (s101 a0)) := by
 generalize hR : s101 a0 = R;unfold s101 at hR;refine qp Tryz.func101 rfl rfl fun w0 M0 => ?_;refine qb (qa [.p] (sa rfl rfl (qc (qb (qa [.p, .p, .p, .p, .p, .p, .p, .p] (sm rfl rfl ?_))))));refine su (ky rfl rfl rfl) rfl (sm rfl rfl (sg rfl rfl (fun h => qh rfl rfl) rfl (sg rfl rfl (fun h => ky rfl (gd h rfl) rfl) rfl (su (zk rfl rfl rfl rfl) rfl (su (qf rfl K86 rfl (c86 ((!decide (a0 = (⟨#[65]⟩))) && (!decide (a0 = (⟨#[68]⟩)))) 13) (qd rfl (qd rfl qk))) rfl (sa rfl rfl ?_))))));refine qc (qo ?_);subst hR;exact zd rfl (rv_g rfl)
def s150 (a0 : Bool) (a1 : Int) : Int :=
 (s86 a0 a1)
theorem c150 {g : List (Nat × List Value)} (a0 : Bool) (a1 : Int)    : Con (EG g) 150 [G.bool a0, G.int a1] (G.int (s150 a0 a1)) := by
 generalize hR : s150 a0 a1 = R;unfold s150 at hR;refine qp Tryz.func150 rfl rfl fun w0 M0 => ?_;refine qb (qa [.p] (sa rfl rfl (qc (qb (qa [.p, .p, .p, .p] (sm rfl rfl ?_))))));refine sm rfl rfl (su (qf rfl K86 rfl (c86 a0 a1) (qd rfl (qd rfl qk))) rfl (sa rfl rfl (qc (qo ?_))));subst hR;exact zd rfl (rv_g rfl)
def s151 (a0 : Int) : Int :=
 (s85 a0 0 99999)
theorem c151 {g : List (Nat × List Value)} (a0 : Int)    : Con (EG g) 151 [G.int a0] (G.int (s151 a0)) := by
 generalize hR : s151 a0 = R;unfold s151 at hR;refine qp Tryz.func151 rfl rfl fun w0 M0 => ?_;refine qb (qa [.p] (sa rfl rfl (qc (qb (qa [.p, .p, .p] (sm rfl rfl ?_))))));refine su (qf rfl K85 rfl (c85 a0 0 99999) (qd rfl (qd rfl (qd rfl qk)))) rfl (sa rfl rfl (qc (qo ?_)));subst hR;exact zd rfl (rv_g rfl)
def s149 (a0 : ByteArray) : Bool × Bool × Bool × Bool × Bool :=
 (!decide (a0 = (⟨#[119, 101, 97, 116, 104, 101, 114]⟩)), decide (a0 = (⟨#[102, 108, 121]⟩)), !decide (a0 = (⟨#[102, 108, 121]⟩)), decide (a0 = (⟨#[99, 97, 110, 99, 101, 108]⟩)), decide (a0 = (⟨#[98, 97, 99, 107]⟩)))
theorem c149 {g : List (Nat × List Value)} (a0 : ByteArray)    : Con (EG g) 149 [G.str a0] (G.tup [G.bool ((s149 a0).1), G.bool ((s149 a0).2.1), G.bool ((s149 a0).2.2.1), G.bool ((s149 a0).2.2.2.1), G.bool ((s149 a0).2.2.2.2)]) := by
 generalize hR : s149 a0 = R;unfold s149 at hR;refine qp Tryz.func149 rfl rfl fun w0 M0 => ?_;refine qb (qa [.p, .p, .p, .p, .p] (sa rfl rfl (sa rfl rfl (sa rfl rfl (sa rfl rfl (sa rfl rfl ?_))))));refine qc (qb (qa [.p, .p, .p, .p, .p, .p, .p, .p, .p, .p, .p, .p, .p, .p, .p] (sm rfl rfl (su (ky rfl rfl rfl) rfl (sm rfl rfl (su (kx rfl rfl rfl) rfl ?_))))));refine sm rfl rfl (su (ky rfl rfl rfl) rfl (sm rfl rfl (su (kx rfl rfl rfl) rfl (sm rfl rfl (su (kx rfl rfl rfl) rfl (sa rfl rfl ?_))))));refine sa rfl rfl (sa rfl rfl (sa rfl rfl (sa rfl rfl (qc (qo ?_)))));subst hR;exact resN rfl ⟨rv_g rfl, rv_g rfl, rv_g rfl, rv_g rfl, rv_g rfl, trivial⟩ (by simp)
def s97 (a0 : ByteArray) : Int :=
 (bif (!decide (a0 = (⟨#[65]⟩))) && (!decide (a0 = (⟨#[68]⟩))) then 13 else 0)
def s96 (a0 : Int) : Int :=
 (s90 a0 0 143999999)
def s109 (a0 : Int) : Int :=
 (s90 a0 0 99999)
theorem c109 {g : List (Nat × List Value)} (a0 : Int)    : Con (EG g) 109 [G.int a0] (G.int (s109 a0)) := by
 generalize hR : s109 a0 = R;unfold s109 at hR;refine qp Tryz.func109 rfl rfl fun w0 M0 => ?_;refine qb (qa [.p] (sa rfl rfl (qc (qb (qa [.p, .p, .p] (sm rfl rfl ?_))))));refine su (qf rfl K90 rfl (c90 a0 0 99999) (qd rfl (qd rfl (qd rfl qk)))) rfl (sa rfl rfl (qc (qo ?_)));subst hR;exact zd rfl (rv_g rfl)
def s18 (a0 : S23) : S23 :=
 a0
def s20_l1  : List S151 → Nat → (List S151) → List S151
 | [], k3, x1 => x1
 | y4 :: t5, k3, x1 => s20_l1  t5 (k3 + 1) (x1 ++ [y4])
def s20 (a0 : List S151) : List S151 :=
 s20_l1 a0 0 []
def s22_l1  : List S104 → Nat → (List S104) → List S104
 | [], k3, x1 => x1
 | y4 :: t5, k3, x1 => s22_l1  t5 (k3 + 1) (x1 ++ [y4])
def s22 (a0 : List S104) : List S104 :=
 s22_l1 a0 0 []
def s17_l1  : List ByteArray → Nat → Bool
 | [], k2 => true
 | y3 :: t4, k2 => (bif decide (60 < (ByteArray.size y3 : Int)) then false else s17_l1  t4 (k2 + 1))
def s17 (a0 : S23) : Bool :=
 (bif ((decide (4 < (List.length a0.Causes : Int))) && (decide ((List.length a0.Causes : Int) ≤ 16))) || (decide (18 < (List.length a0.Causes : Int))) then false else s17_l1 a0.Causes 0)
def s19_l1  : List S151 → Nat → Bool
 | [], k2 => true
 | y3 :: t4, k2 => (bif (decide (60 < (ByteArray.size y3.Name : Int))) || (decide (60 < (ByteArray.size y3.Kind : Int))) then false else s19_l1  t4 (k2 + 1))
def s19 (a0 : List S151) (a1 : Int) : Bool :=
 (bif ((decide (a1 < (List.length a0 : Int))) && (decide ((List.length a0 : Int) ≤ 512))) || (decide (514 < (List.length a0 : Int))) then false else s19_l1 a0 0)
def s21_l1  : List S104 → Nat → Bool
 | [], k2 => true
 | y3 :: t4, k2 => (bif (((decide (60 < (ByteArray.size y3.Kind : Int))) || (decide (60 < (ByteArray.size y3.Name : Int)))) || (decide (60 < (ByteArray.size y3.Move : Int)))) || (decide (60 < (ByteArray.size y3.Cause : Int))) then false else s21_l1  t4 (k2 + 1))
def s21 (a0 : List S104) (a1 : Int) : Bool :=
 (bif ((decide (a1 < (List.length a0 : Int))) && (decide ((List.length a0 : Int) ≤ 512))) || (decide (514 < (List.length a0 : Int))) then false else s21_l1 a0 0)
def s93_l1 (a1 : S151 → Int) : List S151 → Nat → (List Int) → List Int
 | [], k3, x1 => x1
 | y4 :: t5, k3, x1 => s93_l1 a1 t5 (k3 + 1) (x1 ++ [(a1 y4)])
def s93 (a0 : List S151) (a1 : S151 → Int) : List Int :=
 s93_l1 a1 a0 0 []
def s98_l1 (a1 : S104 → Int) : List S104 → Nat → (List Int) → List Int
 | [], k3, x1 => x1
 | y4 :: t5, k3, x1 => s98_l1 a1 t5 (k3 + 1) (x1 ++ [(a1 y4)])
def s98 (a0 : List S104) (a1 : S104 → Int) : List Int :=
 s98_l1 a1 a0 0 []
theorem c98 {g : List (Nat × List Value)} (a0 : List S104) (a1 : S104 → Int) {ca1 : G} {ia1 : FuncId} {ka1 : List G} (ha1 : FnIs ca1 ia1 ka1) (Ka1 : Known Tryz.prog ia1) (Ha1 : ∀ (x0 : S104), Con (EG g) ia1 ([G.agg [G.str x0.Kind, G.str x0.Name, G.int x0.Moment, G.str x0.Move, G.int x0.fFrom, G.int x0.fTo, G.str x0.Cause, G.int x0.Told]] ++ ka1) (G.int (a1 x0))) (hb0 : a0.length * 8 ≤ 140737488351232)  : Con (EG g) 98 [G.sl 8 (List.map S104.c a0), ca1] (G.sl 1 (List.map cInt (s98 a0 a1))) := by
 generalize hR : s98 a0 a1 = R;unfold s98 at hR;refine qp Tryz.func98 rfl rfl fun w0 M0 => ?_;refine zp (f := S104.c) (l := a0) 0 rfl fun hla0 => ?_;refine qb (qa [.w] (sw (jq 4 37 1 rfl rfl rfl) rfl (qc (qb (qa [.w] (sw (jq 5 37 1 rfl rfl rfl) rfl ?_))))));refine qc (qb (qb (qa [.p, .p, .p] (sm rfl rfl (su (qz (f := S104.c) (l := a0) rfl Tryz.underlying26 rfl) rfl (sm rfl rfl ?_))))));refine qc (ql (qu (γ := Nat × (List S104) × (List Int)) (fun g => ([(1, .g (ca1)), (5, .osl 5 1 0 (List.length g.2.2)), (8, .g (G.sl 8 (List.map S104.c a0))), (9, .g (G.int (List.length a0 : Int))), (10, .g (G.int ((g.1 : Nat) : Int)))], [(5, .arr 37 1 (List.map cInt g.2.2))])) (fun g => g.2.2.length ≤ g.1 ∧ a0.drop g.1 = g.2.1 ∧ s98_l1 a1 g.2.1 g.1 g.2.2 = R) (fun g => List.length g.2.1) ⟨rfl, (0, a0, []), ⟨rfl, rfl, rfl, rfl, rfl, trivial⟩, ⟨rfl, trivial⟩, rfl, ⟨iH, rfl, hR⟩, trivial⟩ ?_))
 ·rintro ⟨k3, t5, x1⟩ ⟨iv1_0, hd, hR⟩;replace hd : a0.drop k3 = t5 := hd;replace hR : s98_l1 a1 t5 k3 x1 = R := hR;replace iv1_0 : x1.length ≤ k3 := iv1_0;refine qb (qa [.p] (su (qy rfl rfl rfl) rfl (qc (zp (f := S104.c) (l := a0) 8 rfl fun hlz1 => ?_))));refine qb (qi _ rfl (fun h1 => ?_) (fun h1 => ?_))
  ·replace h1 : (decide (((k3 : Nat) : Int) < (List.length a0 : Int))) = true := h1;obtain ⟨y4, t5, rfl, hx1, hd⟩ := zm hd (decT h1);replace h1 := decT h1;rw [s98_l1] at hR;(try dsimp only at hR);refine qm (qb (ql (qb (qa [.p, .p, .w, .w] (su (zu (f := S104.c) (l := a0) (a := y4) rfl Tryz.underlying26 xp rfl rfl (Int.natCast_nonneg _) hx1) rfl (su (qv rfl xp rfl rfl rfl) rfl ?_))))));refine sw (zn 7 rfl z105 rfl rfl) rfl (js rfl rfl (zb (tv := .g (G.agg [G.str y4.Kind, G.str y4.Name, G.int y4.Moment, G.str y4.Move, G.int y4.fFrom, G.int y4.fTo, G.str y4.Cause, G.int y4.Told])) rfl xp rfl rfl rfl rfl rfl) (qc (qa [.p, .p, .r, .p, .p, .k, .p] (su (qn rfl rfl) rfl (sm rfl rfl (sr (z2 rfl xp rfl rfl rfl rfl) rfl ?_))))));refine su (jv rfl ha1 Ka1 rfl (Ha1 y4) (qd rfl qk)) rfl (su (qw rfl Tryz.underlying170 ty37 z37 rfl (za rfl jz) rfl (by simp []) (by decide)) rfl (st_k rfl rfl (ku (f := cInt) (out := x1) (new := [(a1 y4)]) rfl qtj rfl rfl (wg rfl (wi (by decide) (by simp []))) (qb2 rfl) (by simp; omega)) rfl (su (zh rfl rfl) rfl (qc (qa [.p, .p] (su (ze rfl rfl rfl iE) rfl ?_))))));refine sm rfl rfl (qc ?_);exact ⟨rfl, (k3 + 1, t5, x1 ++ [(a1 y4)]), ⟨rfl, rfl, rfl, rfl, rfl, trivial⟩, ⟨rfl, trivial⟩, rfl, ⟨iB, hd, hR⟩, by simp⟩
  ·replace h1 : (decide (((k3 : Nat) : Int) < (List.length a0 : Int))) = false := h1;obtain rfl := zz hd (decF h1);rw [s98_l1] at hR;refine zc ?_;refine qb (qa [.p, .p] (su (qn rfl rfl) rfl (su (zh rfl rfl) rfl (qc (qo ?_)))));subst hR;exact zd rfl (qiw rfl rfl)
def s91_l1  : List UInt8 → Nat → Bool
 | [], k2 => true
 | y3 :: t4, k2 => (bif (!(((decide (97 ≤ (y3.toNat : Int))) && (decide ((y3.toNat : Int) ≤ 122))) || ((decide (65 ≤ (y3.toNat : Int))) && (decide ((y3.toNat : Int) ≤ 90))))) && ((decide (((k2 : Nat) : Int) = 0)) || ((decide ((y3.toNat : Int) ≠ 95)) && ((decide ((y3.toNat : Int) < 48)) || (decide (57 < (y3.toNat : Int)))))) then false else s91_l1  t4 (k2 + 1))
def s91 (a0 : ByteArray) : Bool :=
 (bif (decide ((ByteArray.size a0 : Int) = 0)) || (decide (24 < (ByteArray.size a0 : Int))) then false else s91_l1 ((ByteArray.data a0).toList) 0)
def s147_l1  : List (Int × Int) → Bool
 | [] => true
 | y2 :: t3 => (bif (!(((decide (65 ≤ y2.2)) && (decide (y2.2 ≤ 90))) || ((decide (97 ≤ y2.2)) && (decide (y2.2 ≤ 122))))) && ((decide (y2.1 = 0)) || ((decide (y2.2 ≠ 95)) && ((decide (y2.2 < 48)) || (decide (57 < y2.2))))) then false else s147_l1 t3)
def s147 (a0 : ByteArray) : Bool :=
 (bif (decide ((ByteArray.size a0 : Int) = 0)) || (decide (24 < (ByteArray.size a0 : Int))) then false else s147_l1 (runes a0))
theorem c147 {g : List (Nat × List Value)} (a0 : ByteArray)    : Con (EG g) 147 [G.str a0] (G.bool (s147 a0)) := by
 generalize hR : s147 a0 = R;unfold s147 at hR;refine qp Tryz.func147 rfl rfl fun w0 M0 => ?_;refine qb (qa [.p] (sa rfl rfl (qc (qb (qb (qa [.p, .p, .p, .p, .p, .p, .p, .p] ?_))))));refine sm rfl rfl (su (qix rfl Tryz.underlying9 rfl) rfl (su (jk rfl rfl rfl) rfl (sm rfl rfl (sg rfl rfl (fun h => qh rfl rfl) rfl (sg rfl rfl (fun h => qix rfl Tryz.underlying9 (gd h rfl)) rfl (sg rfl rfl (fun h => jh rfl (gd h rfl) rfl) rfl ?_))))));refine su (ju rfl rfl rfl rfl) rfl (qc (qi _ rfl (fun h1 => ?_) (fun h1 => ?_)))
 ·replace hR := zl hR h1;refine qb (qa [.p] (sa rfl rfl (qc (qo ?_))));subst hR;exact zd rfl (rv_g rfl)
 ·replace h1 : ((decide ((ByteArray.size a0 : Int) = 0)) || (decide (24 < (ByteArray.size a0 : Int)))) = false := h1;replace hR := zt hR h1;(try simp only [bB] at h1);refine qm (qb (qb (qa [.p, .w] (sm rfl rfl (sw (qj9 15 rfl Tryz.underlying9 rfl rfl) rfl (qc ?_))))));refine ql (qu (γ := Nat × (List (Int × Int))) (fun g => ([(15, .ptr 15 0)], [(15, .it a0 g.1)])) (fun g => RunesAt a0 g.1 g.2 ∧ s147_l1 g.2 = R) (fun g => List.length g.2) ⟨rfl, (0, runes a0), ⟨rfl, trivial⟩, ⟨rfl, trivial⟩, rfl, ⟨qed _, hR⟩, trivial⟩ ?_)
  ·rintro ⟨p1, t3⟩ ⟨hP, hR⟩;replace hP : RunesAt a0 p1 t3 := hP;replace hR : s147_l1 t3 = R := hR
   cases t3 with
   | nil =>
    rw [s147_l1] at hR;refine qb (qa [.r, .p] (sr (qle rfl rfl rfl (qg8 hP)) rfl (su (qr rfl rfl rfl) rfl (qc (qb (qi _ rfl (fun h2 => ?_) (fun h2 => ?_)))))))
    ·exact Bool.noConfusion h2
    ·refine zc ?_;refine qb (qa [.p] (sa rfl rfl (qc (qo ?_))));subst hR;exact zd rfl (rv_g rfl)
   | cons y2 t3 =>
    obtain ⟨hlt, hy, hP⟩ := qfp hP;rw [s147_l1] at hR;refine qb (qa [.w, .p] (sw (qlh (y := y2) rfl rfl rfl hlt hy) rfl (su (qr rfl rfl rfl) rfl (qc (qb (qi _ rfl (fun h3 => ?_) (fun h3 => ?_)))))))
    ·refine qm (ql (qb (qa [.p, .p, .p, .p] (su (qr rfl rfl rfl) rfl (su (qr rfl rfl rfl) rfl (sa rfl rfl ?_))))));refine sa rfl rfl (qc (qb (qa [.p, .p, .p, .p, .p, .p, .p, .p, .p, .p, .p, .p, .p, .p, .p] (sm rfl rfl (su (vi rfl rfl rfl) rfl (sm rfl rfl ?_))))));refine sg rfl rfl (fun h => qh rfl rfl) rfl (sg rfl rfl (fun h => vq rfl (gd h rfl) rfl) rfl (su (zk rfl rfl rfl rfl) rfl (sm rfl rfl (sg rfl rfl (fun h => qh rfl rfl) rfl (sg rfl rfl (fun h => vi rfl (gd h rfl) rfl) rfl (sg rfl rfl (fun h => qh rfl (gd h rfl)) rfl ?_))))));refine st_g rfl rfl rfl (zr _ _ _) (fun h => qh rfl rfl) rfl (st_g rfl rfl rfl (zr _ _ _) (fun h => vq rfl (gd h rfl) rfl) rfl (sg rfl rfl (fun h => zk rfl (gd h rfl) rfl (gd2 h rfl)) rfl (su (ju rfl rfl rfl rfl) rfl (sa rfl rfl (qc (qb ?_))))));refine qa [.p, .p, .p, .p, .p, .p, .p, .p, .p, .p, .p, .p, .p, .p, .p, .p, .p, .p] (sm rfl rfl (su (kh rfl rfl) rfl (sm rfl rfl (sg rfl rfl (fun h => qh rfl rfl) rfl (sg rfl rfl (fun h => jk rfl (gd h rfl) rfl) rfl (sg rfl rfl (fun h => qh rfl (gd h rfl)) rfl ?_))))));refine st_g rfl rfl rfl (zr _ _ _) (fun h => qh rfl rfl) rfl (st_g rfl rfl rfl (zr _ _ _) (fun h => zw rfl (gd h rfl) rfl) rfl (st_g rfl rfl rfl (zr _ _ _) (fun h => qh rfl (gd h rfl)) rfl (st_g rfl rfl rfl (zr _ _ _) (fun h => qh rfl rfl) rfl (st_g rfl rfl rfl (zr _ _ _) (fun h => qy rfl (gd h rfl) rfl) rfl (st_g rfl rfl rfl (zr _ _ _) (fun h => qh rfl (gd h rfl)) rfl (st_g rfl rfl rfl (zr _ _ _) (fun h => qh rfl rfl) rfl ?_))))));refine st_g rfl rfl rfl (zr _ _ _) (fun h => jh rfl (gd h rfl) rfl) rfl (st_g rfl rfl rfl (zr _ _ _) (fun h => ju rfl (gd h rfl) rfl (gd2 h rfl)) rfl (st_g rfl rfl rfl (zr _ _ _) (fun h => zk rfl (gd h rfl) rfl (gd2 h rfl)) rfl (sg rfl rfl (fun h => ju rfl (gd h rfl) rfl (gd2 h rfl)) rfl (su (zk rfl rfl rfl rfl) rfl (qc (qi _ rfl (fun h4 => ?_) (fun h4 => ?_)))))))
     ·replace hR := zl hR h4;refine qb (qa [.p] (sa rfl rfl (qc (qo ?_))));subst hR;exact zd rfl (rv_g rfl)
     ·replace h4 : ((!(((decide (65 ≤ y2.2)) && (decide (y2.2 ≤ 90))) || ((decide (97 ≤ y2.2)) && (decide (y2.2 ≤ 122))))) && ((decide (y2.1 = 0)) || ((decide (y2.2 ≠ 95)) && ((decide (y2.2 < 48)) || (decide (57 < y2.2)))))) = false := h4;replace hR := zt hR h4;(try simp only [bB] at h4);refine qm ?_;exact ⟨rfl, ((p1 + (Utf8.decode a0 p1).2), t3), ⟨rfl, trivial⟩, ⟨rfl, trivial⟩, rfl, ⟨hP, hR⟩, by simp⟩
    ·exact Bool.noConfusion h3
def s95 (a0 : ByteArray) : Int :=
 (bif !(s91 a0) then 8 else 0)
def s24_l1 (a0 : S23) : List ByteArray → Nat → Int
 | [], k2 => (s89 [(s90 a0.Off 0 720), (s90 a0.Run 1 512)])
 | y3 :: t4, k2 => (bif !(s91 y3) then 8 else (bif (s92 (List.take (Int.toNat ((k2 : Nat) : Int)) a0.Causes) y3) then 9 else s24_l1 a0 t4 (k2 + 1)))
def s24 (a0 : S23) : Int :=
 (bif decide ((s89 [(s90 a0.Before 0 720), (s90 a0.After 0 720), (s90 a0.Notice 0 365), (s90 a0.Share 1 100)]) ≠ 0) then (s89 [(s90 a0.Before 0 720), (s90 a0.After 0 720), (s90 a0.Notice 0 365), (s90 a0.Share 1 100)]) else (bif decide (16 < (List.length a0.Causes : Int)) then 5 else s24_l1 a0 a0.Causes 0))
def s26_l1  : List S151 → Nat → Int
 | [], k2 => 0
 | y3 :: t4, k2 => (bif decide ((s89 [(s95 y3.Name), (s96 y3.Moment), (s97 y3.Kind)]) ≠ 0) then (s89 [(s95 y3.Name), (s96 y3.Moment), (s97 y3.Kind)]) else s26_l1  t4 (k2 + 1))
def s26 (a0 : List S151) : Int :=
 (bif decide (512 < (List.length a0 : Int)) then 5 else s26_l1 a0 0)
def s87 (a0 : ByteArray) : Int :=
 (s86 (!(s147 a0)) 8)
theorem c87 {g : List (Nat × List Value)} (a0 : ByteArray)    : Con (EG g) 87 [G.str a0] (G.int (s87 a0)) := by
 generalize hR : s87 a0 = R;unfold s87 at hR;refine qp Tryz.func87 rfl rfl fun w0 M0 => ?_;refine qb (qa [.p] (sa rfl rfl (qc (qb (qa [.p, .p, .p, .p, .p] (sm rfl rfl ?_))))));refine su (qf rfl K147 rfl (c147 a0) (qd rfl qk)) rfl (su (kh rfl rfl) rfl (su (qf rfl K86 rfl (c86 (!(s147 a0)) 8) (qd rfl (qd rfl qk))) rfl (sa rfl rfl (qc (qo ?_)))));subst hR;exact zd rfl (rv_g rfl)
def s94 (a0 : S151) : Int :=
 (s84 [(s87 a0.Name), (s85 a0.Moment 0 143999999), (s101 a0.Kind)])
def s25 (a0 : List S151) : Int :=
 (bif decide (512 < (List.length a0 : Int)) then 5 else (s84 (s93 a0 s94)))
def s23_l1 (a0 : S23) : List ByteArray → Nat → Int
 | [], k2 => (s84 [(s85 a0.Off 0 720), (s85 a0.Run 1 512)])
 | y3 :: t4, k2 => (bif decide ((s84 [(s87 y3), (s86 (s88 (List.take (Int.toNat ((k2 : Nat) : Int)) a0.Causes) y3) 9)]) ≠ 0) then (s84 [(s87 y3), (s86 (s88 (List.take (Int.toNat ((k2 : Nat) : Int)) a0.Causes) y3) 9)]) else s23_l1 a0 t4 (k2 + 1))
def s23 (a0 : S23) : Int :=
 (bif decide ((s84 [(s85 a0.Before 0 720), (s85 a0.After 0 720), (s85 a0.Notice 0 365), (s85 a0.Share 1 100), (s86 (decide (16 < (List.length a0.Causes : Int))) 5)]) ≠ 0) then (s84 [(s85 a0.Before 0 720), (s85 a0.After 0 720), (s85 a0.Notice 0 365), (s85 a0.Share 1 100), (s86 (decide (16 < (List.length a0.Causes : Int))) 5)]) else s23_l1 a0 a0.Causes 0)
theorem c23 {g : List (Nat × List Value)} (a0 : S23)    : Con (EG g) 23 [G.agg [G.int a0.Before, G.int a0.After, G.int a0.Notice, G.int a0.Share, G.sl 1 (List.map cStr a0.Causes), G.int a0.Off, G.int a0.Run]] (G.int (s23 a0)) := by
 generalize hR : s23 a0 = R;unfold s23 at hR;refine qp Tryz.func23 rfl rfl fun w0 M0 => ?_;refine qb (qa [.p, .p] (su (zo rfl rfl) rfl (sa rfl rfl (qc (qb (qb ?_))))));refine z0 [.p, .p, .p, .p, .p, .p, .p, .p, .p, .p, .p, .p, .p, .p, .p, .p, .p, .p, .p, .p] (by kernel_rfl) (su (qe rfl qpv rfl) rfl (su (qg rfl ty3 rfl) rfl (su (qf rfl K85 rfl (c85 a0.Before 0 720) (qd rfl (qd rfl (qd rfl qk)))) rfl (su (qe rfl qpw rfl) rfl (su (qg rfl ty3 rfl) rfl (su (qf rfl K85 rfl (c85 a0.After 0 720) (qd rfl (qd rfl (qd rfl qk)))) rfl ?_))))));refine su (qe rfl qpx rfl) rfl (su (qg rfl ty3 rfl) rfl (su (qf rfl K85 rfl (c85 a0.Notice 0 365) (qd rfl (qd rfl (qd rfl qk)))) rfl (su (qe rfl qpy rfl) rfl (su (qg rfl ty3 rfl) rfl (su (qf rfl K85 rfl (c85 a0.Share 1 100) (qd rfl (qd rfl (qd rfl qk)))) rfl (su (qe rfl qiy rfl) rfl ?_))))));refine su (qg rfl ty22 rfl) rfl (su (qz (f := cStr) (l := a0.Causes) rfl Tryz.underlying22 rfl) rfl (su (jh rfl rfl rfl) rfl (su (qf rfl K86 rfl (c86 (decide (16 < (List.length a0.Causes : Int))) 5) (qd rfl (qd rfl qk))) rfl (su (qw rfl Tryz.underlying170 ty37 z37 rfl (za rfl (za rfl (za rfl (za rfl (za rfl jz))))) rfl (by simp []) (by decide)) rfl (su (qf rfl K84 rfl (c84 [(s85 a0.Before 0 720), (s85 a0.After 0 720), (s85 a0.Notice 0 365), (s85 a0.Share 1 100), (s86 (decide (16 < (List.length a0.Causes : Int))) 5)]) (qd rfl qk)) rfl (sa rfl rfl ?_))))));refine qc (qb (qa [.p, .p] (sm rfl rfl (su (zw rfl rfl rfl) rfl (qc (qi _ rfl (fun h1 => ?_) (fun h1 => ?_)))))))
 ·replace hR := zl hR h1;refine qb (qa [.p, .p] (sm rfl rfl (sa rfl rfl (qc (qo ?_)))));subst hR;exact zd rfl (rv_g rfl)
 ·replace h1 : (decide ((s84 [(s85 a0.Before 0 720), (s85 a0.After 0 720), (s85 a0.Notice 0 365), (s85 a0.Share 1 100), (s86 (decide (16 < (List.length a0.Causes : Int))) 5)]) ≠ 0)) = false := h1;replace hR := zt hR h1;(try simp only [bB] at h1);refine qm (qb (qb (qa [.p, .p, .p, .p] (su (qe rfl qiy rfl) rfl (su (qg rfl ty22 rfl) rfl (su (qz (f := cStr) (l := a0.Causes) rfl Tryz.underlying22 rfl) rfl ?_))))));refine sm rfl rfl (qc (ql (qu (γ := Nat × (List ByteArray)) (fun g => ([(1, .g (G.ref [G.int a0.Before, G.int a0.After, G.int a0.Notice, G.int a0.Share, G.sl 1 (List.map cStr a0.Causes), G.int a0.Off, G.int a0.Run])), (30, .g (G.sl 1 (List.map cStr a0.Causes))), (31, .g (G.int (List.length a0.Causes : Int))), (32, .g (G.int ((g.1 : Nat) : Int)))], [])) (fun g => a0.Causes.drop g.1 = g.2 ∧ s23_l1 a0 g.2 g.1 = R) (fun g => List.length g.2) ⟨rfl, (0, a0.Causes), ⟨rfl, rfl, rfl, rfl, trivial⟩, trivial, rfl, ⟨rfl, hR⟩, trivial⟩ ?_)))
  ·rintro ⟨k2, t4⟩ ⟨hd, hR⟩;replace hd : a0.Causes.drop k2 = t4 := hd;replace hR : s23_l1 a0 t4 k2 = R := hR;refine qb (qa [.p] (su (qy rfl rfl rfl) rfl (qc (zp (f := cStr) (l := a0.Causes) 30 rfl fun hlz1 => ?_))));refine qb (qi _ rfl (fun h2 => ?_) (fun h2 => ?_))
   ·replace h2 : (decide (((k2 : Nat) : Int) < (List.length a0.Causes : Int))) = true := h2;obtain ⟨y3, t4, rfl, hx1, hd⟩ := zm hd (decT h2);replace h2 := decT h2;rw [s23_l1] at hR;(try dsimp only at hR);refine qm (qb (ql (qb (qa [.p, .p, .p, .p, .p] (sm rfl rfl (su (zu (f := cStr) (l := a0.Causes) (a := y3) rfl Tryz.underlying22 ty9 rfl rfl (Int.natCast_nonneg _) hx1) rfl ?_))))));refine su (qg rfl ty9 rfl) rfl (sa rfl rfl (sa rfl rfl (qc (qb (z0 [.p, .p, .p, .p, .p, .p, .p, .p, .p, .p, .p, .p] (by kernel_rfl) (sm rfl rfl ?_))))));refine su (qf rfl K87 rfl (c87 y3) (qd rfl qk)) rfl (su (qe rfl qiy rfl) rfl (su (qg rfl ty22 rfl) rfl (sm rfl rfl (su (qlb (f := cStr) (l := a0.Causes) rfl Tryz.underlying22 ty9 rfl qim (qin rfl (Int.natCast_nonneg _)) (Nat.zero_le _) (qpz hx1)) rfl (sm rfl rfl (su (qf rfl K88 rfl (c88 (List.take (Int.toNat ((k2 : Nat) : Int)) a0.Causes) y3) (qd rfl (qd rfl qk))) rfl ?_))))));refine su (qf rfl K86 rfl (c86 (s88 (List.take (Int.toNat ((k2 : Nat) : Int)) a0.Causes) y3) 9) (qd rfl (qd rfl qk))) rfl (su (qw rfl Tryz.underlying170 ty37 z37 rfl (za rfl (za rfl jz)) rfl (by simp []) (by decide)) rfl (su (qf rfl K84 rfl (c84 [(s87 y3), (s86 (s88 (List.take (Int.toNat ((k2 : Nat) : Int)) a0.Causes) y3) 9)]) (qd rfl qk)) rfl (sa rfl rfl (qc (qb (qa [.p, .p] ?_))))));refine sm rfl rfl (su (zw rfl rfl rfl) rfl (qc (qi _ rfl (fun h4 => ?_) (fun h4 => ?_))))
    ·replace hR := zl hR h4;refine qb (qa [.p, .p] (sm rfl rfl (sa rfl rfl (qc (qo ?_)))));subst hR;exact zd rfl (rv_g rfl)
    ·replace h4 : (decide ((s84 [(s87 y3), (s86 (s88 (List.take (Int.toNat ((k2 : Nat) : Int)) a0.Causes) y3) 9)]) ≠ 0)) = false := h4;replace hR := zt hR h4;(try simp only [bB] at h4);refine qm (qa [.p, .p] (su (ze rfl rfl rfl iE) rfl (sm rfl rfl (qc ?_))));exact ⟨rfl, (k2 + 1, t4), ⟨rfl, rfl, rfl, rfl, trivial⟩, trivial, rfl, ⟨hd, hR⟩, by simp⟩
   ·replace h2 : (decide (((k2 : Nat) : Int) < (List.length a0.Causes : Int))) = false := h2;obtain rfl := zz hd (decF h2);rw [s23_l1] at hR;refine zc ?_;refine qb (z0 [.p, .p, .p, .p, .p, .p, .p, .p, .p] (by kernel_rfl) (su (qe rfl qtk rfl) rfl (su (qg rfl ty3 rfl) rfl (su (qf rfl K85 rfl (c85 a0.Off 0 720) (qd rfl (qd rfl (qd rfl qk)))) rfl (su (qe rfl qtl rfl) rfl (su (qg rfl ty3 rfl) rfl ?_))))));refine su (qf rfl K85 rfl (c85 a0.Run 1 512) (qd rfl (qd rfl (qd rfl qk)))) rfl (su (qw rfl Tryz.underlying170 ty37 z37 rfl (za rfl (za rfl jz)) rfl (by simp []) (by decide)) rfl (su (qf rfl K84 rfl (c84 [(s85 a0.Off 0 720), (s85 a0.Run 1 512)]) (qd rfl qk)) rfl (sa rfl rfl (qc (qo ?_)))));subst hR;exact zd rfl (rv_g rfl)
def s188 (a0 : Int) : Int :=
 Int.tmod (IntKind.i64.wrap (a0 + 5)) 7
theorem c188 {g : List (Nat × List Value)} (a0 : Int)    : Con (EG g) 188 [G.int a0] (G.int (s188 a0)) := by
 generalize hR : s188 a0 = R;unfold s188 at hR;refine qp Tryz.func188 rfl rfl fun w0 M0 => ?_;refine qb (qa [.p] (sa rfl rfl (qc (qb (qa [.p, .p, .p, .p] (sm rfl rfl ?_))))));refine su (jm rfl rfl rfl) rfl (su (wz rfl rfl rfl (by decide)) rfl (sa rfl rfl (qc (qo ?_))));subst hR;exact zd rfl (rv_g rfl)
def s153 (a0 : Int) : Int :=
 (s155 a0 0 99999)
theorem c153 {g : List (Nat × List Value)} (a0 : Int)    : Con (EG g) 153 [G.int a0] (G.int (s153 a0)) := by
 generalize hR : s153 a0 = R;unfold s153 at hR;refine qp Tryz.func153 rfl rfl fun w0 M0 => ?_;refine qb (qa [.p] (sa rfl rfl (qc (qb (qa [.p, .p, .p] (sm rfl rfl ?_))))));refine su (qf rfl K155 rfl (c155 a0 0 99999) (qd rfl (qd rfl (qd rfl qk)))) rfl (sa rfl rfl (qc (qo ?_)));subst hR;exact zd rfl (rv_g rfl)
def s102 (a0 : S45) : Int :=
 (bif decide ((s152 [(s153 a0.fFrom), (s153 a0.fTo)]) ≠ 0) then (s152 [(s153 a0.fFrom), (s153 a0.fTo)]) else (s152 [(s154 (decide (a0.fTo < a0.fFrom)) 11), (s154 (decide (400 < IntKind.i64.wrap (a0.fTo - a0.fFrom))) 4), (s155 a0.Days 1 127)]))
theorem c102 {g : List (Nat × List Value)} (a0 : S45)    : Con (EG g) 102 [G.agg [G.int a0.fFrom, G.int a0.fTo, G.int a0.Days]] (G.int (s102 a0)) := by
 generalize hR : s102 a0 = R;unfold s102 at hR;refine qp Tryz.func102 rfl rfl fun w0 M0 => ?_;refine qb (qa [.p, .p] (su (zo rfl rfl) rfl (sa rfl rfl (qc (qb (qb ?_))))));refine z0 [.p, .p, .p, .p, .p, .p, .p, .p, .p] (by kernel_rfl) (su (qe rfl qbj rfl) rfl (su (qg rfl ty3 rfl) rfl (su (qf rfl K153 rfl (c153 a0.fFrom) (qd rfl qk)) rfl (su (qe rfl qaa rfl) rfl (su (qg rfl ty3 rfl) rfl (su (qf rfl K153 rfl (c153 a0.fTo) (qd rfl qk)) rfl ?_))))));refine su (qw rfl Tryz.underlying170 ty37 z37 rfl (za rfl (za rfl jz)) rfl (by simp []) (by decide)) rfl (su (qf rfl K152 rfl (c152 [(s153 a0.fFrom), (s153 a0.fTo)]) (qd rfl qk)) rfl (sa rfl rfl (qc (qb (qa [.p, .p] (sm rfl rfl ?_))))));refine su (zw rfl rfl rfl) rfl (qc (qi _ rfl (fun h1 => ?_) (fun h1 => ?_)))
 ·replace hR := zl hR h1;refine qb (qa [.p, .p] (sm rfl rfl (sa rfl rfl (qc (qo ?_)))));subst hR;exact zd rfl (rv_g rfl)
 ·replace h1 : (decide ((s152 [(s153 a0.fFrom), (s153 a0.fTo)]) ≠ 0)) = false := h1;replace hR := zt hR h1;(try simp only [bB] at h1);refine qm (qb (z0 [.p, .p, .p, .p, .p, .p, .p, .p, .p, .p, .p, .p, .p, .p, .p, .p, .p, .p, .p] (by kernel_rfl) (su (qe rfl qaa rfl) rfl (su (qg rfl ty3 rfl) rfl (su (qe rfl qbj rfl) rfl (su (qg rfl ty3 rfl) rfl ?_))))));refine su (qy rfl rfl rfl) rfl (su (qf rfl K154 rfl (c154 (decide (a0.fTo < a0.fFrom)) 11) (qd rfl (qd rfl qk))) rfl (su (qe rfl qaa rfl) rfl (su (qg rfl ty3 rfl) rfl (su (qe rfl qbj rfl) rfl (su (qg rfl ty3 rfl) rfl (su (jn rfl rfl rfl) rfl ?_))))));refine su (jh rfl rfl rfl) rfl (su (qf rfl K154 rfl (c154 (decide (400 < IntKind.i64.wrap (a0.fTo - a0.fFrom))) 4) (qd rfl (qd rfl qk))) rfl (su (qe rfl qls rfl) rfl (su (qg rfl ty3 rfl) rfl (su (qf rfl K155 rfl (c155 a0.Days 1 127) (qd rfl (qd rfl (qd rfl qk)))) rfl (su (qw rfl Tryz.underlying170 ty37 z37 rfl (za rfl (za rfl (za rfl jz))) rfl (by simp []) (by decide)) rfl (su (qf rfl K152 rfl (c152 [(s154 (decide (a0.fTo < a0.fFrom)) 11), (s154 (decide (400 < IntKind.i64.wrap (a0.fTo - a0.fFrom))) 4), (s155 a0.Days 1 127)]) (qd rfl qk)) rfl ?_))))));refine sa rfl rfl (qc (qo ?_));subst hR;exact zd rfl (rv_g rfl)
end Go.Sim
set_option maxRecDepth 10000
namespace Go.Sim
open Go.Proofs
def s100_j1  (x9 : Int) : Int :=
 x9
def s100_j2  (x1 : Int) (x2 : ByteArray) (x3 : Int) (x4 : ByteArray) (x5 : Int) (x6 : Int) (x7 : ByteArray) (x8 : Int) : Int :=
 (bif (decide (x1 = 0)) && (!(eqAnd [decide ((⟨#[]⟩ : ByteArray) = ByteArray.empty), decide (x2 = ByteArray.empty), decide (x3 = 0), decide (x4 = ByteArray.empty), decide (x5 = 0), decide (x6 = 0), decide (x7 = ByteArray.empty), decide (x8 = 0)])) then s100_j1 1 else s100_j1 x1)
def s100_j3 (a0 : S104) (x12 : ByteArray) (x14 : Int) (x15 : ByteArray) : Int :=
 (bif decide (a0.Kind = (⟨#[98, 97, 99, 107]⟩)) then s100_j2 (s89 [x14, (s109 a0.Told)]) x12 a0.Moment a0.Move 0 0 x15 0 else s100_j2 x14 x12 a0.Moment a0.Move 0 0 x15 a0.Told)
def s100_j4 (a0 : S104) (x12 : ByteArray) (x13 : Int) : Int :=
 (bif decide (a0.Kind = (⟨#[99, 97, 110, 99, 101, 108]⟩)) then s100_j3 a0 x12 (s89 [x13, (s95 a0.Cause)]) (⟨#[]⟩) else s100_j3 a0 x12 x13 a0.Cause)
def s100_j5 (a0 : S104) (x11 : Int) (x12 : ByteArray) : Int :=
 (bif (decide ((s89 [x11, (s109 a0.fFrom), (s109 a0.fTo)]) = 0)) && (decide (a0.fTo < a0.fFrom)) then s100_j4 a0 x12 11 else s100_j4 a0 x12 (s89 [x11, (s109 a0.fFrom), (s109 a0.fTo)]))
def s100_j6 (a0 : S104) (x10 : Bool) : Int :=
 (bif x10 then (bif !decide (a0.Kind = (⟨#[119, 101, 97, 116, 104, 101, 114]⟩)) then s100_j5 a0 (s95 a0.Name) (⟨#[]⟩) else s100_j5 a0 0 a0.Name) else 13)
def s100 (a0 : S104) : Int :=
 (bif decide (a0.Kind = (⟨#[102, 108, 121]⟩)) then s100_j2 (s89 [(s95 a0.Name), (s96 a0.Moment), (s97 a0.Move)]) (⟨#[]⟩) 0 (⟨#[]⟩) a0.fFrom a0.fTo a0.Cause a0.Told else (bif decide (a0.Kind = (⟨#[98, 97, 99, 107]⟩)) then s100_j6 a0 (decide (a0.Kind = (⟨#[98, 97, 99, 107]⟩))) else (bif decide (a0.Kind = (⟨#[99, 97, 110, 99, 101, 108]⟩)) then s100_j6 a0 (decide (a0.Kind = (⟨#[99, 97, 110, 99, 101, 108]⟩))) else s100_j6 a0 (decide (a0.Kind = (⟨#[119, 101, 97, 116, 104, 101, 114]⟩))))))
def s28_l1  : List S104 → Nat → Int
 | [], k2 => 0
 | y3 :: t4, k2 => (bif decide ((s100 y3) ≠ 0) then (s100 y3) else s28_l1  t4 (k2 + 1))
def s28 (a0 : List S104) : Int :=
 (bif decide (512 < (List.length a0 : Int)) then 5 else s28_l1 a0 0)
def s99 (a0 : S104) : Int :=
 (bif !(s88 [⟨#[102, 108, 121]⟩, ⟨#[98, 97, 99, 107]⟩, ⟨#[99, 97, 110, 99, 101, 108]⟩, ⟨#[119, 101, 97, 116, 104, 101, 114]⟩] a0.Kind) then 13 else (s84 [(s150 ((s149 a0.Kind).1) (s87 a0.Name)), (s150 ((s149 a0.Kind).2.1) (s85 a0.Moment 0 143999999)), (s150 ((s149 a0.Kind).2.1) (s101 a0.Move)), (s150 ((s149 a0.Kind).2.2.1) (s151 a0.fFrom)), (s150 ((s149 a0.Kind).2.2.1) (s151 a0.fTo)), (s150 ((s149 a0.Kind).2.2.1) (s86 (decide (a0.fTo < a0.fFrom)) 11)), (s150 ((s149 a0.Kind).2.2.2.1) (s87 a0.Cause)), (s150 ((s149 a0.Kind).2.2.2.2) (s151 a0.Told)), (s86 ((((((!((s149 a0.Kind).1)) && (!decide (a0.Name = (⟨#[]⟩)))) || ((!((s149 a0.Kind).2.1)) && ((decide (a0.Moment ≠ 0)) || (!decide (a0.Move = (⟨#[]⟩)))))) || ((!((s149 a0.Kind).2.2.1)) && ((decide (a0.fFrom ≠ 0)) || (decide (a0.fTo ≠ 0))))) || ((!((s149 a0.Kind).2.2.2.1)) && (!decide (a0.Cause = (⟨#[]⟩))))) || ((!((s149 a0.Kind).2.2.2.2)) && (decide (a0.Told ≠ 0)))) 1)]))
theorem c99 {g : List (Nat × List Value)} (a0 : S104)    : Con (EG g) 99 [G.agg [G.str a0.Kind, G.str a0.Name, G.int a0.Moment, G.str a0.Move, G.int a0.fFrom, G.int a0.fTo, G.str a0.Cause, G.int a0.Told]] (G.int (s99 a0)) := by
 generalize hR : s99 a0 = R;unfold s99 at hR;refine qp Tryz.func99 rfl rfl fun w0 M0 => ?_;refine qb (qa [.p, .p] (su (zo rfl rfl) rfl (sa rfl rfl (qc (qb (qb ?_))))));refine qa [.p, .p, .p, .p, .p] (su (qw rfl Tryz.underlying22 ty9 z9 rfl (za rfl (za rfl (za rfl (za rfl jz)))) rfl (by simp []) (by decide)) rfl (su (qe rfl qba rfl) rfl (su (qg rfl ty9 rfl) rfl (su (qf rfl K88 rfl (c88 [⟨#[102, 108, 121]⟩, ⟨#[98, 97, 99, 107]⟩, ⟨#[99, 97, 110, 99, 101, 108]⟩, ⟨#[119, 101, 97, 116, 104, 101, 114]⟩] a0.Kind) (qd rfl (qd rfl qk))) rfl (su (kh rfl rfl) rfl (qc ?_))))));refine qi _ rfl (fun h1 => ?_) (fun h1 => ?_)
 ·replace hR := zl hR h1;refine qb (qa [.p] (sa rfl rfl (qc (qo ?_))));subst hR;exact zd rfl (rv_g rfl)
 ·replace h1 : (!(s88 [⟨#[102, 108, 121]⟩, ⟨#[98, 97, 99, 107]⟩, ⟨#[99, 97, 110, 99, 101, 108]⟩, ⟨#[119, 101, 97, 116, 104, 101, 114]⟩] a0.Kind)) = false := h1;replace hR := zt hR h1;(try simp only [bB] at h1);refine qm (qb (qa [.p, .p, .p, .p, .p, .p, .p, .p, .p, .p, .p, .p, .p, .p] (su (qe rfl qba rfl) rfl (su (qg rfl ty9 rfl) rfl (su (qf rfl K149 rfl (c149 a0.Kind) (qd rfl qk)) rfl (sm rfl rfl ?_))))));refine su (qr rfl rfl rfl) rfl (su (qr rfl rfl rfl) rfl (su (qr rfl rfl rfl) rfl (su (qr rfl rfl rfl) rfl (su (qr rfl rfl rfl) rfl (sa rfl rfl (sa rfl rfl ?_))))));refine sa rfl rfl (sa rfl rfl (sa rfl rfl (qc (qb (qa [.p, .p, .p, .p, .p, .p, .p, .p, .p, .p, .p, .p, .p, .p, .p, .p, .p, .p, .p, .p, .p, .p, .p, .p, .p, .p, .p, .p, .p, .p, .p, .p, .p, .p, .p, .p, .p, .p, .p, .p, .p, .p, .p, .p, .p, .p, .p, .p, .p, .p, .p, .p, .p, .p] (sm rfl rfl ?_))))));refine su (kh rfl rfl) rfl (sm rfl rfl (sg rfl rfl (fun h => qe rfl qb8 rfl) rfl (sg rfl rfl (fun h => qg rfl ty9 (gd h rfl)) rfl (sg rfl rfl (fun h => ky rfl (gd h rfl) rfl) rfl (su (zk rfl rfl rfl rfl) rfl (sm rfl rfl ?_))))));refine sg rfl rfl (fun h => qh rfl rfl) rfl (sg rfl rfl (fun h => kh rfl (gd h rfl)) rfl (sg rfl rfl (fun h => qh rfl (gd h rfl)) rfl (st_g rfl rfl rfl (zr _ _ _) (fun h => qe rfl qhf rfl) rfl (st_g rfl rfl rfl (zr _ _ _) (fun h => qg rfl ty3 (gd h rfl)) rfl (st_g rfl rfl rfl (zr _ _ _) (fun h => zw rfl (gd h rfl) rfl) rfl (st_g rfl rfl rfl (zr _ _ _) (fun h => qh rfl (gd h rfl)) rfl ?_))))));refine st_g rfl rfl rfl (zr _ _ _) (fun h => qe rfl qhg rfl) rfl (st_g rfl rfl rfl (zr _ _ _) (fun h => qg rfl ty9 (gd h rfl)) rfl (st_g rfl rfl rfl (zr _ _ _) (fun h => ky rfl (gd h rfl) rfl) rfl (st_g rfl rfl rfl (zr _ _ _) (fun h => ju rfl (gd h rfl) rfl (gd2 h rfl)) rfl (sg rfl rfl (fun h => zk rfl (gd h rfl) rfl (gd2 h rfl)) rfl (su (ju rfl rfl rfl rfl) rfl (sm rfl rfl ?_))))));refine sg rfl rfl (fun h => qh rfl rfl) rfl (sg rfl rfl (fun h => kh rfl (gd h rfl)) rfl (sg rfl rfl (fun h => qh rfl (gd h rfl)) rfl (st_g rfl rfl rfl (zr _ _ _) (fun h => qe rfl qef rfl) rfl (st_g rfl rfl rfl (zr _ _ _) (fun h => qg rfl ty3 (gd h rfl)) rfl (st_g rfl rfl rfl (zr _ _ _) (fun h => zw rfl (gd h rfl) rfl) rfl (st_g rfl rfl rfl (zr _ _ _) (fun h => qh rfl (gd h rfl)) rfl ?_))))));refine st_g rfl rfl rfl (zr _ _ _) (fun h => qe rfl qeg rfl) rfl (st_g rfl rfl rfl (zr _ _ _) (fun h => qg rfl ty3 (gd h rfl)) rfl (st_g rfl rfl rfl (zr _ _ _) (fun h => zw rfl (gd h rfl) rfl) rfl (st_g rfl rfl rfl (zr _ _ _) (fun h => ju rfl (gd h rfl) rfl (gd2 h rfl)) rfl (sg rfl rfl (fun h => zk rfl (gd h rfl) rfl (gd2 h rfl)) rfl (su (ju rfl rfl rfl rfl) rfl (sm rfl rfl ?_))))));refine sg rfl rfl (fun h => qh rfl rfl) rfl (sg rfl rfl (fun h => kh rfl (gd h rfl)) rfl (sg rfl rfl (fun h => qh rfl (gd h rfl)) rfl (st_g rfl rfl rfl (zr _ _ _) (fun h => qe rfl qhh rfl) rfl (st_g rfl rfl rfl (zr _ _ _) (fun h => qg rfl ty9 (gd h rfl)) rfl (st_g rfl rfl rfl (zr _ _ _) (fun h => ky rfl (gd h rfl) rfl) rfl (sg rfl rfl (fun h => zk rfl (gd h rfl) rfl (gd2 h rfl)) rfl ?_))))));refine su (ju rfl rfl rfl rfl) rfl (sm rfl rfl (sg rfl rfl (fun h => qh rfl rfl) rfl (sg rfl rfl (fun h => kh rfl (gd h rfl)) rfl (sg rfl rfl (fun h => qh rfl (gd h rfl)) rfl (st_g rfl rfl rfl (zr _ _ _) (fun h => qe rfl qhi rfl) rfl (st_g rfl rfl rfl (zr _ _ _) (fun h => qg rfl ty3 (gd h rfl)) rfl ?_))))));refine st_g rfl rfl rfl (zr _ _ _) (fun h => zw rfl (gd h rfl) rfl) rfl (sg rfl rfl (fun h => zk rfl (gd h rfl) rfl (gd2 h rfl)) rfl (su (ju rfl rfl rfl rfl) rfl (sa rfl rfl (qc (qb (z0 [.p, .p, .p, .p, .p, .p, .p, .p, .p, .p, .p, .p, .p, .p, .p, .p, .p, .p, .p, .p, .p, .p, .p, .p, .p, .p, .p, .p, .p, .p, .p, .p, .p, .p, .p, .p, .p, .p, .p, .p, .p, .p, .p, .p, .p, .p, .p, .p] (by kernel_rfl) ?_))))));refine sm rfl rfl (su (qe rfl qb8 rfl) rfl (su (qg rfl ty9 rfl) rfl (su (qf rfl K87 rfl (c87 a0.Name) (qd rfl qk)) rfl (su (qf rfl K150 rfl (c150 ((s149 a0.Kind).1) (s87 a0.Name)) (qd rfl (qd rfl qk))) rfl (sm rfl rfl (su (qe rfl qhf rfl) rfl ?_))))));refine su (qg rfl ty3 rfl) rfl (su (qf rfl K85 rfl (c85 a0.Moment 0 143999999) (qd rfl (qd rfl (qd rfl qk)))) rfl (su (qf rfl K150 rfl (c150 ((s149 a0.Kind).2.1) (s85 a0.Moment 0 143999999)) (qd rfl (qd rfl qk))) rfl (sm rfl rfl (su (qe rfl qhg rfl) rfl (su (qg rfl ty9 rfl) rfl (su (qf rfl K101 rfl (c101 a0.Move) (qd rfl qk)) rfl ?_))))));refine su (qf rfl K150 rfl (c150 ((s149 a0.Kind).2.1) (s101 a0.Move)) (qd rfl (qd rfl qk))) rfl (sm rfl rfl (su (qe rfl qef rfl) rfl (su (qg rfl ty3 rfl) rfl (su (qf rfl K151 rfl (c151 a0.fFrom) (qd rfl qk)) rfl (su (qf rfl K150 rfl (c150 ((s149 a0.Kind).2.2.1) (s151 a0.fFrom)) (qd rfl (qd rfl qk))) rfl (sm rfl rfl ?_))))));refine su (qe rfl qeg rfl) rfl (su (qg rfl ty3 rfl) rfl (su (qf rfl K151 rfl (c151 a0.fTo) (qd rfl qk)) rfl (su (qf rfl K150 rfl (c150 ((s149 a0.Kind).2.2.1) (s151 a0.fTo)) (qd rfl (qd rfl qk))) rfl (sm rfl rfl (su (qe rfl qeg rfl) rfl (su (qg rfl ty3 rfl) rfl ?_))))));refine su (qe rfl qef rfl) rfl (su (qg rfl ty3 rfl) rfl (su (qy rfl rfl rfl) rfl (su (qf rfl K86 rfl (c86 (decide (a0.fTo < a0.fFrom)) 11) (qd rfl (qd rfl qk))) rfl (su (qf rfl K150 rfl (c150 ((s149 a0.Kind).2.2.1) (s86 (decide (a0.fTo < a0.fFrom)) 11)) (qd rfl (qd rfl qk))) rfl (sm rfl rfl (su (qe rfl qhh rfl) rfl ?_))))));refine su (qg rfl ty9 rfl) rfl (su (qf rfl K87 rfl (c87 a0.Cause) (qd rfl qk)) rfl (su (qf rfl K150 rfl (c150 ((s149 a0.Kind).2.2.2.1) (s87 a0.Cause)) (qd rfl (qd rfl qk))) rfl (sm rfl rfl (su (qe rfl qhi rfl) rfl (su (qg rfl ty3 rfl) rfl (su (qf rfl K151 rfl (c151 a0.Told) (qd rfl qk)) rfl ?_))))));refine su (qf rfl K150 rfl (c150 ((s149 a0.Kind).2.2.2.2) (s151 a0.Told)) (qd rfl (qd rfl qk))) rfl (sm rfl rfl (su (qf rfl K86 rfl (c86 ((((((!((s149 a0.Kind).1)) && (!decide (a0.Name = (⟨#[]⟩)))) || ((!((s149 a0.Kind).2.1)) && ((decide (a0.Moment ≠ 0)) || (!decide (a0.Move = (⟨#[]⟩)))))) || ((!((s149 a0.Kind).2.2.1)) && ((decide (a0.fFrom ≠ 0)) || (decide (a0.fTo ≠ 0))))) || ((!((s149 a0.Kind).2.2.2.1)) && (!decide (a0.Cause = (⟨#[]⟩))))) || ((!((s149 a0.Kind).2.2.2.2)) && (decide (a0.Told ≠ 0)))) 1) (qd rfl (qd rfl qk))) rfl (su (qw rfl Tryz.underlying170 ty37 z37 rfl (za rfl (za rfl (za rfl (za rfl (za rfl (za rfl (za rfl (za rfl (za rfl jz))))))))) rfl (by simp []) (by decide)) rfl (su (qf rfl K84 rfl (c84 [(s150 ((s149 a0.Kind).1) (s87 a0.Name)), (s150 ((s149 a0.Kind).2.1) (s85 a0.Moment 0 143999999)), (s150 ((s149 a0.Kind).2.1) (s101 a0.Move)), (s150 ((s149 a0.Kind).2.2.1) (s151 a0.fFrom)), (s150 ((s149 a0.Kind).2.2.1) (s151 a0.fTo)), (s150 ((s149 a0.Kind).2.2.1) (s86 (decide (a0.fTo < a0.fFrom)) 11)), (s150 ((s149 a0.Kind).2.2.2.1) (s87 a0.Cause)), (s150 ((s149 a0.Kind).2.2.2.2) (s151 a0.Told)), (s86 ((((((!((s149 a0.Kind).1)) && (!decide (a0.Name = (⟨#[]⟩)))) || ((!((s149 a0.Kind).2.1)) && ((decide (a0.Moment ≠ 0)) || (!decide (a0.Move = (⟨#[]⟩)))))) || ((!((s149 a0.Kind).2.2.1)) && ((decide (a0.fFrom ≠ 0)) || (decide (a0.fTo ≠ 0))))) || ((!((s149 a0.Kind).2.2.2.1)) && (!decide (a0.Cause = (⟨#[]⟩))))) || ((!((s149 a0.Kind).2.2.2.2)) && (decide (a0.Told ≠ 0)))) 1)]) (qd rfl qk)) rfl (sa rfl rfl (qc ?_))))));refine qo ?_;subst hR;exact zd rfl (rv_g rfl)
def s27 (a0 : List S104) : Int :=
 (bif decide (512 < (List.length a0 : Int)) then 5 else (s84 (s98 a0 s99)))
theorem c27 {g : List (Nat × List Value)} (a0 : List S104)    : Con (EG g) 27 [G.sl 8 (List.map S104.c a0)] (G.int (s27 a0)) := by
 generalize hR : s27 a0 = R;unfold s27 at hR;refine qp Tryz.func27 rfl rfl fun w0 M0 => ?_;refine zp (f := S104.c) (l := a0) 0 rfl fun hla0 => ?_;refine qb (qa [.p] (sa rfl rfl (qc (qb (qb (qa [.p, .p, .p] ?_))))));refine sm rfl rfl (su (qz (f := S104.c) (l := a0) rfl Tryz.underlying26 rfl) rfl (su (jh rfl rfl rfl) rfl (qc (qi _ rfl (fun h1 => ?_) (fun h1 => ?_)))))
 ·replace hR := zl hR h1;refine qb (qa [.p] (sa rfl rfl (qc (qo ?_))));subst hR;exact zd rfl (rv_g rfl)
 ·replace h1 : (decide (512 < (List.length a0 : Int))) = false := h1;replace hR := zt hR h1;(try simp only [bB] at h1);refine qm (qb (qa [.p, .p, .p, .p] (sm rfl rfl (su (qf rfl K98 rfl (c98 a0 s99 qbq K99 (fun x0 => c99 x0) iA) (qd rfl (qd rfl qk))) rfl (su (qf rfl K84 rfl (c84 (s98 a0 s99)) (qd rfl qk)) rfl (sa rfl rfl ?_))))));refine qc (qo ?_);subst hR;exact zd rfl (rv_g rfl)
end Go.Sim
namespace Go.Proofs
open Go.RowKit Go.Shelf
attribute [local go_sem] Oper.semAt_some
theorem qp0 (d : Int) (h0 : 0 ≤ d) (h1 : d ≤ 1000000) (w : World) : Calls Tryz.prog 188 #[.int .i64 d] w fun e w' => e = .returned (.int .i64 ((d + 5) % 7)) ∧ w' = w := by
 go_enter Tryz.func188, Tryz.ntmps188
 go_wp2
 go_ret
 exact ⟨rfl, rfl⟩
theorem qn9 (a b : Int) : bits BinOp.and IntKind.i64 a b = Sim.andI a b := rfl
theorem qtm (m d : Int) (h0 : 0 ≤ d) (h1 : d ≤ 6) : m / 2 ^ d.toNat = Sim.shrI m d := by
 unfold Sim.shrI;rw [Nat.min_eq_left (by omega), Int.fdiv_eq_ediv_of_nonneg _ (by exact Int.le_of_lt (Int.pow_pos (by decide)))]
theorem qp1 (m d : Int) (h0 : 0 ≤ d) (h1 : d ≤ 6) (w : World) : Calls Tryz.prog 187 #[.int .i64 m, .int .i64 d] w fun e w' => e = .returned (.bool (decide (Sim.andI (Sim.shrI m d) 1 = 1))) ∧ w' = w := by
 go_enter Tryz.func187, Tryz.ntmps187
 go_wp2
 go_ret
 refine ⟨?_, rfl⟩;rw [qn9, qtm m d h0 h1];rw [show (Sim.andI (Sim.shrI m d) 1 == 1) = decide (Sim.andI (Sim.shrI m d) 1 = 1) by rw [Bool.eq_iff_iff]; simp]
 rfl
def inM (m d : Int) : Bool := decide (Sim.andI (Sim.shrI m ((d + 5) % 7)) 1 = 1)
def dayL (m : Int) : Nat → Int → List Int
 | 0, _ => []
 | n + 1, d => if inM m d = true then d :: dayL m n (d + 1) else dayL m n (d + 1)
theorem im_T (m d : Int) (hm : inM m d = true) (h0 : 0 ≤ d) (h1 : d ≤ 1000000) (w : World) : Calls Tryz.prog 187 #[.int .i64 m, .int .i64 ((d + 5) % 7)] w fun e w' => e = .returned (.bool true) ∧ w' = w :=
 (qp1 m ((d + 5) % 7) (by omega) (by omega) w).mono fun e w' ⟨h, k⟩ => ⟨by rw [h]; unfold inM at hm; rw [hm], k⟩
theorem im_F (m d : Int) (hm : inM m d = false) (h0 : 0 ≤ d) (h1 : d ≤ 1000000) (w : World) : Calls Tryz.prog 187 #[.int .i64 m, .int .i64 ((d + 5) % 7)] w fun e w' => e = .returned (.bool false) ∧ w' = w :=
 (qp1 m ((d + 5) % 7) (by omega) (by omega) w).mono fun e w' ⟨h, k⟩ => ⟨by rw [h]; unfold inM at hm; rw [hm], k⟩
set_option maxRecDepth 100000 in
set_option maxHeartbeats 1000000 in
theorem qoa (F : Fence) (n : Nat) (h6 : F.fn 186) (h7 : F.fn 187) (h8 : F.fn 188) (hro : F.round = none) (hw : F = Fence.wide) (hn : 2 ≤ n) (l b o n₀ : Nat) (hb : b < n₀) (f t m : Int) (hf : 0 ≤ f) (ht : t ≤ 1000000) (J Jx : List Int → World → Prop) (hJd : ∀ pre W k, J pre W → J pre (W.drewN k))
  (hY : ∀ pre x W, J pre W → pre.length < (dayL m (t + 1 - f).toNat f).length → YieldAt F (n - 1) Tryz.prog l #[.int .i64 x] W fun e W' =>
   (e = .returned (.bool true) ∧ J (pre ++ [x]) W' ∧ Below n₀ W W') ∨ (e = .returned (.bool false) ∧ Jx (pre ++ [x]) W'))
  (W : World) (c0 : W.cell? ⟨b, o, none⟩ = some (.int .i64 f)) (c1 : W.cell? ⟨b, o + 1, none⟩ = some (.int .i64 t)) (c2 : W.cell? ⟨b, o + 2, none⟩ = some (.int .i64 m)) (h0 : J [] W) :
  CallsIn F n Tryz.prog 186 #[.func (.yield l) #[] #[], .pointer (some ⟨b, o, none⟩)] W fun e W' => (∃ v, e = .returned v) ∧
   ((∃ ys, ys = dayL m (t + 1 - f).toNat f ∧ J ys W') ∨ (∃ pre, pre <+: dayL m (t + 1 - f).toNat f ∧ Jx pre W')) := by
 refine callsIn_of_wp Tryz.func186 rfl h6 ?_ hro;simp only [Tryz.ntmps186, List.size_toArray, List.length_cons, List.length_nil, Nat.reduceAdd, Nat.reduceSub, Array.replicate_succ, Array.replicate_zero, List.push_toArray, List.append_toArray, List.nil_append, List.cons_append];subst hw
 gi_wp2
 gi_loopw [3] (fun p wr => ∃ (pre : List Int) (d : Int), p = .int .i64 d ∧ f ≤ d ∧ (d ≤ t + 1 ∨ d = f) ∧ dayL m (t + 1 - f).toNat f = pre ++ dayL m (t + 1 - d).toNat d ∧ wr.cell? ⟨b, o + 1, none⟩ = some (.int .i64 t) ∧ wr.cell? ⟨b, o + 2, none⟩ = some (.int .i64 m) ∧ J pre wr)
  (fun p _ => (t + 1 - intOf p).toNat)
 case atStart => exact ⟨[], f, rfl, Int.le_refl _, .inr rfl, rfl, c1, c2, h0⟩
 case round =>
  clear c0 c1 c2 h0;obtain ⟨pre, d, rfl, hd1, hd2, hx, c1, c2, hJs⟩ := hrel
  by_cases hlt : d ≤ t
  ·have hs : dayL m (t + 1 - d).toNat d = if inM m d = true then d :: dayL m (t + 1 - (d + 1)).toNat (d + 1) else dayL m (t + 1 - (d + 1)).toNat (d + 1) := by
    obtain ⟨k, hk⟩ : ∃ k, (t + 1 - d).toNat = k + 1 := ⟨(t - d).toNat, by omega⟩;rw [hk, dayL, show (t + 1 - (d + 1)).toNat = k by omega]
   by_cases hm : inM m d = true
   ·obtain ⟨fn, tmps, assign, body, hy, hR'⟩ := YieldAt.mono (hY pre d wr.drew (hJd _ _ 1 hJs) (by rw [hx, hs, if_pos hm]; simp)) (R' := fun e W' => ∃ bb : Bool, e = .returned (.bool bb) ∧ ((bb = true → J (pre ++ [d]) W' ∧ Below n₀ wr.drew W') ∧ (bb = false → Jx (pre ++ [d]) W'))) (by
     rintro e W' (⟨rfl, k1, k2⟩ | ⟨rfl, k1⟩)
     ·exact ⟨true, rfl, (fun _ => ⟨k1, k2⟩), (fun h => (by cases h))⟩
     ·exact ⟨false, rfl, (fun h => (by cases h)), (fun _ => k1)⟩)
    have X1 := Lib.hid hx; clear hx;have X2 := Lib.hid hs; clear hs
    gi_wp2
    gi_region_with (first | (refine ⟨fun h => (by cases h), ?_⟩; gi_at_call 188; refine (callsIn_wide.2 (qp0 _ (by omega) (by omega) _)).mono ?_; rintro e w' ⟨rfl, rfl⟩) | (refine ⟨fun h => (by cases h), ?_⟩; gi_at_call 187; refine (callsIn_wide.2 (im_T _ _ hm (by omega) (by omega) _)).mono ?_; rintro e w' ⟨rfl, rfl⟩) | (refine ⟨fun h => (by cases h), ?_⟩; refine hR'.mono ?_; rintro e W' ⟨bb, rfl, hT, hF⟩))
    all_goals
     cases bb with
     | true =>
      obtain ⟨hJ3, hk3⟩ := hT rfl;clear hT hF;have e1 : W'.cell? ⟨b, o + 1, none⟩ = some (.int .i64 t) := (hk3.cell (p := ⟨b, o + 1, none⟩) hb).trans c1;have e2 : W'.cell? ⟨b, o + 2, none⟩ = some (.int .i64 m) := (hk3.cell (p := ⟨b, o + 2, none⟩) hb).trans c2
      go_simp
      gi_wp2
      go_roundw
      case rel => exact ⟨pre ++ [d], d + 1, rfl, by omega, by omega, by rw [X1.out, X2.out, if_pos hm]; simp, e1, e2, hJ3⟩
      case measure => simp [intOf]; omega
     | false =>
      have hX := hF rfl;clear hT hF
      go_simp
      gi_wp2
      refine bodyPost_ret (results_none rfl _ _ _) rfl ?_;exact ⟨⟨_, rfl⟩, .inr ⟨pre ++ [d], ⟨dayL m (t + 1 - (d + 1)).toNat (d + 1), by rw [X1.out, X2.out, if_pos hm]; simp⟩, hX⟩⟩
   ·have hm' : inM m d = false := by simpa using hm
    have X1 := Lib.hid hx; clear hx;have X2 := Lib.hid hs; clear hs
    gi_wp2
    refine wpIn_region_quiet_lit rfl (by kernel_rfl) (by kernel_rfl) ?_
    repeat (gi_big_quiet_step (fail))
    gi_big_quiet_step ((refine ⟨fun h => (by cases h), ?_⟩; exact CallsIn.quiet_of_same (callsIn_wide.2 (qp0 d (by omega) (by omega) _))))
    repeat (gi_big_quiet_step (fail))
    gi_big_quiet_step ((refine ⟨fun h => (by cases h), ?_⟩; exact CallsIn.quiet_of_same (callsIn_wide.2 (im_F m d hm' (by omega) (by omega) _))))
    repeat (gi_big_quiet_step (fail))
    refine BigFrame.wpQuietIn_skip (fun _ _ _ _ => trivial) (by rfl) ?_;simp only [Act.put, List.setIfInBounds_toArray, List.set_cons_succ, List.set_cons_zero]
    repeat (gi_big_quiet_step (fail))
    refine wpQuietIn_nil ?_;intro _ hw';obtain ⟨nq, hw''⟩ := hw';subst hw''
    gi_wp2
    go_roundw
    case rel => exact ⟨pre, d + 1, rfl, by omega, by omega, by rw [X1.out, X2.out, if_neg hm], c1, c2, hJd _ _ _ hJs⟩
    case measure => simp [intOf]; omega
  ·have hs : dayL m (t + 1 - d).toNat d = [] := by rw [show (t + 1 - d).toNat = 0 by omega]; rfl
   have X1 := Lib.hid hx; clear hx;have X2 := Lib.hid hs; clear hs
   gi_wp2
   go_end0
   refine ⟨⟨_, rfl⟩, .inl ?_⟩
   have : dayL m (t + 1 - f).toNat f = pre := by rw [X1.out, X2.out]; simp
   rw [this]; exact hJs
theorem qkb (n : Nat) (hn : 2 ≤ n) (b o n₀ : Nat) (f t m : Int) (hf : 0 ≤ f) (ht : t ≤ 1000000) (w : World) (hb : b < n₀) (hn₀ : n₀ ≤ w.heap.size) (c0 : w.cell? ⟨b, o, none⟩ = some (.int .i64 f)) (c1 : w.cell? ⟨b, o + 1, none⟩ = some (.int .i64 t)) (c2 : w.cell? ⟨b, o + 2, none⟩ = some (.int .i64 m)) :
  SeqStopsK Fence.wide n Tryz.prog 186 #[.pointer (some ⟨b, o, none⟩)] (fun x : Int => #[Value.int .i64 x]) (Below n₀) (fun ys => ys = dayL m (t + 1 - f).toNat f) (fun pre => pre <+: dayL m (t + 1 - f).toNat f) (dayL m (t + 1 - f).toNat f).length w := fun l J Jx W hW hJ _ hY h0 =>
 qoa Fence.wide n trivial trivial trivial rfl rfl hn l b o n₀ hb f t m hf ht J Jx (fun pre W k h => hJ pre W (W.drewN k) none h ⟨rfl, rfl, rfl, Nat.le_refl _, fun _ _ _ => rfl⟩ (fun r e => by cases e)) hY W
  ((hW.cell (p := ⟨b, o, none⟩) (Nat.lt_of_lt_of_le hb hn₀)).trans c0) ((hW.cell (p := ⟨b, o + 1, none⟩) (Nat.lt_of_lt_of_le hb hn₀)).trans c1) ((hW.cell (p := ⟨b, o + 2, none⟩) (Nat.lt_of_lt_of_le hb hn₀)).trans c2) h0
theorem qao (m : Int) : ∀ (n : Nat) (d : Int), (dayL m n d).length ≤ n
 | 0, _ => Nat.le_refl _
 | n + 1, d => by
  unfold dayL;have := qao m n (d + 1)
  split <;> simp <;> omega
theorem qq6 (x : Int) (w : World) : Calls Tryz.prog 137 #[.int .i64 x] w fun e w' => e = .returned (.bool true) ∧ w' = w := by
 go_enter Tryz.func137, Tryz.ntmps137
 go_wp2
 go_ret
 exact ⟨rfl, rfl⟩
end Go.Proofs
namespace Go.Proofs
open Go.RowKit Go.Shelf
attribute [local go_sem] Oper.semAt_some
theorem qeh (x : Int) (w : World) : Calls Tryz.prog 137 #[.int .i64 x] w fun e w' => e = .returned (.bool true) ∧ w = w' := (qq6 x w).mono fun _ _ ⟨h, k⟩ => ⟨h, k.symm⟩
theorem qvr : (Tryz.prog.info? 3).map (fun i => (i.zero, i.size, i.bytes)) = some (some (.int .i64 0), 1, 8) := by kernel_rfl
set_option maxRecDepth 100000 in
set_option maxHeartbeats 2000000 in
theorem qfu (b o : Nat) (f t m : Int) (hf : 0 ≤ f) (ht : t ≤ 1000000) (w : World) (hb : b < w.heap.size) (c0 : w.cell? ⟨b, o, none⟩ = some (.int .i64 f)) (c1 : w.cell? ⟨b, o + 1, none⟩ = some (.int .i64 t)) (c2 : w.cell? ⟨b, o + 2, none⟩ = some (.int .i64 m)) :
  CallsIn Fence.wide 4 Tryz.prog 135 #[.func (.func 186) #[] #[.pointer (some ⟨b, o, none⟩)], .func (.func 137) #[] #[]] w fun e W' => ∃ v, e = .returned v ∧ W'.ownsRow (w.heap.size + 1) 3 1 v (dayL m (t + 1 - f).toNat f).length ((dayL m (t + 1 - f).toNat f).map (Value.int .i64)) ∧ (v = .slice none 0 0 ↔ dayL m (t + 1 - f).toNat f = []) ∧ Below w.heap.size w W' := by
 obtain ⟨i0, hi, hz0, hz1, hz2⟩ := info_parts qvr;have hlen := qao m (t + 1 - f).toNat f
 have hlen2 : (t + 1 - f).toNat ≤ 1000001 := by omega
 refine callsIn_of_wp_marks Tryz.func135 rfl trivial ?_ rfl;simp only [Tryz.ntmps135, List.size_toArray, List.length_cons, List.length_nil, Nat.reduceAdd, Nat.reduceSub, Array.replicate_succ, Array.replicate_zero, List.push_toArray, List.append_toArray, List.nil_append, List.cons_append]
 gi_wp2
 have bO := Boxed.new (w.alloc (.cells #[.func (.func 137) #[] #[]] 215)) 82 (.slice none 0 0);rw [World.size_alloc] at bO;have bF := (Boxed.new w 215 (.func (.func 137) #[] #[])).cell;have hB00 : Below w.heap.size w (w.alloc (.cells #[.func (.func 137) #[] #[]] 215)) := (Below.refl _ w).alloc (Nat.le_refl _) _;have hB0 : Below (w.heap.size + 1) (w.alloc (.cells #[.func (.func 137) #[] #[]] 215)) ((w.alloc (.cells #[.func (.func 137) #[] #[]] 215)).alloc (.cells #[.slice none 0 0] 82)) := (Below.refl _ _).alloc (by simp) _;have hB1 : Below w.heap.size w ((w.alloc (.cells #[.func (.func 137) #[] #[]] 215)).alloc (.cells #[.slice none 0 0] 82)) := hB00.trans (hB0.mono (by omega));refine wpIn_rangeFunc_ownG rfl (by decide) (gf := 186) (lb := #[.pointer (some ⟨b, o, none⟩)]) rfl trivial (enters_of Tryz.func186 (by kernel_rfl) rfl)
  (qkb 3 (by decide) b o (w.heap.size + 1) f t m hf ht _ (by omega) (by simp) ((hB1.cell (p := ⟨b, o, none⟩) hb).trans c0) ((hB1.cell (p := ⟨b, o + 1, none⟩) hb).trans c1) ((hB1.cell (p := ⟨b, o + 2, none⟩) hb).trans c2)) belowK_t (belowK_b (by simp)) (Below.refl _ _) (fun _ => rfl)
  (fun pre W => (∃ v, Boxed W (w.heap.size + 1) 82 v ∧ W.ownsRow (w.heap.size + 1) 3 1 v pre.length (pre.map (Value.int .i64)) ∧ (v = .slice none 0 0 ↔ pre = [])) ∧ Below (w.heap.size + 1) (w.alloc (.cells #[.func (.func 137) #[] #[]] 215)) W)
  (fun _ _ _ => False)
  (OwnFrom.and (Own.from (holdsRow_own (w.heap.size + 1) (w.heap.size + 1) 82 3 1 (fun pre : List Int => pre.length) (fun pre => pre.map (Value.int .i64)) (fun pre v => v = .slice none 0 0 ↔ pre = [])) _) (ownFrom_below (by simp) (by simp)))
  (fun _ _ _ _ _ hs _ _ => hs)
  ⟨⟨_, bO, World.ownsRow_nil _ _ _ _, by simp⟩, hB0⟩
  (fun x => { tmps := #[Value.func (Fn.func 186) #[] #[Value.pointer (some { block := b, off := o })],
     Value.func (Fn.func 137) #[] #[], undef, Value.pointer (some { block := w.heap.size, off := 0 }),
     Value.slice none 0 0, Value.pointer (some { block := w.heap.size + 1, off := 0 }), .int .i64 x,
     Value.func (Fn.func 186) #[] #[Value.pointer (some { block := b, off := o })], .int .i64 x, undef, undef, undef,
     undef, undef, undef, undef, undef], defers := [] }) ?assign ?body ?done ?stop
 case assign =>
  intro l x W K hK
  gi_wp2
  exact hK
 case body =>
  rintro l pre x W ⟨⟨v, hv, hrow, hnil⟩, hB⟩ hlt;have hc := hv.cell;have hfc : W.cell? ⟨w.heap.size, 0, none⟩ = some (.func (.func 137) #[] #[]) := (hB.cell (p := ⟨w.heap.size, 0, none⟩) (by simp)).trans bF
  gi_wp2_with (first | (gi_at_call 137; refine (CallsIn.inRound l (callsIn_wide.2 (qeh x _))).mono ?_; rintro e w' ⟨rfl, rfl⟩) | (refine ⟨trivial, ?_⟩; gi_at_call 137; refine (CallsIn.inRound l (callsIn_wide.2 (qeh x _))).mono ?_; rintro e w' ⟨rfl, rfl⟩) | (refine ⟨fun h => (by cases h), ?_⟩; gi_at_call 137; refine (CallsIn.inRound l (callsIn_wide.2 (qeh x _))).mono ?_; rintro e w' ⟨rfl, rfl⟩) | (gi_at_builtin; refine wpListIn_append_own _ rfl _ _ 82 rfl (w.heap.size + 1) 3 i0 (.int .i64 0) 1 8 Tryz.underlying82 hi hz0 hz1 hz2 rfl (by decide) _ _ _ rfl (hrow.alloc _) ⟨W.heap.size, 0, none⟩ 1 1 [.int .i64 x] rfl rfl (cell_one_new _ _ _) (by simp [Value.oneCell']) (by unfold maxLen; omega) (by omega) (by have := hB.size; simp at this ⊢; omega) ?_; intro v' w1 hown' hgrow _; obtain ⟨g', cap', rfl⟩ := ownsRow_succ hown'; obtain ⟨hv1, hv2, hr2, hk2, hb2⟩ := hv.appended (by decide) hrow (by have := hB.size; simp at this ⊢; omega) (Nat.le_refl _) hown' hgrow; have hc1 := hv1.cell; have hf1 := hv1.frozen))
  exact ⟨hk2.from _, hb2, ⟨_, hv2, by simpa using hr2, by simp⟩, hB.trans hb2⟩
 case done =>
  rintro D ys W hD rfl ⟨⟨v, hv, hrow, hnil⟩, hB⟩ hK;have hc := hv.cell
  gi_wp2
  refine ⟨by simp, .inl ⟨_, _, rfl, run_takeDeferred hK, ?_⟩⟩;exact ⟨_, results_tmp rfl _ _ _, v, rfl, ownsRow_putObj hrow _ hK rfl, hnil, hB00.trans ((hB.mono (by omega)).trans (belowK_b (w := w) (Nat.le_refl _) W D _ _ (by simp at hD; omega) hK rfl rfl))⟩
 case stop =>
  rintro D c pre W _ _ h _;exact h.elim
end Go.Proofs
namespace Go.Proofs
open Go.RowKit Go.Shelf
attribute [local go_sem] Oper.semAt_some
def momL (mi : Int) (days : List Int) : List Int := days.map fun d => 1440 * d + mi
set_option maxRecDepth 100000 in
set_option maxHeartbeats 1000000 in
theorem qkc (Kp : World → World → Prop) (n : Nat) (hn : 2 ≤ n) (l b1 o1 b2 o2 b3 o3 cap : Nat) (a : Option Addr) (hKc : ∀ W W', Kp W W' → ∀ k, (k = b1 ∨ k = b2 ∨ k = b3) → W'.heap[k]? = W.heap[k]?) (days : List Int) (mi : Int) (hd : ∀ d ∈ days, 0 ≤ d ∧ d ≤ 1000000) (hm0 : 0 ≤ mi) (hm1 : mi ≤ 1000000) (hlen : days.length ≤ 10000000) (J Jx : List Int → World → Prop)
  (hY : ∀ pre x W, J pre W → pre.length < (momL mi days).length → YieldAt Fence.wide (n - 1) Tryz.prog l #[.int .i64 x] W fun e W' =>
   (e = .returned (.bool true) ∧ J (pre ++ [x]) W' ∧ Kp W W') ∨ (e = .returned (.bool false) ∧ Jx (pre ++ [x]) W'))
  (W : World) (c1 : W.cell? ⟨b1, o1, none⟩ = some (.slice a days.length cap)) (c3 : W.cell? ⟨b3, o3, none⟩ = some (.int .i64 mi)) (c2 : ∀ i d, days[i]? = some d → a = some ⟨b2, o2, none⟩ ∧ W.cell? ⟨b2, o2 + i, none⟩ = some (.int .i64 d)) (h0 : J [] W) :
  CallsIn Fence.wide n Tryz.prog 191 #[.func (.yield l) #[] #[], .pointer (some ⟨b1, o1, none⟩), .pointer (some ⟨b3, o3, none⟩)] W fun e W' => (∃ v, e = .returned v) ∧
   ((∃ ys, ys = momL mi days ∧ J ys W') ∨ (∃ pre, pre <+: momL mi days ∧ Jx pre W')) := by
 refine callsIn_of_wp Tryz.func191 rfl trivial ?_ rfl;simp only [Tryz.ntmps191, List.size_toArray, List.length_cons, List.length_nil, Nat.reduceAdd, Nat.reduceSub, Array.replicate_succ, Array.replicate_zero, List.push_toArray, List.append_toArray, List.nil_append, List.cons_append];have C2 := Lib.hid c2; clear c2;have HY := Lib.hid hY; clear hY;have HD := Lib.hid hd; clear hd
 gi_wp2
 gi_loopw [8] (fun p wr => ∃ (k : Nat), p = .int .i64 k ∧ k ≤ days.length ∧ (∀ k, (k = b1 ∨ k = b2 ∨ k = b3) → wr.heap[k]? = W.heap[k]?) ∧ J (momL mi (days.take k)) wr)
  (fun p _ => days.length - (intOf p).toNat)
 case atStart => exact ⟨0, rfl, Nat.zero_le _, fun _ _ => rfl, by simpa [momL] using h0⟩
 case round =>
  obtain ⟨k, rfl, hk, hB, hJs⟩ := hrel;have HB := Lib.hid hB; clear hB;have e3 : wr.cell? ⟨b3, o3, none⟩ = some (.int .i64 mi) := (World.cell?_of_block (a := ⟨b3, o3, none⟩) (HB.out b3 (.inr (.inr rfl)))).trans c3
  by_cases hlt : k < days.length
  ·obtain ⟨d, hdk⟩ : ∃ d, days[k]? = some d := ⟨days[k], by simp⟩;have hd := HD.out d (List.mem_of_getElem? hdk);have e2 : wr.cell? ⟨b2, o2 + k, none⟩ = some (.int .i64 d) := (World.cell?_of_block (a := ⟨b2, o2 + k, none⟩) (HB.out b2 (.inr (.inl rfl)))).trans (C2.out k d hdk).2;have ha := (C2.out k d hdk).1;subst ha
   have hs : momL mi (days.take (k + 1)) = momL mi (days.take k) ++ [1440 * d + mi] := by
    unfold momL;rw [List.take_add_one, hdk]; simp
   obtain ⟨fn, tmps, assign, body, hy, hR'⟩ := YieldAt.mono (HY.out (momL mi (days.take k)) (1440 * d + mi) wr hJs (by simp [momL]; omega)) (R' := fun e W' => ∃ bb : Bool, e = .returned (.bool bb) ∧ ((bb = true → J (momL mi (days.take (k + 1))) W' ∧ Kp wr W') ∧ (bb = false → Jx (momL mi (days.take (k + 1))) W'))) (by
     rw [hs];rintro e W' (⟨rfl, k1, k2⟩ | ⟨rfl, k1⟩)
     ·exact ⟨true, rfl, (fun _ => ⟨k1, k2⟩), (fun h => (by cases h))⟩
     ·exact ⟨false, rfl, (fun h => (by cases h)), (fun _ => k1)⟩)
   have X1 := Lib.hid hs; clear hs;have X2 := Lib.hid hdk; clear hdk
   gi_wp2
   refine ⟨fun h => (by cases h), ?_⟩;refine hR'.mono ?_;rintro e W' ⟨bb, rfl, hT, hF⟩
   cases bb with
   | true =>
    obtain ⟨hJ3, hk3⟩ := hT rfl;clear hT hF
    gi_wp2
    go_roundw
    case rel => exact ⟨k + 1, by go_num, by omega, fun j hj => (hKc _ _ hk3 j hj).trans (HB.out j hj), hJ3⟩
    case measure => simp [intOf]; omega
   | false =>
    have hX := hF rfl;clear hT hF
    gi_wp2
    refine bodyPost_ret (results_none rfl _ _ _) rfl ?_;exact ⟨⟨_, rfl⟩, .inr ⟨momL mi (days.take (k + 1)), (List.take_prefix _ _).map _, hX⟩⟩
  ·have hke : k = days.length := by omega
   subst hke
   gi_wp2
   go_end0
   refine ⟨⟨_, rfl⟩, .inl ?_⟩;rw [List.take_length] at hJs;exact ⟨_, rfl, hJs⟩
theorem qfv (Kp : World → World → Prop) (n : Nat) (hn : 2 ≤ n) (b1 o1 b2 o2 b3 o3 cap : Nat) (a : Option Addr) (hKc : ∀ W W', Kp W W' → ∀ k, (k = b1 ∨ k = b2 ∨ k = b3) → W'.heap[k]? = W.heap[k]?) (days : List Int) (mi : Int) (hd : ∀ d ∈ days, 0 ≤ d ∧ d ≤ 1000000) (hm0 : 0 ≤ mi) (hm1 : mi ≤ 1000000) (hlen : days.length ≤ 10000000) (w : World) (hb1 : b1 < w.heap.size) (hb3 : b3 < w.heap.size)
  (c1 : w.cell? ⟨b1, o1, none⟩ = some (.slice a days.length cap)) (c3 : w.cell? ⟨b3, o3, none⟩ = some (.int .i64 mi)) (c2 : ∀ i d, days[i]? = some d → a = some ⟨b2, o2, none⟩ ∧ w.cell? ⟨b2, o2 + i, none⟩ = some (.int .i64 d)) :
  SeqStopsK Fence.wide n Tryz.prog 191 #[.pointer (some ⟨b1, o1, none⟩), .pointer (some ⟨b3, o3, none⟩)] (fun x : Int => #[Value.int .i64 x]) Kp (fun ys => ys = momL mi days) (fun pre => pre <+: momL mi days) (momL mi days).length w := fun l J Jx W hW _ _ hY h0 =>
 qkc Kp n hn l b1 o1 b2 o2 b3 o3 cap a hKc days mi hd hm0 hm1 hlen J Jx hY W
  ((hW.cell (p := ⟨b1, o1, none⟩) hb1).trans c1) ((hW.cell (p := ⟨b3, o3, none⟩) hb3).trans c3) (fun i d hi => ⟨(c2 i d hi).1, (hW.cell (p := ⟨b2, o2 + i, none⟩) (block_lt_of_cell (c2 i d hi).2)).trans (c2 i d hi).2⟩) h0
end Go.Proofs
namespace Go.Sim
open Go.Proofs
def G.slX (k : Nat) (xs : List (List G)) : G :=
 ⟨fun w M u => (∀ c ∈ xs, c.length = k) ∧ ((xs = [] ∧ u = .slice none 0 0) ∨ ∃ b cap cur e, u = .slice (some ⟨b, 0, none⟩) xs.length cap ∧ xs.length ≤ cap ∧ cap ≤ maxLen ∧ ¬ M b ∧ w.heap[b]? = some (.cells cur e (0, 0)) ∧ cur.size = cap * k ∧ Fits w M xs.flatten (cur.toList.take (xs.length * k))), fun {w w' M M' u} h hh hM => by
  obtain ⟨h0, h⟩ := h;refine ⟨h0, ?_⟩
  rcases h with h | ⟨b, cap, cur, e, h1, h2, h3, h4, h5, h6, h7⟩
  ·exact .inl h
  ·have hlt := (Array.getElem?_eq_some_iff.1 h5).1
   exact .inr ⟨b, cap, cur, e, h1, h2, h3, fun hm => h4 (hM b hlt hm), (hh b hlt h4).trans h5, h6, h7.mono hh hM⟩⟩
instance (k : Nat) (xs : List (List G)) : One (.slX k xs) := ⟨fun ⟨_, h⟩ => by
 rcases h with ⟨_, h⟩ | ⟨_, _, _, _, h, _⟩ <;> rw [h] <;> rfl⟩
theorem qp2 {w : World} {M : Nat → Prop} {k : Nat} {xs : List (List G)} {u : Value} (h : (G.slX k xs).p w M u) : (G.sl k xs).p w M u := by
 obtain ⟨h0, h⟩ := h
 rcases h with ⟨rfl, rfl⟩ | ⟨b, cap, cur, e, h1, h2, h3, h4, h5, h6, h7⟩
 ·exact ⟨none, 0, rfl, Nat.le_refl _, Nat.zero_le _, h0, .inl ⟨rfl, fun _ => rfl⟩⟩
 ·exact ⟨some ⟨b, 0, none⟩, cap, h1, h2, h3, h0, .inr ⟨b, 0, rfl, h4, by
   have hl := vy h0;have hls := h7.length
   have : ∀ j v, (cur.toList.take (xs.length * k))[j]? = some v → w.cell? ⟨b, 0 + j, none⟩ = some v := by
    intro j v hj;rw [List.getElem?_take] at hj
    split at hj
    ·rw [cell_of_row w _ _ _ _ _ h5, Nat.zero_add]; simpa using hj
    ·cases hj
   exact cells_of_get h7 this⟩⟩
where cells_of_get {w : World} {M : Nat → Prop} {b : Nat} : ∀ {cs : List G} {vs : List Value} {o : Nat}, Fits w M cs vs → (∀ j v, vs[j]? = some v → w.cell? ⟨b, o + j, none⟩ = some v) → Cells w M b o cs
 | [], _, _, _, _ => trivial
 | c :: cs, [], _, h, _ => h.elim
 | c :: cs, v :: vs, o, h, hg => ⟨⟨v, hg 0 v rfl, h.1.1, h.1.2⟩, cells_of_get h.2 fun j u hj => by
   have := hg (j + 1) u (by simpa using hj)
   rwa [show o + (j + 1) = o + 1 + j by omega] at this⟩
theorem qq7 (k : Nat) : ∀ w M, (G.slX k []).p w M (.slice none 0 0) := fun _ _ => ⟨by simp, .inl ⟨rfl, rfl⟩⟩
theorem flat_ints (l : List Int) : (l.map cInt).flatten = (l.map (Value.int .i64)).map G.lit := by
 induction l with
 | nil => rfl
 | cons x l ih => simp [ih]
theorem qei {w : World} {M : Nat → Prop} : ∀ {vs : List Value}, (∀ v ∈ vs, v.oneCell' = true) → Fits w M (vs.map G.lit) vs
 | [], _ => trivial
 | v :: vs, h => ⟨⟨rfl, h v List.mem_cons_self⟩, qei fun u hu => h u (List.mem_cons_of_mem _ hu)⟩
theorem qq8 {w w' : World} {M : Nat → Prop} {e : TypeId} {v : Value} {n0 : Nat} {l : List Int} (hM : ∀ b, M b → b < w.heap.size) (hn : w.heap.size ≤ n0) (h : w'.ownsRow n0 e 1 v l.length (l.map (Value.int .i64))) : (G.slX 1 (l.map cInt)).p w' M v := by
 obtain ⟨h1, h2⟩ := h;refine ⟨fun c hc => ?_, ?_⟩
 ·obtain ⟨x, _, rfl⟩ := List.mem_map.1 hc; rfl
 rcases h2 with ⟨rfl, h2⟩ | ⟨gg, cap, cur, rfl, g1, g2, g3, g4, g5, g6⟩
 ·exact .inl ⟨by rw [List.eq_nil_of_length_eq_zero h2]; rfl, rfl⟩
 ·refine .inr ⟨gg, cap, cur, e, by simp, by simpa using g3, g4, fun hm => by have := hM _ hm; omega, g2, g5, ?_⟩;rw [List.length_map, g6, flat_ints]
  exact qei fun v hv => by obtain ⟨x, _, rfl⟩ := List.mem_map.1 hv; rfl
theorem qvs {g : List (Nat × List Value)} (f t m : Int) (hf : 0 ≤ f) (ht : t ≤ 1000000) : Con (EG g) 135 [G.fn (.func 186) [] [G.ref [G.int f, G.int t, G.int m]], G.lit (.func (.func 137) #[] #[])] (G.slX 1 (List.map cInt (dayL m (t + 1 - f).toNat f))) := by
 intro w M vs hM hgl hv
 match vs, hv with
 | [v1, v2], hv =>
  obtain ⟨⟨fs, cs, rfl, hfs, hcs⟩, rfl, _⟩ := hv
  cases fs with
  | cons _ _ => exact hfs.elim
  | nil =>
   match cs, hcs with
   | [c], hcs =>
    obtain ⟨b, o, rfl, hnm, hc⟩ := hcs.1
    have hnm : ¬ M b := by rcases hnm with h | h; cases h; exact h
    obtain ⟨⟨_, e1, e1', _⟩, ⟨_, e2, e2', _⟩, ⟨_, e3, e3', _⟩, _⟩ := hc;have e1' : _ = _ := e1'; have e2' : _ = _ := e2'; have e3' : _ = _ := e3';subst e1'; subst e2'; subst e3';have hb : b < w.heap.size := block_lt_of_cell e1;refine (callsIn_wide.1 (qfu b o f t m hf ht w hb e1 e2 e3)).mono ?_;rintro e W' ⟨v, rfl, h1, _, h3⟩;exact ⟨v, rfl, h3, qq8 hM (Nat.le_succ _) h1⟩
theorem c136 {g : List (Nat × List Value)} (f t m : Int) : Con (EG g) 136 [G.agg [G.int f, G.int t, G.int m]] (G.fn (.func 186) [] [G.ref [G.int f, G.int t, G.int m]]) := by
 refine qp Tryz.func136 rfl rfl fun w0 M0 => ?_;refine qb ?_;refine qa [.p, .p] ?_;refine st rfl rfl (zo rfl rfl) rfl ?_;refine st rfl rfl (qac rfl rfl) rfl ?_;refine qc ?_;refine qb ?_;refine qa [.p, .p] ?_;refine st rfl rfl (xi rfl rfl rfl) rfl ?_;refine st rfl rfl (qac rfl rfl) rfl ?_;refine qc ?_;refine qo ?_;exact zd rfl (rv_g rfl)
theorem qlt (a b : Int) (h : s152 [a, b] = 0) : a = 0 ∧ b = 0 := by
 simp only [s152, s152_l1] at h
 by_cases ha : a = 0
 ·by_cases hb : b = 0
  ·exact ⟨ha, hb⟩
  ·simp [ha, hb] at h
 ·simp [ha] at h
theorem qtn (a b c : Int) (h : s152 [a, b, c] = 0) : a = 0 ∧ b = 0 ∧ c = 0 := by
 simp only [s152, s152_l1] at h
 by_cases ha : a = 0
 ·by_cases hb : b = 0
  ·by_cases hc : c = 0
   ·exact ⟨ha, hb, hc⟩
   ·simp [ha, hb, hc] at h
  ·simp [ha, hb] at h
 ·simp [ha] at h
theorem rng0 (n lo hi : Int) (h : s155 n lo hi = 0) : lo ≤ n ∧ n ≤ hi := by
 simp only [s155, s154] at h
 by_cases h1 : n < lo
 ·simp [h1] at h
 ·by_cases h2 : hi < n
  ·simp [h2] at h
  ·omega
theorem qq9 (b : Bool) (e : Int) (he : e ≠ 0) (h : s154 b e = 0) : b = false := by
 cases b with
 | false => rfl
 | true => exact absurd h he
theorem period_ok (p : S45) (h : s102 p = 0) : 0 ≤ p.fFrom ∧ p.fFrom ≤ p.fTo ∧ p.fTo ≤ 99999 ∧ p.fTo - p.fFrom ≤ 400 ∧ 1 ≤ p.Days ∧ p.Days ≤ 127 := by
 unfold s102 at h
 by_cases h1 : s152 [s153 p.fFrom, s153 p.fTo] = 0
 ·rw [decide_eq_false (by simpa using h1)] at h;rw [cond_false] at h;obtain ⟨a1, a2⟩ := qlt _ _ h1;obtain ⟨b1, b2, b3⟩ := qtn _ _ _ h;have c1 := rng0 _ _ _ a1;have c2 := rng0 _ _ _ a2;have c3 := rng0 _ _ _ b3;have d1 := qq9 _ _ (by decide) b1;have d2 := qq9 _ _ (by decide) b2;simp only [decide_eq_false_iff_not] at d1 d2;rw [wrap_i64 (by unfold I64; omega)] at d2
  omega
 ·rw [decide_eq_true (by simpa using h1)] at h;exact absurd h h1
end Go.Sim
set_option maxRecDepth 10000
namespace Go.Sim
open Go.Proofs
def s69 (a0 : S45) : (List Int) × Int :=
 (bif decide ((s102 a0) ≠ 0) then ([], (s102 a0)) else (dayL a0.Days (a0.fTo + 1 - a0.fFrom).toNat a0.fFrom, 0))
theorem c69 {g : List (Nat × List Value)} (a0 : S45)    : Con (EG g) 69 [G.agg [G.int a0.fFrom, G.int a0.fTo, G.int a0.Days]] (G.tup [G.slX 1 (List.map cInt ((s69 a0)).1), G.int ((s69 a0)).2]) := by
 generalize hR : s69 a0 = R;unfold s69 at hR;refine qp Tryz.func69 rfl rfl fun w0 M0 => ?_;refine qb (qa [.p, .p, .p] (su (zo rfl rfl) rfl (sa rfl rfl (sa rfl rfl (qc (qb ?_))))));refine qb (qa [.p, .p, .p] (su (qv rfl ty46 rfl rfl rfl) rfl (su (qf rfl K102 rfl (c102 a0) (qd rfl qk)) rfl (sa rfl rfl (qc (qb ?_))))));refine qa [.p, .p] (sm rfl rfl (su (zw rfl rfl rfl) rfl (qc (qi _ rfl (fun h1 => ?_) (fun h1 => ?_)))))
 ·replace h1 : (decide ((s102 a0) ≠ 0)) = true := h1;replace hR := zl hR h1;(try simp only [bB] at h1);refine qb (qa [.p, .p, .p] (sm rfl rfl (sa rfl rfl (sa rfl rfl (qc (qo ?_))))));subst hR;exact resN rfl ⟨wj rfl (qq7 _), rv_g rfl, trivial⟩ (by simp)
 ·replace h1 : (decide ((s102 a0) ≠ 0)) = false := h1;replace hR := zt hR h1;(try simp only [bB] at h1);have hp := period_ok a0 (by simpa using h1);refine qm (qb (qa [.p, .p, .p, .p, .p] (su (qv rfl ty46 rfl rfl rfl) rfl (su (qf rfl K136 rfl (c136 a0.fFrom a0.fTo a0.Days) (qd rfl qk)) rfl (su (qf rfl K135 rfl (qvs a0.fFrom a0.fTo a0.Days hp.1 (by omega)) (qd rfl (qd rfl qk))) rfl (sa rfl rfl ?_))))));refine sa rfl rfl (qc (qo ?_));subst hR;exact resN rfl ⟨rv_g rfl, rv_g rfl, trivial⟩ (by simp)
open Go.Proofs Go.RowKit Go.Shelf
theorem glOk_nil {w : World} {M : Nat → Prop} : GlOk (EG []) w M := fun g vs h => by cases h
theorem qlu {w : World} {M : Nat → Prop} {l : List Int} {u : Value} (h : (G.slX 1 (l.map cInt)).p w M u) : ∃ a cap b, u = .slice a l.length cap ∧ (l = [] ∨ (b < w.heap.size ∧ ¬ M b)) ∧ ∀ (i : Nat) (d : Int), l[i]? = some d → a = some ⟨b, 0, none⟩ ∧ w.cell? ⟨b, 0 + i, none⟩ = some (.int .i64 d) := by
 obtain ⟨h0, h⟩ := h
 rcases h with ⟨h1, rfl⟩ | ⟨b, cap, cur, e, h1, h2, h3, h4, h5, h6, h7⟩
 ·have : l = [] := by simpa using h1
  subst this;exact ⟨none, 0, 0, rfl, .inl rfl, fun i d h => by simp at h⟩
 ·refine ⟨_, cap, b, by rw [h1, List.length_map], .inr ⟨(Array.getElem?_eq_some_iff.1 h5).1, h4⟩, fun i d hi => ⟨rfl, ?_⟩⟩;rw [cell_of_row w _ _ _ _ _ h5, Nat.zero_add];rw [flat_ints] at h7
  have hfit : (cur.toList.take ((l.map cInt).length * 1)) = l.map (Value.int .i64) := by
   have : ∀ {vs us : List Value}, Fits w M (vs.map G.lit) us → us = vs := by
    intro vs
    induction vs with
    | nil => intro us h; cases us with
     | nil => rfl
     | cons => exact h.elim
    | cons v vs ih => intro us h; cases us with
     | nil => exact h.elim
     | cons u us => rw [show u = v from h.1.1, ih h.2]
   exact this h7
  have h8 : (cur.toList.take ((l.map cInt).length * 1))[i]? = some (.int .i64 d) := by rw [hfit, List.getElem?_map, hi]; rfl
  rw [List.getElem?_take] at h8
  split at h8
  ·simpa using h8
  ·cases h8
theorem qkd (p : S45) (hp : s102 p = 0) (w : World) : Calls Tryz.prog 69 #[.agg #[.int .i64 p.fFrom, .int .i64 p.fTo, .int .i64 p.Days]] w fun e w' => ∃ a cap b2, e = .returned (.tuple #[.slice a (dayL p.Days (p.fTo + 1 - p.fFrom).toNat p.fFrom).length cap, .int .i64 0]) ∧ Below w.heap.size w w' ∧
  (dayL p.Days (p.fTo + 1 - p.fFrom).toNat p.fFrom = [] ∨ (b2 < w'.heap.size ∧ w.heap.size ≤ b2)) ∧ ∀ (i : Nat) (d : Int), (dayL p.Days (p.fTo + 1 - p.fFrom).toNat p.fFrom)[i]? = some d → a = some ⟨b2, 0, none⟩ ∧ w'.cell? ⟨b2, 0 + i, none⟩ = some (.int .i64 d) := by
 have hc := c69 (g := []) p
 have hs : s69 p = (dayL p.Days (p.fTo + 1 - p.fFrom).toNat p.fFrom, 0) := by unfold s69; rw [hp]; rfl
 rw [hs] at hc;refine (hc w (fun b => b < w.heap.size) [.agg #[.int .i64 p.fFrom, .int .i64 p.fTo, .int .i64 p.Days]] (fun _ h => h) glOk_nil ⟨⟨_, rfl, ⟨rfl, rfl⟩, ⟨rfl, rfl⟩, ⟨rfl, rfl⟩, trivial⟩, trivial⟩).mono ?_;rintro e w' ⟨v, rfl, h1, us, rfl, h2⟩
 match us, h2 with
 | [u1, u2], h2 =>
  obtain ⟨k1, k2, _⟩ := h2;have k2 : u2 = .int .i64 0 := k2;subst k2;obtain ⟨a, cap, b, rfl, h3, h4⟩ := qlu k1;exact ⟨a, cap, b, rfl, h1, h3.imp id (fun h => ⟨h.1, Nat.le_of_not_lt h.2⟩), h4⟩
set_option maxHeartbeats 1000000 in
theorem series_any (p : S45) (hp : s102 p = 0) (mi : Int) (w : World) : Calls Tryz.prog 156 #[.agg #[.int .i64 p.fFrom, .int .i64 p.fTo, .int .i64 p.Days], .int .i64 mi] w fun e w' => ∃ a cap b1 b2 b3, e = .returned (.func (.func 191) #[] #[.pointer (some ⟨b1, 0, none⟩), .pointer (some ⟨b3, 0, none⟩)]) ∧ Below w.heap.size w w' ∧
  (b1 < w'.heap.size ∧ w.heap.size ≤ b1) ∧ (b3 < w'.heap.size ∧ w.heap.size ≤ b3) ∧ (dayL p.Days (p.fTo + 1 - p.fFrom).toNat p.fFrom = [] ∨ (b2 < w'.heap.size ∧ w.heap.size ≤ b2)) ∧ w'.cell? ⟨b1, 0, none⟩ = some (.slice a (dayL p.Days (p.fTo + 1 - p.fFrom).toNat p.fFrom).length cap) ∧ w'.cell? ⟨b3, 0, none⟩ = some (.int .i64 mi) ∧
  ∀ (i : Nat) (d : Int), (dayL p.Days (p.fTo + 1 - p.fFrom).toNat p.fFrom)[i]? = some d → a = some ⟨b2, 0, none⟩ ∧ w'.cell? ⟨b2, 0 + i, none⟩ = some (.int .i64 d) := by
 have HP := Lib.hid hp; clear hp
 go_enter Tryz.func156, Tryz.ntmps156
 go_wp2_with (go_at_call 69; refine (qkd p HP.out _).mono ?_; rintro e w1 ⟨a, cap, b2, rfl, hB, hb2, hcs⟩; have HC := Lib.hid hcs; clear hcs; have hc2 := (hB.cell (p := ⟨w.heap.size + 1, 0, none⟩) (by simp)))
 go_ret
 have hz : w.heap.size + 2 ≤ w1.heap.size := by have := hB.size; simp at this; omega
 refine ⟨a, cap, w1.heap.size, b2, w.heap.size + 1, rfl, ?_, ?_, ?_, ?_, ?_, ?_, ?_⟩
 ·exact ((((Below.refl _ w).alloc (Nat.le_refl _) _).alloc (by simp) _).trans (hB.mono (by simp; omega))).alloc (by omega) _
 ·simp; omega
 ·simp; omega
 ·rcases hb2 with h | h
  ·exact .inl h
  ·exact .inr (by simp at h ⊢; omega)
 ·simp
 ·exact (((Below.refl _ w1).alloc (Nat.le_refl _) _).cell (p := ⟨w.heap.size + 1, 0, none⟩) (by show w.heap.size + 1 < w1.heap.size; omega)).trans (hc2.trans (by simpa using cell_new_l (w.alloc (.cells #[.int .i64 p.fFrom, .int .i64 p.fTo, .int .i64 p.Days] 46)) (.int .i64 mi) 3))
 ·intro i d hi;obtain ⟨k1, k2⟩ := HC.out i d hi;have hb : b2 < w1.heap.size := block_lt_of_cell k2;exact ⟨k1, (((Below.refl _ w1).alloc (Nat.le_refl _) _).cell (p := ⟨b2, 0 + i, none⟩) hb).trans k2⟩
end Go.Sim
namespace Go.Proofs
open Go.RowKit Go.Shelf
attribute [local go_sem] Oper.semAt_some
structure KeepB (N B : Nat) (W W' : World) : Prop where
 os : W'.os = W.os
 tape : W'.tape = W.tape
 output : W'.output = W.output
 size : W.heap.size ≤ W'.heap.size
 base : N ≤ W.heap.size
 block : ∀ k, k < N → k ≠ B → W'.heap[k]? = W.heap[k]?
theorem KeepB.refl {N B : Nat} {W : World} (h : N ≤ W.heap.size) : KeepB N B W W := ⟨rfl, rfl, rfl, Nat.le_refl _, h, fun _ _ _ => rfl⟩
theorem KeepB.trans {N B : Nat} {A C D : World} (h : KeepB N B A C) (k : KeepB N B C D) : KeepB N B A D :=
 ⟨k.os.trans h.os, k.tape.trans h.tape, k.output.trans h.output, Nat.le_trans h.size k.size, h.base, fun j h1 h2 => (k.block j h1 h2).trans (h.block j h1 h2)⟩
theorem KeepB.grown {N B : Nat} {A C D : World} {row : Option Nat} (h : KeepB N B A C) (k : C.grownBy D row) (hr : ∀ r, row = some r → N ≤ r ∨ r = B) : KeepB N B A D :=
 h.trans ⟨k.os, k.tape, k.output, k.size, Nat.le_trans h.base h.size, fun j h1 h2 => k.block j (Nat.lt_of_lt_of_le h1 (Nat.le_trans h.base h.size)) fun e => by
  rcases hr j e.symm with h | h
  ·omega
  ·exact h2 h⟩
theorem KeepB.cell {N B : Nat} {W W' : World} (h : KeepB N B W W') {b o : Nat} {v : Value} (hb : b < N) (hB : b ≠ B) (hc : W.cell? ⟨b, o, none⟩ = some v) : W'.cell? ⟨b, o, none⟩ = some v :=
 (World.cell?_of_block (a := ⟨b, o, none⟩) (h.block b hb hB)).trans hc
theorem Boxed.appended2 {W w1 : World} {N B : Nat} {t e : TypeId} {size : Nat} {v v' : Value} {k m : Nat} {xs ys : List Value} {tmp : Obj}
  (hv : Boxed W B t v) (hte : t ≠ e) (hrow : W.ownsRow N e size v k xs) (hN : N ≤ W.heap.size)
  (hown' : w1.ownsRow N e size v' m ys) (hgrow : (W.alloc tmp).grownBy w1 v.ownBlock) :
  Boxed w1 B t v ∧ Boxed (w1.setCell ⟨B, 0, none⟩ v') B t v' ∧ (w1.setCell ⟨B, 0, none⟩ v').ownsRow N e size v' m ys ∧ KeepsOthers W (w1.setCell ⟨B, 0, none⟩ v') ∧ KeepB N B W (w1.setCell ⟨B, 0, none⟩ v') := by
 have hv1 : Boxed w1 B t v := (hv.alloc tmp).kept hgrow (hv.not_row hte hrow);refine ⟨hv1, hv1.set v', hown'.kept (grownBy_setCell' w1 B v') (.inr (hv1.not_row hte hown').symm), ?_, ?_⟩
 ·refine ((KeepsOthers.alloc W tmp).trans (KeepsOthers.of_grownBy hgrow fun j o ej hj => ?_)).trans (KeepsOthers.setCell _ _ _)
  rcases (hrow.alloc tmp).2 with ⟨rfl, _⟩ | ⟨g, cap, cur, rfl, _, hgb, _⟩
  ·simp [Value.ownBlock] at ej
  ·obtain rfl : g = j := by simpa [Value.ownBlock] using ej
   rw [hgb] at hj; cases hj; rfl
 ·refine (((KeepB.refl hN).grown (World.grownBy_alloc W tmp none) (fun r e => by cases e)).grown hgrow fun j ej => ?_).grown (grownBy_setCell' w1 B v') (fun r e => by cases e; exact .inr rfl)
  rcases hrow.2 with ⟨rfl, _⟩ | ⟨g, cap, cur, rfl, hb, _, _⟩
  ·simp [Value.ownBlock] at ej
  ·obtain rfl : g = j := by simpa [Value.ownBlock] using ej
   exact .inl hb
def slotVs (nm kd : ByteArray) (x : Int) : List Value := [.string nm, .int .i64 x, .string kd]
theorem qke (w : World) (x y z : Value) (t : TypeId) : ∀ j u, [x, y, z][j]? = some u → (w.alloc (.cells #[x, y, z] t)).cell? ((⟨w.heap.size, 0, none⟩ : Addr).add j) = some u := by
 intro j u hj;rw [Addr.add_lit];rw [cell_of_row _ _ _ _ _ _ (heap_alloc_new w _), Nat.zero_add]
 simpa using hj
theorem qra : (Tryz.prog.info? 152).map (fun i => (i.zero, i.size, i.bytes)) = some (some (.agg #[.string ByteArray.empty, .int .i64 0, .string ByteArray.empty]), 3, 40) := by kernel_rfl
set_option maxRecDepth 100000 in
set_option maxHeartbeats 2000000 in
theorem qkf (nm kd : ByteArray) (p : Sim.S45) (hp : Sim.s102 p = 0) (mi : Int) (hm0 : 0 ≤ mi) (hm1 : mi ≤ 1000000) (w : World) :
  CallsIn Fence.wide 4 Tryz.prog 103 #[.string nm, .string kd, .agg #[.int .i64 p.fFrom, .int .i64 p.fTo, .int .i64 p.Days], .int .i64 mi] w fun e W' => ∃ v, e = .returned v ∧ W'.ownsRow w.heap.size 152 3 v (momL mi (dayL p.Days (p.fTo + 1 - p.fFrom).toNat p.fFrom)).length ((momL mi (dayL p.Days (p.fTo + 1 - p.fFrom).toNat p.fFrom)).flatMap (slotVs nm kd)) ∧ Below w.heap.size w W' := by
 obtain ⟨i0, hi, hz0, hz1, hz2⟩ := info_parts qra;obtain ⟨hq1, hq2, hq3, hq4, _, _⟩ := Sim.period_ok p hp;have hlen := qao p.Days (p.fTo + 1 - p.fFrom).toNat p.fFrom
 have hlen2 : (p.fTo + 1 - p.fFrom).toNat ≤ 401 := by omega
 have hrange : ∀ d ∈ dayL p.Days (p.fTo + 1 - p.fFrom).toNat p.fFrom, 0 ≤ d ∧ d ≤ 1000000 := by
  have : ∀ (n : Nat) (f : Int), ∀ d ∈ dayL p.Days n f, f ≤ d ∧ d < f + n := by
   intro n
   induction n with
   | zero => intro f d h; simp [dayL] at h
   | succ n ih =>
    intro f d h;unfold dayL at h
    split at h
    ·rcases List.mem_cons.1 h with rfl | h
     ·omega
     ·have := ih _ d h; omega
    ·have := ih _ d h; omega
  intro d hd;have := this _ _ d hd
  omega
 have HP := Lib.hid hp; clear hp;have HR := Lib.hid hrange; clear hrange;generalize hds : dayL p.Days (p.fTo + 1 - p.fFrom).toNat p.fFrom = days at *;have HS := Lib.hid hds; clear hds;refine callsIn_of_wp_marks Tryz.func103 rfl trivial ?_ rfl;simp only [Tryz.ntmps103, List.size_toArray, List.length_cons, List.length_nil, Nat.reduceAdd, Nat.reduceSub, Array.replicate_succ, Array.replicate_zero, List.push_toArray, List.append_toArray, List.nil_append, List.cons_append]
 gi_wp2_with (refine ⟨trivial, ?_⟩; gi_at_call 156; refine (callsIn_wide.2 (Sim.series_any p HP.out mi _)).mono ?_; rw [HS.out]; rintro e w1 ⟨a, cap, b1, b2, b3, rfl, hB, hb1, hb3, hb2, hc1, hc3, hcs⟩; have HC := Lib.hid hcs; clear hcs)
 have hzB := hB.size
 simp at hzB
 have bO : Boxed w1 (w.heap.size + 3) 25 (.slice none 0 0) := by
  have := Boxed.new (((w.alloc (.cells #[.string nm] 9)).alloc (.cells #[.string kd] 9)).alloc (.cells #[.int .i64 p.fFrom, .int .i64 p.fTo, .int .i64 p.Days] 46)) 25 (.slice none 0 0);rw [show (((w.alloc (.cells #[.string nm] 9)).alloc (.cells #[.string kd] 9)).alloc (.cells #[.int .i64 p.fFrom, .int .i64 p.fTo, .int .i64 p.Days] 46)).heap.size = w.heap.size + 3 by simp] at this;exact (hB.block (w.heap.size + 3) (by simp)).trans this
 have bN : w1.cell? ⟨w.heap.size, 0, none⟩ = some (.string nm) := (hB.cell (p := ⟨w.heap.size, 0, none⟩) (by simp; omega)).trans (((Boxed.new w 9 (.string nm)).alloc _).alloc _ |>.alloc _).cell
 have bK : w1.cell? ⟨w.heap.size + 1, 0, none⟩ = some (.string kd) := by
  have := ((Boxed.new (w.alloc (.cells #[.string nm] 9)) 9 (.string kd)).alloc (.cells #[.int .i64 p.fFrom, .int .i64 p.fTo, .int .i64 p.Days] 46)).alloc (.cells #[.slice none 0 0] 25);rw [World.size_alloc] at this;exact (hB.cell (p := ⟨w.heap.size + 1, 0, none⟩) (by simp)).trans this.cell
 have hB1 : Below w.heap.size w w1 := ((((Below.refl _ w).alloc (Nat.le_refl _) _).alloc (by simp) _).alloc (by simp; omega) _).alloc (by simp; omega) _ |>.trans (hB.mono (by simp; omega))
 have hml : (momL mi days).length = days.length := by simp [momL]
 obtain ⟨hb1, hb1'⟩ := hb1;obtain ⟨hb3, hb3'⟩ := hb3
 simp at hb1' hb3' hb2
 obtain ⟨c2, hc2a, hc2b, HC2⟩ : ∃ c2, c2 < w1.heap.size ∧ c2 ≠ w.heap.size + 3 ∧ Hid (∀ (i : Nat) (d : Int), days[i]? = some d → a = some ⟨c2, 0, none⟩ ∧ w1.cell? ⟨c2, 0 + i, none⟩ = some (.int .i64 d)) := by
  rcases hb2 with h | h
  ·exact ⟨b1, hb1, by omega, Lib.hid fun i d hi => by rw [h] at hi; simp at hi⟩
  ·exact ⟨b2, h.1, by omega, Lib.hid HC.out⟩
 clear HC hb2
 have hKc : ∀ W W', KeepB w1.heap.size (w.heap.size + 3) W W' → ∀ k, (k = b1 ∨ k = c2 ∨ k = b3) → W'.heap[k]? = W.heap[k]? := by
  rintro W W' hk k (rfl | rfl | rfl)
  ·exact hk.block _ hb1 (by omega)
  ·exact hk.block _ hc2a hc2b
  ·exact hk.block _ hb3 (by omega)
 have HK := Lib.hid hKc; clear hKc;refine wpIn_rangeFunc_ownG rfl (by decide) (gf := 191) (lb := #[.pointer (some ⟨b1, 0, none⟩), .pointer (some ⟨b3, 0, none⟩)]) rfl trivial (enters_of Tryz.func191 (by kernel_rfl) rfl)
  (qfv (KeepB w1.heap.size (w.heap.size + 3)) 3 (by decide) b1 0 c2 0 b3 0 cap a HK.out days mi HR.out hm0 hm1 (by omega) w1 hb1 hb3 hc1 hc3 HC2.out) (fun h k => h.trans k) (fun W l o o' hl h _ _ => (KeepB.refl (by have := (Array.getElem?_eq_some_iff.1 h).1; omega)).grown (grownBy_putObj' W l o') (fun r e => by cases e; exact .inl hl)) (Below.refl _ _) (fun _ => rfl)
  (fun pre W => (∃ v, Boxed W (w.heap.size + 3) 25 v ∧ W.ownsRow w1.heap.size 152 3 v pre.length (pre.flatMap (slotVs nm kd)) ∧ True) ∧ KeepB w1.heap.size (w.heap.size + 3) w1 W)
  (fun _ _ _ => False)
  (OwnFrom.and (Own.from (holdsRow_own w1.heap.size (w.heap.size + 3) 25 152 3 (fun pre : List Int => pre.length) (fun pre => pre.flatMap (slotVs nm kd)) (fun _ _ => True)) _) (fun s W W' row hs hg hr => hs.grown hg (fun r e => .inl (hr r e).1)))
  (fun _ _ _ _ _ hs _ _ => hs)
  ⟨⟨_, bO, World.ownsRow_nil _ _ _ _, trivial⟩, KeepB.refl (Nat.le_refl _)⟩
  (fun x => { tmps := #[Value.string nm, Value.string kd,
     Value.agg #[Value.int IntKind.i64 p.fFrom, Value.int IntKind.i64 p.fTo, Value.int IntKind.i64 p.Days],
     Value.int IntKind.i64 mi, Value.pointer (some { block := w.heap.size, off := 0 }),
     Value.pointer (some { block := w.heap.size + 1, off := 0 }),
     Value.pointer (some { block := w.heap.size + 1 + 1, off := 0 }), undef, Value.slice none 0 0,
     Value.pointer (some { block := w.heap.size + 1 + 1 + 1, off := 0 }), .int .i64 x,
     Value.agg #[Value.int IntKind.i64 p.fFrom, Value.int IntKind.i64 p.fTo, Value.int IntKind.i64 p.Days],
     Value.int IntKind.i64 mi,
     Value.func (Fn.func 191) #[]
      #[Value.pointer (some { block := b1, off := 0 }), Value.pointer (some { block := b3, off := 0 })],
     .int .i64 x, undef, undef, undef, undef, undef, undef, undef, undef], defers := [] }) ?assign ?body ?done ?stop
 case assign =>
  intro l x W K hK
  gi_wp2
  exact hK
 case body =>
  rintro l pre x W ⟨⟨v, hv, hrow, _⟩, hKB⟩ hlt;have hc := hv.cell;have hn1 : W.cell? ⟨w.heap.size, 0, none⟩ = some (.string nm) := hKB.cell (by omega) (by omega) bN;have hn2 : W.cell? ⟨w.heap.size + 1, 0, none⟩ = some (.string kd) := hKB.cell (by omega) (by omega) bK;have hsz := hKB.size
  gi_wp2_with (first | (gi_at_builtin; refine Hid.out ?_))
  refine Lib.hid ?_;refine wpListIn_append_own _ rfl _ _ 25 rfl w1.heap.size 152 i0 (.agg #[.string ByteArray.empty, .int .i64 0, .string ByteArray.empty]) 3 40 Tryz.underlying25 hi hz0 hz1 hz2 rfl (by decide) _ _ _ rfl (hrow.alloc _) ⟨W.heap.size, 0, none⟩ 1 1 (slotVs nm kd x) rfl rfl (qke _ _ _ _ _) (by simp [slotVs, Value.oneCell']) (by unfold maxLen; omega) (by omega) (by simp; omega) ?_;intro v' w2 hown' hgrow _;obtain ⟨g', cap', rfl⟩ := ownsRow_succ hown';obtain ⟨hv1, hv2, hr2, hk2, hb2⟩ := Go.Proofs.Boxed.appended2 hv (by decide) hrow hsz hown' hgrow;have hcc1 := hv1.cell;have hf1 := hv1.frozen
  gi_wp2
  exact ⟨hk2.from _, hb2, ⟨_, hv2, by simpa using hr2, trivial⟩, hKB.trans hb2⟩
 case done =>
  rintro D ys W hD rfl ⟨⟨v, hv, hrow, _⟩, hKB⟩ hK;have hc := hv.cell
  gi_wp2
  refine ⟨by simp, .inl ⟨_, _, rfl, run_takeDeferred hK, ?_⟩⟩
  have hrow' : W.ownsRow w.heap.size 152 3 v (momL mi days).length ((momL mi days).flatMap (slotVs nm kd)) := by
   refine ⟨hrow.1, ?_⟩
   rcases hrow.2 with h | ⟨gg, cp, cur, e1, e2, e3⟩
   ·exact .inl h
   ·exact .inr ⟨gg, cp, cur, e1, by omega, e3⟩
  have hBW : Below w.heap.size w1 W := ⟨hKB.os, hKB.tape, hKB.output, by have := hKB.size; omega, fun k hk => hKB.block k (by omega) (by omega)⟩;exact ⟨_, results_tmp rfl _ _ _, v, rfl, ownsRow_putObj hrow' _ hK rfl, hB1.trans (hBW.trans (belowK_b (w := w1) (by omega) W D _ _ (by omega) hK rfl rfl))⟩
 case stop =>
  rintro D c pre W _ _ h _;exact h.elim
end Go.Proofs
namespace Go.Sim
open Go.Proofs Go.RowKit Go.Shelf
def slotsL (nm kd : ByteArray) (l : List Int) : List S151 := l.map fun x => ⟨nm, x, kd⟩
theorem flat_slots (nm kd : ByteArray) (l : List Int) : ((slotsL nm kd l).map S151.c).flatten = (l.flatMap (slotVs nm kd)).map G.lit := by
 induction l with
 | nil => rfl
 | cons x l ih =>
  show S151.c _ ++ ((slotsL nm kd l).map S151.c).flatten = _;rw [ih]; rfl
theorem c103X {g : List (Nat × List Value)} (nm kd : ByteArray) (p : S45) (mi : Int) (hp : s102 p = 0) (hm0 : 0 ≤ mi) (hm1 : mi ≤ 1000000) : Con (EG g) 103 [G.str nm, G.str kd, G.agg [G.int p.fFrom, G.int p.fTo, G.int p.Days], G.int mi] (G.slX 3 (List.map S151.c (slotsL nm kd (momL mi (dayL p.Days (p.fTo + 1 - p.fFrom).toNat p.fFrom))))) := by
 intro w M vs hM hgl hv
 match vs, hv with
 | [v1, v2, v3, v4], hv =>
  obtain ⟨rfl, rfl, ⟨us, rfl, hu⟩, rfl, _⟩ := hv;have : us = [.int .i64 p.fFrom, .int .i64 p.fTo, .int .i64 p.Days] := fits_lits_eq (vs := [.int .i64 p.fFrom, .int .i64 p.fTo, .int .i64 p.Days]) hu;subst this;refine (callsIn_wide.1 (qkf nm kd p hp mi hm0 hm1 w)).mono ?_;rintro e W' ⟨v, rfl, ⟨h1, h2⟩, h3⟩;refine ⟨v, rfl, h3, fun c hc => ?_, ?_⟩
  ·obtain ⟨x, _, rfl⟩ := List.mem_map.1 hc; rfl
  ·rcases h2 with ⟨rfl, h2⟩ | ⟨gg, cap, cur, rfl, g1, g2, g3, g4, g5, g6⟩
   ·exact .inl ⟨by rw [List.eq_nil_of_length_eq_zero h2]; rfl, rfl⟩
   ·have hlen : (List.map S151.c (slotsL nm kd (momL mi (dayL p.Days (p.fTo + 1 - p.fFrom).toNat p.fFrom)))).length = (momL mi (dayL p.Days (p.fTo + 1 - p.fFrom).toNat p.fFrom)).length := by simp [slotsL]
    refine .inr ⟨gg, cap, cur, 152, by rw [hlen], by rw [hlen]; exact g3, g4, fun hm => by have := hM _ hm; omega, g2, g5, ?_⟩;rw [hlen, g6, flat_slots];refine qei fun v hv => ?_;obtain ⟨x, _, hx⟩ := List.mem_flatMap.1 hv
    simp [slotVs] at hx
    rcases hx with rfl | rfl | rfl <;> rfl
end Go.Sim
namespace Go.Ex
open Go.Proofs (dayL momL slotVs)
open Go.Proofs
section
variable {w0 : World} {ro c : Nat} {ρ : Rh} {h : H} {w : World}
theorem qp3 {w' : World} {b : Nat} {B : B} (hr : Rel w0 ρ h w) (hd : Dom ρ c) (hc : c < 1048576) (hg : Sim.Grow w w') (hb : w.heap.size ≤ b) (hb' : b < w'.heap.size) (hB : B.wr = false) (hbr : BR w' (upd ρ c ⟨b, 0⟩) ⟨b, 0⟩ B) :
  Rel w0 (upd ρ c ⟨b, 0⟩) (hset h c B) w' ∧ Ext ro c ρ w (upd ρ c ⟨b, 0⟩) w' (c + 1) := by
 have hfm : ∀ k, k < w.heap.size → w'.heap[k]? = w.heap[k]? := fun k hk => hg.block k hk;have hsub := qli hd ⟨b, 0⟩;refine ⟨⟨RowKit.Below.trans hr.below (RowKit.Below.mono hg hr.below.size), fun id l hl => ?_, fun id id' l l' b' h1 h2 h3 h4 h5 => ?_⟩, ⟨hsub, hg.size, xq hfm, hg.os, hg.tape, hg.output, fun k hk _ => hfm k hk, fun id l hl => ?_, Nat.le_succ _, fun _ => hc⟩⟩
 ·rw [jl hc];simp only [upd] at hl
  split at hl
  ·rename_i hi
   cases hl
   rw [if_pos hi];exact ⟨B, rfl, hb', hbr, fun e => by rw [hB] at e; cases e⟩
  ·rename_i hi
   rw [if_neg hi];obtain ⟨b1, k1, k2, k3, k4⟩ := hr.blk id l hl;exact ⟨b1, k1, Nat.lt_of_lt_of_le k2 hg.size, BR.mono hsub (xq hfm) k3 (hfm _ k2), k4⟩
 ·rw [jl hc] at h4 ⊢;simp only [upd] at h1 h2
  by_cases hi : id = c
  ·rw [if_pos hi] at h4
   cases h4
   rw [hB] at h5; cases h5
  ·rw [if_neg hi] at h1 h4
   by_cases hi' : id' = c
   ·rw [if_pos hi'] at h2; cases h2;obtain ⟨_, _, k2, _⟩ := hr.blk id l h1
    exfalso; simp at h3; omega
   ·rw [if_neg hi'] at h2 ⊢;exact hr.inj id id' l l' b' h1 h2 h3 h4 h5
 ·simp only [upd] at hl
  split at hl
  ·rename_i hi; cases hl; exact .inr ⟨by omega, by omega, .inl hb⟩
  ·exact .inl hl
theorem qp4 {w' : World} {ρ' : Rh} {k b cap n : Nat} {cur : Array Value} {e : TypeId} {id : Nat} (hid : ρ' id = some ⟨b, 0⟩) (h1 : n ≤ cap) (h2 : cap ≤ maxLen) (h3 : w'.heap[b]? = some (.cells cur e (0, 0))) (h4 : cur.size = cap * k) : VR w' ρ' (.sl id 0 n k none) (.slice (some ⟨b, 0, none⟩) n cap) :=
 .sl hid h1 h2 (.inl rfl) (.inr ⟨rfl, cur, e, (0, 0), h3, by omega⟩)
theorem qfw {l : List Value} {u : Value} (h : VR w ρ (.agg (l.map .lit)) u) : u = .agg l.toArray := by
 cases h with
 | agg h =>
  have : ∀ {l : List Value} {us : List Value}, VC w ρ (l.map .lit) us → us = l := by
   intro l
   induction l with
   | nil => intro us h; cases h; rfl
   | cons x l ih => intro us h; cases h with | cons h _ k => rw [h.lit_inv, ih k]
  rw [this h]
def daysO (a b m : Int) : Option (List Int) := bif decide (Sim.s102 ⟨a, b, m⟩ = 0) then match dayL m (b + 1 - a).toNat a with | [] => none | d :: l => some (d :: l) else none
theorem qiz {a b m : Int} {l : List Int} (h : daysO a b m = some l) : Sim.s102 ⟨a, b, m⟩ = 0 ∧ dayL m (b + 1 - a).toNat a = l ∧ l ≠ [] := by
 unfold daysO at h
 cases hd : decide (Sim.s102 ⟨a, b, m⟩ = 0) with
 | false => rw [hd] at h; cases h
 | true =>
  rw [hd, cond_true] at h
  split at h
  ·cases h
  ·rename_i d t e; cases h; exact ⟨of_decide_eq_true hd, e, by simp⟩
theorem qfx (nm kd : ByteArray) (mi : Int) : ∀ l : List Int, (l.flatMap fun d => slotVs nm kd (1440 * d + mi)).length = l.length * 3
 | [] => rfl
 | x :: l => by
  rw [List.flatMap_cons, List.length_append, qfx nm kd mi l, List.length_cons];show 3 + _ = _
  omega
noncomputable def orc69 (a b m : Int) (h : H) (c : Nat) : Option (V × H × Nat) := match daysO a b m with
 | some l => bif Nat.blt c top then forceN l.length fun n => some (.tup [.sl c 0 n 1 none, .lit (.int .i64 0)], hset h c (.fix (l.map fun d => .lit (.int .i64 d))), c + 1) else none
 | none => none
noncomputable def orc103 (nm kd : ByteArray) (a b m mi : Int) (h : H) (c : Nat) : Option (V × H × Nat) := match daysO a b m with
 | some l => bif Nat.blt c top && decide (0 ≤ mi) && decide (mi ≤ 1000000) then forceN l.length fun n => some (.sl c 0 n 3 none, hset h c (.fix ((l.flatMap fun d => slotVs nm kd (1440 * d + mi)).map .lit)), c + 1) else none
 | none => none
theorem qob {a b m : Int} {v : V} {h' : H} {c' : Nat} (e : orc69 a b m h c = some (v, h', c')) (hr : Rel w0 ρ h w) (hd : Dom ρ c) {args : List Value} (hv : VL w ρ [.agg [.lit (.int .i64 a), .lit (.int .i64 b), .lit (.int .i64 m)]] args) :
  Calls Tryz.prog 69 args.toArray w fun e w' => ∃ u ρ', e = .returned u ∧ Rel w0 ρ' h' w' ∧ Ext ro c ρ w ρ' w' c' ∧ VR w' ρ' v u := by
 unfold orc69 at e
 cases hl : daysO a b m with
 | none => rw [hl] at e; cases e
 | some l =>
  rw [hl] at e;dsimp only at e;obtain ⟨k1, k2, k3⟩ := qiz hl
  cases hc : Nat.blt c top with
  | false => rw [hc] at e; cases e
  | true =>
   rw [hc, cond_true, zf] at e;simp only [Option.some.injEq, Prod.mk.injEq] at e;obtain ⟨rfl, rfl, rfl⟩ := e;have hc : c < 1048576 := Nat.le_of_ble_eq_true hc
   cases hv with
   | cons ha hn =>
    cases hn
    have := qfw (l := [.int .i64 a, .int .i64 b, .int .i64 m]) ha;subst this;have hcon := Sim.c69 (g := []) ⟨a, b, m⟩
    have hs : Sim.s69 ⟨a, b, m⟩ = (l, 0) := by unfold Sim.s69; rw [k1]; exact congrArg (·, (0 : Int)) k2
    rw [hs] at hcon;refine (hcon w (fun b => b < w.heap.size) [.agg #[.int .i64 a, .int .i64 b, .int .i64 m]] (fun _ h => h) Sim.glOk_nil ⟨⟨_, rfl, ⟨rfl, rfl⟩, ⟨rfl, rfl⟩, ⟨rfl, rfl⟩, trivial⟩, trivial⟩).mono ?_;rintro e w' ⟨u, rfl, h1, us, rfl, h2⟩
    match us, h2 with
    | [u1, u2], h2 =>
     obtain ⟨⟨_, q⟩, q2, _⟩ := h2;have q2 : u2 = .int .i64 0 := q2;subst q2
     rcases q with ⟨q, _⟩ | ⟨bb, cap, cur, ty, rfl, q2, q3, q4, q5, q6, q7⟩
     ·exact absurd (by simpa using q) k3
     ·have q4 : w.heap.size ≤ bb := Nat.le_of_not_lt q4;have hlt := (Array.getElem?_eq_some_iff.1 q5).1;rw [List.length_map] at q2 q7;replace q2 : l.length ≤ cap := q2;replace q6 : cur.size = cap * 1 := q6
      have hbr : BR w' (upd ρ c ⟨bb, 0⟩) ⟨bb, 0⟩ (.fix (l.map fun d => .lit (.int .i64 d))) := by
       rw [Sim.flat_ints] at q7;have q8 := Sim.fits_lits_eq q7;refine ⟨cur, ty, (0, 0), q5, by rw [List.length_map, q6]; show 0 + l.length ≤ cap * 1; omega, ?_⟩;rw [List.length_map, show ((⟨bb, 0⟩ : Loc).o) = 0 from rfl, List.drop_zero, ← Nat.mul_one l.length, q8]
       have : (l.map fun d => V.lit (.int .i64 d)) = (l.map (Value.int .i64)).map .lit := by rw [List.map_map]; rfl
       rw [this]
       exact VC.lits fun v hv => by obtain ⟨x, _, rfl⟩ := List.mem_map.1 hv; rfl
      obtain ⟨g1, g2⟩ := qp3 (ro := ro) hr hd hc h1 q4 hlt rfl hbr;refine ⟨_, _, rfl, g1, g2, .tup (.cons ?_ (.cons (.lit _) .nil))⟩;rw [List.length_map];exact qp4 (by simp [upd]) q2 q3 q5 q6
theorem qlv {nm kd : ByteArray} {a b m mi : Int} {v : V} {h' : H} {c' : Nat} (e : orc103 nm kd a b m mi h c = some (v, h', c')) (hr : Rel w0 ρ h w) (hd : Dom ρ c) {args : List Value} (hv : VL w ρ [.lit (.string nm), .lit (.string kd), .agg [.lit (.int .i64 a), .lit (.int .i64 b), .lit (.int .i64 m)], .lit (.int .i64 mi)] args) :
  Calls Tryz.prog 103 args.toArray w fun e w' => ∃ u ρ', e = .returned u ∧ Rel w0 ρ' h' w' ∧ Ext ro c ρ w ρ' w' c' ∧ VR w' ρ' v u := by
 unfold orc103 at e
 cases hl : daysO a b m with
 | none => rw [hl] at e; cases e
 | some l =>
  rw [hl] at e;dsimp only at e;obtain ⟨k1, k2, k3⟩ := qiz hl
  cases hc : (Nat.blt c top && decide (0 ≤ mi) && decide (mi ≤ 1000000)) with
  | false => rw [hc] at e; cases e
  | true =>
   rw [hc, cond_true, zf] at e;simp only [Option.some.injEq, Prod.mk.injEq] at e;obtain ⟨rfl, rfl, rfl⟩ := e;simp only [Bool.and_eq_true] at hc;have hm0 := of_decide_eq_true hc.1.2;have hm1 := of_decide_eq_true hc.2;have hc : c < 1048576 := Nat.le_of_ble_eq_true hc.1.1
   cases hv with
   | cons v1 hv =>
    cases hv with
    | cons v2 hv =>
     cases hv with
     | cons ha hv =>
      cases hv with
      | cons v4 hv =>
       cases hv
       have := qfw (l := [.int .i64 a, .int .i64 b, .int .i64 m]) ha;subst this;have := v1.lit_inv; subst this;have := v2.lit_inv; subst this;have := v4.lit_inv; subst this;have hcon := Sim.c103X (g := []) nm kd ⟨a, b, m⟩ mi k1 hm0 hm1;dsimp only at hcon;rw [k2] at hcon;refine (hcon w (fun b => b < w.heap.size) [.string nm, .string kd, .agg #[.int .i64 a, .int .i64 b, .int .i64 m], .int .i64 mi] (fun _ h => h) Sim.glOk_nil ⟨rfl, rfl, ⟨_, rfl, ⟨rfl, rfl⟩, ⟨rfl, rfl⟩, ⟨rfl, rfl⟩, trivial⟩, rfl, trivial⟩).mono ?_;rintro e w' ⟨u, rfl, h1, _, q⟩
       have hlen : (List.map Sim.S151.c (Sim.slotsL nm kd (momL mi l))).length = l.length := by simp [Sim.slotsL, momL]
       rcases q with ⟨q, _⟩ | ⟨bb, cap, cur, ty, rfl, q2, q3, q4, q5, q6, q7⟩
       ·exact absurd (by simpa [Sim.slotsL, momL] using q) k3
       ·have q4 : w.heap.size ≤ bb := Nat.le_of_not_lt q4;have hlt := (Array.getElem?_eq_some_iff.1 q5).1;rw [hlen] at q2 q7
        have hfl : (momL mi l).flatMap (slotVs nm kd) = l.flatMap fun d => slotVs nm kd (1440 * d + mi) := by simp [momL, List.flatMap_map]
        have hfn := qfx nm kd mi l
        have hbr : BR w' (upd ρ c ⟨bb, 0⟩) ⟨bb, 0⟩ (.fix ((l.flatMap fun d => slotVs nm kd (1440 * d + mi)).map .lit)) := by
         rw [Sim.flat_slots, hfl] at q7;have q8 := Sim.fits_lits_eq q7;refine ⟨cur, ty, (0, 0), q5, by rw [List.length_map, hfn, q6]; show 0 + l.length * 3 ≤ cap * 3; omega, ?_⟩;rw [List.length_map, show ((⟨bb, 0⟩ : Loc).o) = 0 from rfl, List.drop_zero, hfn, q8];refine VC.lits fun v hv => ?_;obtain ⟨x, _, hx⟩ := List.mem_flatMap.1 hv
         simp [slotVs] at hx
         rcases hx with rfl | rfl | rfl <;> rfl
        obtain ⟨g1, g2⟩ := qp3 (ro := ro) hr hd hc h1 q4 hlt rfl hbr;refine ⟨_, _, rfl, g1, g2, ?_⟩;rw [hlen];exact qp4 (by simp [upd]) q2 q3 q5 q6
theorem qrb {a b m : Int} {v : V} {ro : Nat} {h' : H} {c' : Nat} (e : orc69 a b m h c = some (v, h', c')) : Keep ro c h h' ∧ c ≤ c' ∧ c' ≤ 1048576 := by
 unfold orc69 at e
 cases hl : daysO a b m with
 | none => rw [hl] at e; cases e
 | some l =>
  rw [hl] at e;dsimp only at e
  cases hc : Nat.blt c top with
  | false => rw [hc] at e; cases e
  | true =>
   rw [hc, cond_true, zf] at e;simp only [Option.some.injEq, Prod.mk.injEq] at e;obtain ⟨rfl, rfl, rfl⟩ := e;have hc : c < 1048576 := Nat.le_of_ble_eq_true hc;exact ⟨fun id _ h2 => by rw [jl hc, if_neg (by omega)], Nat.le_succ _, hc⟩
theorem qoc {nm kd : ByteArray} {a b m mi : Int} {v : V} {ro : Nat} {h' : H} {c' : Nat} (e : orc103 nm kd a b m mi h c = some (v, h', c')) : Keep ro c h h' ∧ c ≤ c' ∧ c' ≤ 1048576 := by
 unfold orc103 at e
 cases hl : daysO a b m with
 | none => rw [hl] at e; cases e
 | some l =>
  rw [hl] at e;dsimp only at e
  cases hc : (Nat.blt c top && decide (0 ≤ mi) && decide (mi ≤ 1000000)) with
  | false => rw [hc] at e; cases e
  | true =>
   rw [hc, cond_true, zf] at e;simp only [Option.some.injEq, Prod.mk.injEq] at e;obtain ⟨rfl, rfl, rfl⟩ := e;simp only [Bool.and_eq_true] at hc;have hc : c < 1048576 := Nat.le_of_ble_eq_true hc.1.1;exact ⟨fun id _ h2 => by rw [jl hc, if_neg (by omega)], Nat.le_succ _, hc⟩
end
end Go.Ex
namespace Go.Ex
open Go.Proofs
def gl (g : Nat) : Bool := Nat.beq g 0 || Nat.beq g 1
noncomputable def h0 : H := hset (hset .nil 0 (.fix (Sim.statusCells.map .lit))) 1 (.fix (Sim.lengthCells.map .lit))
def isInt (n : Int) : Re (V × H × Nat) → Bool
 | .ok (.lit (.int .i64 m), _, _) => decide (m = n)
 | _ => false
def isBool (b : Bool) : Re (V × H × Nat) → Bool
 | .ok (.lit (.bool m), _, _) => m == b
 | _ => false
theorem xr {n : Int} {r : Re (V × H × Nat)} (h : isInt n r = true) : ∃ h' c', r = .ok (.lit (.int .i64 n), h', c') := by
 unfold isInt at h
 split at h
 ·rename_i m h' c'; exact ⟨h', c', by rw [of_decide_eq_true h]⟩
 ·cases h
theorem qlw {b : Bool} {r : Re (V × H × Nat)} (h : isBool b r = true) : ∃ h' c', r = .ok (.lit (.bool b), h', c') := by
 unfold isBool at h
 split at h
 ·rename_i m h' c'; exact ⟨h', c', by rw [of_decide_eq_true (by simpa using h) |> fun (e : m = b) => e]⟩
 ·cases h
theorem qfy {c0 : Nat} (hc : 2 ≤ c0) : ∀ g, gl g = true → g < c0 ∧ ∃ vs : List Value, vs ≠ [] ∧ (g, vs) ∈ Sim.glT ∧ h0.get g = some (.fix (vs.map .lit)) := by
 intro g hg
 have hgg : g = 0 ∨ g = 1 := by simpa [gl, Nat.beq_eq] using hg
 rcases hgg with rfl | rfl
 ·refine ⟨by omega, Sim.statusCells, by unfold Sim.statusCells; simp, by unfold Sim.glT; simp, ?_⟩;unfold h0;rw [jl (by decide), if_neg (by decide), jl (by decide), if_pos rfl]
 ·refine ⟨by omega, Sim.lengthCells, by unfold Sim.lengthCells; simp, by unfold Sim.glT; simp, ?_⟩;unfold h0;rw [jl (by decide), if_pos rfl]
theorem qhj : isInt 85 (call Tryz.prog gl (fun _ _ _ _ _ => none) 40 189 [.lit (.int .i64 2000), .lit (.int .i64 3)] h0 1000 1000) = true := by kernel_rfl
theorem qhk : Sim.Con (Sim.EG Sim.glT) 189 [Sim.G.int 2000, Sim.G.int 3] (Sim.G.int 85) := by
 obtain ⟨h', c', h⟩ := xr qhj;exact j8 (vs := [.int .i64 2000, .int .i64 3]) xt vz (by decide) (qfy (by decide)) h
theorem qhl : isInt 99800 (call Tryz.prog gl (fun _ _ _ _ _ => none) 40 189 [.lit (.int .i64 2273), .lit (.int .i64 3)] h0 1000 1000) = true := by kernel_rfl
theorem qhm : Sim.Con (Sim.EG Sim.glT) 189 [Sim.G.int 2273, Sim.G.int 3] (Sim.G.int 99800) := by
 obtain ⟨h', c', h⟩ := xr qhl;exact j8 (vs := [.int .i64 2273, .int .i64 3]) xt vz (by decide) (qfy (by decide)) h
theorem qhn : isInt 9220 (call Tryz.prog gl (fun _ _ _ _ _ => none) 40 189 [.lit (.int .i64 2025), .lit (.int .i64 3)] h0 1000 1000) = true := by kernel_rfl
theorem qho : Sim.Con (Sim.EG Sim.glT) 189 [Sim.G.int 2025, Sim.G.int 3] (Sim.G.int 9220) := by
 obtain ⟨h', c', h⟩ := xr qhn;exact j8 (vs := [.int .i64 2025, .int .i64 3]) xt vz (by decide) (qfy (by decide)) h
theorem qfz : isInt 9430 (call Tryz.prog gl (fun _ _ _ _ _ => none) 40 189 [.lit (.int .i64 2025), .lit (.int .i64 10)] h0 1000 1000) = true := by kernel_rfl
theorem qf0 : Sim.Con (Sim.EG Sim.glT) 189 [Sim.G.int 2025, Sim.G.int 10] (Sim.G.int 9430) := by
 obtain ⟨h', c', h⟩ := xr qfz;exact j8 (vs := [.int .i64 2025, .int .i64 10]) xt vz (by decide) (qfy (by decide)) h
theorem qhp : isInt 9584 (call Tryz.prog gl (fun _ _ _ _ _ => none) 40 189 [.lit (.int .i64 2026), .lit (.int .i64 3)] h0 1000 1000) = true := by kernel_rfl
theorem qhq : Sim.Con (Sim.EG Sim.glT) 189 [Sim.G.int 2026, Sim.G.int 3] (Sim.G.int 9584) := by
 obtain ⟨h', c', h⟩ := xr qhp;exact j8 (vs := [.int .i64 2026, .int .i64 3]) xt vz (by decide) (qfy (by decide)) h
theorem qf1 : isInt 9794 (call Tryz.prog gl (fun _ _ _ _ _ => none) 40 189 [.lit (.int .i64 2026), .lit (.int .i64 10)] h0 1000 1000) = true := by kernel_rfl
theorem qf2 : Sim.Con (Sim.EG Sim.glT) 189 [Sim.G.int 2026, Sim.G.int 10] (Sim.G.int 9794) := by
 obtain ⟨h', c', h⟩ := xr qf1;exact j8 (vs := [.int .i64 2026, .int .i64 10]) xt vz (by decide) (qfy (by decide)) h
end Go.Ex
namespace Go.Ex
open Go.Proofs
noncomputable def tab189 (y m : Int) : Option Int :=
 bif decide (y = 2000) && decide (m = 3) then some 85 else
 bif decide (y = 2273) && decide (m = 3) then some 99800 else
 bif decide (y = 2025) && decide (m = 3) then some 9220 else
 bif decide (y = 2025) && decide (m = 10) then some 9430 else
 bif decide (y = 2026) && decide (m = 3) then some 9584 else
 bif decide (y = 2026) && decide (m = 10) then some 9794 else none
theorem qlx {y m n : Int} (h : tab189 y m = some n) : Sim.Con (Sim.EG Sim.glT) 189 [Sim.G.int y, Sim.G.int m] (Sim.G.int n) := by
 unfold tab189 at h;simp only [cond_eq_ite, Bool.and_eq_true, decide_eq_true_eq] at h
 split at h
 ·rename_i e; cases h; rw [e.1, e.2]; exact qhk
 split at h
 ·rename_i e; cases h; rw [e.1, e.2]; exact qhm
 split at h
 ·rename_i e; cases h; rw [e.1, e.2]; exact qho
 split at h
 ·rename_i e; cases h; rw [e.1, e.2]; exact qf0
 split at h
 ·rename_i e; cases h; rw [e.1, e.2]; exact qhq
 split at h
 ·rename_i e; cases h; rw [e.1, e.2]; exact qf2
 ·cases h
noncomputable def orc147 (s : ByteArray) (h : H) (c : Nat) : Option (V × H × Nat) := bif Sim.s147 s then some (.lit (.bool true), h, c) else some (.lit (.bool false), h, c)
theorem qf3 (s : ByteArray) (h : H) (c : Nat) : orc147 s h c = some (.lit (.bool (Sim.s147 s)), h, c) := by
 unfold orc147; cases Sim.s147 s <;> rfl
noncomputable def orc189 (y m : Int) (h : H) (c : Nat) : Option (V × H × Nat) := match tab189 y m with
 | some n => some (.lit (.int .i64 n), h, c)
 | none => none
noncomputable def orc : Orc := fun f xs h c _ => match f, xs with
 | 69, [.agg [.lit (.int .i64 a), .lit (.int .i64 b), .lit (.int .i64 m)]] => orc69 a b m h c
 | 103, [.lit (.string nm), .lit (.string kd), .agg [.lit (.int .i64 a), .lit (.int .i64 b), .lit (.int .i64 m)], .lit (.int .i64 x)] => orc103 nm kd a b m x h c
 | 147, [.lit (.string s)] => orc147 s h c
 | 189, [.lit (.int .i64 y), .lit (.int .i64 m)] => orc189 y m h c
 | _, _ => none
theorem qvt : OrcK orc := by
 intro f xs h c ro v h' c' e hc;unfold orc at e
 split at e
 ·exact qrb e
 ·exact qoc e
 ·rw [qf3] at e; cases e; exact ⟨fun _ _ _ => rfl, Nat.le_refl _, hc⟩
 ·unfold orc189 at e
  split at e
  ·cases e; exact ⟨fun _ _ _ => rfl, Nat.le_refl _, hc⟩
  ·cases e
 ·cases e
theorem qto : OrcOk (Sim.EG Sim.glT).P gl (GWof (Sim.EG Sim.glT)) orc := by
 intro f xs h c ro v h' c' e;dsimp only at e
 cases ho : orc f xs h c ro with
 | none => rw [ho] at e; cases e
 | some r =>
  rw [ho] at e
  cases e
  unfold orc at ho
  split at ho
  ·exact ⟨⟨_, Tryz.func69, by kernel_rfl, by kernel_rfl⟩, fun w0 ρ w args _ hr hd hc _ hv => qob ho hr hd hv⟩
  ·exact ⟨⟨_, Tryz.func103, by kernel_rfl, by kernel_rfl⟩, fun w0 ρ w args _ hr hd hc _ hv => qlv ho hr hd hv⟩
  ·rename_i s
   rw [qf3] at ho; cases ho;exact qf4 (E := Sim.EG Sim.glT) (vs := [.string s]) ⟨_, Tryz.func147, by kernel_rfl, by kernel_rfl⟩ (Sim.c147 s)
  ·rename_i y m
   unfold orc189 at ho
   split at ho
   ·rename_i n hn
    cases ho
    exact qf4 (E := Sim.EG Sim.glT) (vs := [.int .i64 y, .int .i64 m]) ⟨_, Tryz.func189, by kernel_rfl, by kernel_rfl⟩ (qlx hn)
   ·cases ho
  ·cases ho
end Go.Ex
