/-
  What is proved: contracts of functions, printed by a program of this claim: the first part.
-/
import Derived.Test.YtdfgeoefbbkcnaaGreatDoorVaF1
set_option linter.unusedSectionVars false
set_option linter.unusedSimpArgs false
set_option linter.unusedVariables false
set_option linter.unnecessarySimpa false
set_option linter.deprecated false
set_option linter.unusedSimpArgs false
set_option linter.unusedVariables false
set_option maxRecDepth 10000
namespace Go.Sim
open Go.Proofs
def s86 (a0 : Bool) (a1 : Int) : Int :=
 (bif a0 then a1 else 0)
theorem c86 {g : List (Nat × List Value)} (a0 : Bool) (a1 : Int)    : Con (EG g) 86 [G.bool a0, G.int a1] (G.int (s86 a0 a1)) := by
 generalize hR : s86 a0 a1 = R
 unfold s86 at hR
 refine qp Tryz.func86 rfl rfl fun w0 M0 => ?_
 refine qd ?_
 refine qb [.p] ?_
 refine st rfl rfl (qc rfl rfl) rfl ?_
 refine qe ?_
 refine qd ?_
 refine qd ?_
 refine qb [.p] ?_
 refine st rfl rfl (qa rfl rfl) rfl ?_
 refine qe ?_
 refine qm _ rfl (fun h1 => ?_) (fun h1 => ?_)
 ·replace h1 : (a0) = true := h1
  replace hR := zk hR h1
  refine qd ?_
  refine qb [.p, .p] ?_
  refine st rfl rfl (qa rfl rfl) rfl ?_
  refine st rfl rfl (qc rfl rfl) rfl ?_
  refine qe ?_
  refine qr ?_
  subst hR
  exact zb rfl (rv_g rfl)
 ·replace h1 : (a0) = false := h1
  replace hR := zl hR h1
  refine qo ?_
  refine qd ?_
  refine qb [.p] ?_
  refine st rfl rfl (qc rfl rfl) rfl ?_
  refine qe ?_
  refine qr ?_
  subst hR
  exact zb rfl (rv_g rfl)
def s85 (a0 : Int) (a1 : Int) (a2 : Int) : Int :=
 (s86 ((decide (a0 < a1)) || (decide (a2 < a0))) 3)
theorem c85 {g : List (Nat × List Value)} (a0 : Int) (a1 : Int) (a2 : Int)    : Con (EG g) 85 [G.int a0, G.int a1, G.int a2] (G.int (s85 a0 a1 a2)) := by
 generalize hR : s85 a0 a1 a2 = R
 unfold s85 at hR
 refine qp Tryz.func85 rfl rfl fun w0 M0 => ?_
 refine qd ?_
 refine qb [.p] ?_
 refine st rfl rfl (qc rfl rfl) rfl ?_
 refine qe ?_
 refine qd ?_
 refine qb [.p, .p, .p, .p, .p, .p, .p, .p, .p, .p] ?_
 refine st rfl rfl (qa rfl rfl) rfl ?_
 refine st rfl rfl (qa rfl rfl) rfl ?_
 refine st rfl rfl (ze rfl rfl rfl) rfl ?_
 refine st rfl rfl (qa rfl rfl) rfl ?_
 refine st_g rfl rfl rfl (qg _ _) (fun h => qa rfl rfl) rfl ?_
 refine st_g rfl rfl rfl (qg _ _) (fun h => qa rfl rfl) rfl ?_
 refine st_g rfl rfl rfl (qg _ _) (fun h => zy rfl (gd h rfl) (gd h rfl)) rfl ?_
 refine st rfl rfl (z8 rfl rfl rfl rfl) rfl ?_
 refine st rfl rfl (qj rfl K86 rfl (c86 ((decide (a0 < a1)) || (decide (a2 < a0))) 3) (qh rfl (qh rfl qk))) rfl ?_
 refine st rfl rfl (qc rfl rfl) rfl ?_
 refine qe ?_
 refine qr ?_
 subst hR
 exact zb rfl (rv_g rfl)
def s84_l1  : List Int → Nat → Int
 | [], k2 => 0
 | y3 :: t4, k2 => (bif decide (y3 ≠ 0) then y3 else s84_l1  t4 (k2 + 1))
def s84 (a0 : List Int) : Int :=
 s84_l1 a0 0
theorem c84 {g : List (Nat × List Value)} (a0 : List Int)    : Con (EG g) 84 [G.sl 1 (List.map cInt a0)] (G.int (s84 a0)) := by
 generalize hR : s84 a0 = R
 unfold s84 at hR
 refine qp Tryz.func84 rfl rfl fun w0 M0 => ?_
 refine zc (f := cInt) (l := a0) 0 rfl fun hla0 => ?_
 refine qd ?_
 refine qb [.p] ?_
 refine st rfl rfl (qc rfl rfl) rfl ?_
 refine qe ?_
 refine qd ?_
 refine qd ?_
 refine qb [.p, .p, .p] ?_
 refine st rfl rfl (qa rfl rfl) rfl ?_
 refine st rfl rfl (q9 (f := cInt) (l := a0) rfl Tryz.underlying170 rfl) rfl ?_
 refine st rfl rfl (qa rfl rfl) rfl ?_
 refine qe ?_
 refine qn ?_
 refine qx (γ := Nat × (List Int)) (fun g => ([(5, .g (G.sl 1 (List.map cInt a0))), (6, .g (G.int (List.length a0 : Int))), (7, .g (G.int ((g.1 : Nat) : Int)))], [])) (fun g => a0.drop g.1 = g.2 ∧ s84_l1  g.2 g.1 = R) (fun g => List.length g.2) ⟨rfl, (0, a0), ⟨rfl, rfl, rfl, trivial⟩, trivial, rfl, ⟨rfl, hR⟩, trivial⟩ ?_
 ·rintro ⟨k2, t4⟩ ⟨hd, hR⟩
  replace hd : a0.drop k2 = t4 := hd
  replace hR : s84_l1  t4 k2 = R := hR
  refine qd ?_
  refine qb [.p] ?_
  refine st rfl rfl (ze rfl rfl rfl) rfl ?_
  refine qe ?_
  refine zc (f := cInt) (l := a0) 5 rfl fun hlz1 => ?_
  refine qd ?_
  refine qm _ rfl (fun h1 => ?_) (fun h1 => ?_)
  ·replace h1 : (decide (((k2 : Nat) : Int) < (List.length a0 : Int))) = true := h1
   obtain ⟨y3, t4, rfl, hx1, hd⟩ := zh hd (decT h1)
   replace h1 := decT h1
   rw [s84_l1] at hR
   try dsimp only at hR
   refine qo ?_
   refine qd ?_
   refine qn ?_
   refine qd ?_
   refine qb [.p, .p, .p] ?_
   refine st rfl rfl (zi (f := cInt) (l := a0) (a := y3) rfl Tryz.underlying170 ty37 rfl rfl (Int.natCast_nonneg _) hx1) rfl ?_
   refine st rfl rfl (qi rfl ty37 rfl) rfl ?_
   refine st rfl rfl (qc rfl rfl) rfl ?_
   refine qe ?_
   refine qd ?_
   refine qb [.p, .p] ?_
   refine st rfl rfl (qa rfl rfl) rfl ?_
   refine st rfl rfl (zz rfl rfl rfl) rfl ?_
   refine qe ?_
   refine qm _ rfl (fun h3 => ?_) (fun h3 => ?_)
   ·replace h3 : (decide (y3 ≠ 0)) = true := h3
    replace hR := zk hR h3
    refine qd ?_
    refine qb [.p, .p] ?_
    refine st rfl rfl (qa rfl rfl) rfl ?_
    refine st rfl rfl (qc rfl rfl) rfl ?_
    refine qe ?_
    refine qr ?_
    subst hR
    exact zb rfl (rv_g rfl)
   ·replace h3 : (decide (y3 ≠ 0)) = false := h3
    replace hR := zl hR h3
    try simp only [decide_eq_false_iff_not] at h3
    refine qo ?_
    refine qb [.p, .p] ?_
    refine st rfl rfl (zj rfl rfl rfl (by unfold I64; omega)) rfl ?_
    refine st rfl rfl (qa rfl rfl) rfl ?_
    refine qe ?_
    exact ⟨rfl, (k2 + 1, t4), ⟨rfl, rfl, rfl, trivial⟩, trivial, rfl, ⟨hd, hR⟩, by simp⟩
  ·replace h1 : (decide (((k2 : Nat) : Int) < (List.length a0 : Int))) = false := h1
   obtain rfl := zm hd (decF h1)
   rw [s84_l1] at hR
   refine zg ?_
   refine qd ?_
   refine qb [.p] ?_
   refine st rfl rfl (qc rfl rfl) rfl ?_
   refine qe ?_
   refine qr ?_
   subst hR
   exact zb rfl (rv_g rfl)
def s90 (a0 : Int) (a1 : Int) (a2 : Int) : Int :=
 (bif (decide (a0 < a1)) || (decide (a2 < a0)) then 3 else 0)
theorem c90 {g : List (Nat × List Value)} (a0 : Int) (a1 : Int) (a2 : Int)    : Con (EG g) 90 [G.int a0, G.int a1, G.int a2] (G.int (s90 a0 a1 a2)) := by
 generalize hR : s90 a0 a1 a2 = R
 unfold s90 at hR
 refine qp Tryz.func90 rfl rfl fun w0 M0 => ?_
 refine qd ?_
 refine qb [.p] ?_
 refine st rfl rfl (qc rfl rfl) rfl ?_
 refine qe ?_
 refine qd ?_
 refine qd ?_
 refine qb [.p, .p, .p, .p, .p, .p, .p, .p] ?_
 refine st rfl rfl (qa rfl rfl) rfl ?_
 refine st rfl rfl (qa rfl rfl) rfl ?_
 refine st rfl rfl (ze rfl rfl rfl) rfl ?_
 refine st rfl rfl (qa rfl rfl) rfl ?_
 refine st_g rfl rfl rfl (qg _ _) (fun h => qa rfl rfl) rfl ?_
 refine st_g rfl rfl rfl (qg _ _) (fun h => qa rfl rfl) rfl ?_
 refine st_g rfl rfl rfl (qg _ _) (fun h => zy rfl (gd h rfl) (gd h rfl)) rfl ?_
 refine st rfl rfl (z8 rfl rfl rfl rfl) rfl ?_
 refine qe ?_
 refine qm _ rfl (fun h1 => ?_) (fun h1 => ?_)
 ·replace h1 : ((decide (a0 < a1)) || (decide (a2 < a0))) = true := h1
  replace hR := zk hR h1
  refine qd ?_
  refine qb [.p] ?_
  refine st rfl rfl (qc rfl rfl) rfl ?_
  refine qe ?_
  refine qr ?_
  subst hR
  exact zb rfl (rv_g rfl)
 ·replace h1 : ((decide (a0 < a1)) || (decide (a2 < a0))) = false := h1
  replace hR := zl hR h1
  refine qo ?_
  refine qd ?_
  refine qb [.p] ?_
  refine st rfl rfl (qc rfl rfl) rfl ?_
  refine qe ?_
  refine qr ?_
  subst hR
  exact zb rfl (rv_g rfl)
def s89_l1  : List Int → Nat → Int
 | [], k2 => 0
 | y3 :: t4, k2 => (bif decide (y3 ≠ 0) then y3 else s89_l1  t4 (k2 + 1))
def s89 (a0 : List Int) : Int :=
 s89_l1 a0 0
theorem c89 {g : List (Nat × List Value)} (a0 : List Int)    : Con (EG g) 89 [G.sl 1 (List.map cInt a0)] (G.int (s89 a0)) := by
 generalize hR : s89 a0 = R
 unfold s89 at hR
 refine qp Tryz.func89 rfl rfl fun w0 M0 => ?_
 refine zc (f := cInt) (l := a0) 0 rfl fun hla0 => ?_
 refine qd ?_
 refine qb [.p] ?_
 refine st rfl rfl (qc rfl rfl) rfl ?_
 refine qe ?_
 refine qd ?_
 refine qd ?_
 refine qb [.p] ?_
 refine st rfl rfl (qc rfl rfl) rfl ?_
 refine qe ?_
 refine qn ?_
 refine qx (γ := Nat × (List Int)) (fun g => ([(0, .g (G.sl 1 (List.map cInt a0))), (3, .g (G.int ((g.1 : Nat) : Int)))], [])) (fun g => a0.drop g.1 = g.2 ∧ s89_l1  g.2 g.1 = R) (fun g => List.length g.2) ⟨rfl, (0, a0), ⟨rfl, rfl, trivial⟩, trivial, rfl, ⟨rfl, hR⟩, trivial⟩ ?_
 ·rintro ⟨k2, t4⟩ ⟨hd, hR⟩
  replace hd : a0.drop k2 = t4 := hd
  replace hR : s89_l1  t4 k2 = R := hR
  refine qd ?_
  refine qd ?_
  refine qb [.p, .p, .p, .p] ?_
  refine st rfl rfl (qa rfl rfl) rfl ?_
  refine st rfl rfl (qa rfl rfl) rfl ?_
  refine st rfl rfl (q9 (f := cInt) (l := a0) rfl Tryz.underlying82 rfl) rfl ?_
  refine st rfl rfl (ze rfl rfl rfl) rfl ?_
  refine qe ?_
  refine zc (f := cInt) (l := a0) 0 rfl fun hlz1 => ?_
  refine qm _ rfl (fun h1 => ?_) (fun h1 => ?_)
  ·replace h1 : (decide (((k2 : Nat) : Int) < (List.length a0 : Int))) = true := h1
   obtain ⟨y3, t4, rfl, hx1, hd⟩ := zh hd (decT h1)
   replace h1 := decT h1
   rw [s89_l1] at hR
   try dsimp only at hR
   refine qo ?_
   refine qd ?_
   refine qn ?_
   refine qd ?_
   refine qb [.p, .p, .p, .p, .p] ?_
   refine st rfl rfl (qa rfl rfl) rfl ?_
   refine st rfl rfl (qa rfl rfl) rfl ?_
   refine st rfl rfl (zi (f := cInt) (l := a0) (a := y3) rfl Tryz.underlying82 ty3 rfl rfl (Int.natCast_nonneg _) hx1) rfl ?_
   refine st rfl rfl (qi rfl ty3 rfl) rfl ?_
   refine st rfl rfl (zz rfl rfl rfl) rfl ?_
   refine qe ?_
   refine qm _ rfl (fun h3 => ?_) (fun h3 => ?_)
   ·replace h3 : (decide (y3 ≠ 0)) = true := h3
    replace hR := zk hR h3
    refine qd ?_
    refine qb [.p, .p, .p, .p, .p] ?_
    refine st rfl rfl (qa rfl rfl) rfl ?_
    refine st rfl rfl (qa rfl rfl) rfl ?_
    refine st rfl rfl (zi (f := cInt) (l := a0) (a := y3) rfl Tryz.underlying82 ty3 rfl rfl (Int.natCast_nonneg _) hx1) rfl ?_
    refine st rfl rfl (qi rfl ty3 rfl) rfl ?_
    refine st rfl rfl (qc rfl rfl) rfl ?_
    refine qe ?_
    refine qr ?_
    subst hR
    exact zb rfl (rv_g rfl)
   ·replace h3 : (decide (y3 ≠ 0)) = false := h3
    replace hR := zl hR h3
    try simp only [decide_eq_false_iff_not] at h3
    refine qo ?_
    refine qb [.p, .p, .p] ?_
    refine st rfl rfl (qa rfl rfl) rfl ?_
    refine st rfl rfl (zj rfl rfl rfl (by unfold I64; omega)) rfl ?_
    refine st rfl rfl (qc rfl rfl) rfl ?_
    refine qe ?_
    exact ⟨rfl, (k2 + 1, t4), ⟨rfl, rfl, trivial⟩, trivial, rfl, ⟨hd, hR⟩, by simp⟩
  ·replace h1 : (decide (((k2 : Nat) : Int) < (List.length a0 : Int))) = false := h1
   obtain rfl := zm hd (decF h1)
   rw [s89_l1] at hR
   refine zg ?_
   refine qd ?_
   refine qb [.p] ?_
   refine st rfl rfl (qc rfl rfl) rfl ?_
   refine qe ?_
   refine qr ?_
   subst hR
   exact zb rfl (rv_g rfl)
def s154 (a0 : Bool) (a1 : Int) : Int :=
 (bif a0 then a1 else 0)
theorem c154 {g : List (Nat × List Value)} (a0 : Bool) (a1 : Int)    : Con (EG g) 154 [G.bool a0, G.int a1] (G.int (s154 a0 a1)) := by
 generalize hR : s154 a0 a1 = R
 unfold s154 at hR
 refine qp Tryz.func154 rfl rfl fun w0 M0 => ?_
 refine qd ?_
 refine qb [.p] ?_
 refine st rfl rfl (qc rfl rfl) rfl ?_
 refine qe ?_
 refine qd ?_
 refine qd ?_
 refine qb [.p] ?_
 refine st rfl rfl (qa rfl rfl) rfl ?_
 refine qe ?_
 refine qm _ rfl (fun h1 => ?_) (fun h1 => ?_)
 ·replace h1 : (a0) = true := h1
  replace hR := zk hR h1
  refine qd ?_
  refine qb [.p, .p] ?_
  refine st rfl rfl (qa rfl rfl) rfl ?_
  refine st rfl rfl (qc rfl rfl) rfl ?_
  refine qe ?_
  refine qr ?_
  subst hR
  exact zb rfl (rv_g rfl)
 ·replace h1 : (a0) = false := h1
  replace hR := zl hR h1
  refine qo ?_
  refine qd ?_
  refine qb [.p] ?_
  refine st rfl rfl (qc rfl rfl) rfl ?_
  refine qe ?_
  refine qr ?_
  subst hR
  exact zb rfl (rv_g rfl)
def s155 (a0 : Int) (a1 : Int) (a2 : Int) : Int :=
 (s154 ((decide (a0 < a1)) || (decide (a2 < a0))) 3)
theorem c155 {g : List (Nat × List Value)} (a0 : Int) (a1 : Int) (a2 : Int)    : Con (EG g) 155 [G.int a0, G.int a1, G.int a2] (G.int (s155 a0 a1 a2)) := by
 generalize hR : s155 a0 a1 a2 = R
 unfold s155 at hR
 refine qp Tryz.func155 rfl rfl fun w0 M0 => ?_
 refine qd ?_
 refine qb [.p] ?_
 refine st rfl rfl (qc rfl rfl) rfl ?_
 refine qe ?_
 refine qd ?_
 refine qb [.p, .p, .p, .p, .p, .p, .p, .p, .p, .p] ?_
 refine st rfl rfl (qa rfl rfl) rfl ?_
 refine st rfl rfl (qa rfl rfl) rfl ?_
 refine st rfl rfl (ze rfl rfl rfl) rfl ?_
 refine st rfl rfl (qa rfl rfl) rfl ?_
 refine st_g rfl rfl rfl (qg _ _) (fun h => qa rfl rfl) rfl ?_
 refine st_g rfl rfl rfl (qg _ _) (fun h => qa rfl rfl) rfl ?_
 refine st_g rfl rfl rfl (qg _ _) (fun h => zy rfl (gd h rfl) (gd h rfl)) rfl ?_
 refine st rfl rfl (z8 rfl rfl rfl rfl) rfl ?_
 refine st rfl rfl (qj rfl K154 rfl (c154 ((decide (a0 < a1)) || (decide (a2 < a0))) 3) (qh rfl (qh rfl qk))) rfl ?_
 refine st rfl rfl (qc rfl rfl) rfl ?_
 refine qe ?_
 refine qr ?_
 subst hR
 exact zb rfl (rv_g rfl)
def s152_l1  : List Int → Nat → Int
 | [], k2 => 0
 | y3 :: t4, k2 => (bif decide (y3 ≠ 0) then y3 else s152_l1  t4 (k2 + 1))
def s152 (a0 : List Int) : Int :=
 s152_l1 a0 0
theorem c152 {g : List (Nat × List Value)} (a0 : List Int)    : Con (EG g) 152 [G.sl 1 (List.map cInt a0)] (G.int (s152 a0)) := by
 generalize hR : s152 a0 = R
 unfold s152 at hR
 refine qp Tryz.func152 rfl rfl fun w0 M0 => ?_
 refine zc (f := cInt) (l := a0) 0 rfl fun hla0 => ?_
 refine qd ?_
 refine qb [.p] ?_
 refine st rfl rfl (qc rfl rfl) rfl ?_
 refine qe ?_
 refine qd ?_
 refine qd ?_
 refine qb [.p, .p, .p] ?_
 refine st rfl rfl (qa rfl rfl) rfl ?_
 refine st rfl rfl (q9 (f := cInt) (l := a0) rfl Tryz.underlying170 rfl) rfl ?_
 refine st rfl rfl (qa rfl rfl) rfl ?_
 refine qe ?_
 refine qn ?_
 refine qx (γ := Nat × (List Int)) (fun g => ([(5, .g (G.sl 1 (List.map cInt a0))), (6, .g (G.int (List.length a0 : Int))), (7, .g (G.int ((g.1 : Nat) : Int)))], [])) (fun g => a0.drop g.1 = g.2 ∧ s152_l1  g.2 g.1 = R) (fun g => List.length g.2) ⟨rfl, (0, a0), ⟨rfl, rfl, rfl, trivial⟩, trivial, rfl, ⟨rfl, hR⟩, trivial⟩ ?_
 ·rintro ⟨k2, t4⟩ ⟨hd, hR⟩
  replace hd : a0.drop k2 = t4 := hd
  replace hR : s152_l1  t4 k2 = R := hR
  refine qd ?_
  refine qb [.p] ?_
  refine st rfl rfl (ze rfl rfl rfl) rfl ?_
  refine qe ?_
  refine zc (f := cInt) (l := a0) 5 rfl fun hlz1 => ?_
  refine qd ?_
  refine qm _ rfl (fun h1 => ?_) (fun h1 => ?_)
  ·replace h1 : (decide (((k2 : Nat) : Int) < (List.length a0 : Int))) = true := h1
   obtain ⟨y3, t4, rfl, hx1, hd⟩ := zh hd (decT h1)
   replace h1 := decT h1
   rw [s152_l1] at hR
   try dsimp only at hR
   refine qo ?_
   refine qd ?_
   refine qn ?_
   refine qd ?_
   refine qb [.p, .p, .p] ?_
   refine st rfl rfl (zi (f := cInt) (l := a0) (a := y3) rfl Tryz.underlying170 ty37 rfl rfl (Int.natCast_nonneg _) hx1) rfl ?_
   refine st rfl rfl (qi rfl ty37 rfl) rfl ?_
   refine st rfl rfl (qc rfl rfl) rfl ?_
   refine qe ?_
   refine qd ?_
   refine qb [.p, .p] ?_
   refine st rfl rfl (qa rfl rfl) rfl ?_
   refine st rfl rfl (zz rfl rfl rfl) rfl ?_
   refine qe ?_
   refine qm _ rfl (fun h3 => ?_) (fun h3 => ?_)
   ·replace h3 : (decide (y3 ≠ 0)) = true := h3
    replace hR := zk hR h3
    refine qd ?_
    refine qb [.p, .p] ?_
    refine st rfl rfl (qa rfl rfl) rfl ?_
    refine st rfl rfl (qc rfl rfl) rfl ?_
    refine qe ?_
    refine qr ?_
    subst hR
    exact zb rfl (rv_g rfl)
   ·replace h3 : (decide (y3 ≠ 0)) = false := h3
    replace hR := zl hR h3
    try simp only [decide_eq_false_iff_not] at h3
    refine qo ?_
    refine qb [.p, .p] ?_
    refine st rfl rfl (zj rfl rfl rfl (by unfold I64; omega)) rfl ?_
    refine st rfl rfl (qa rfl rfl) rfl ?_
    refine qe ?_
    exact ⟨rfl, (k2 + 1, t4), ⟨rfl, rfl, rfl, trivial⟩, trivial, rfl, ⟨hd, hR⟩, by simp⟩
  ·replace h1 : (decide (((k2 : Nat) : Int) < (List.length a0 : Int))) = false := h1
   obtain rfl := zm hd (decF h1)
   rw [s152_l1] at hR
   refine zg ?_
   refine qd ?_
   refine qb [.p] ?_
   refine st rfl rfl (qc rfl rfl) rfl ?_
   refine qe ?_
   refine qr ?_
   subst hR
   exact zb rfl (rv_g rfl)
def s148_l1 (a1 : ByteArray) : List ByteArray → Nat → Int
 | [], k2 => (-1)
 | y3 :: t4, k2 => (bif decide (a1 = y3) then ((k2 : Nat) : Int) else s148_l1 a1 t4 (k2 + 1))
def s148 (a0 : List ByteArray) (a1 : ByteArray) : Int :=
 s148_l1 a1 a0 0
theorem c148 {g : List (Nat × List Value)} (a0 : List ByteArray) (a1 : ByteArray)    : Con (EG g) 148 [G.sl 1 (List.map cStr a0), G.str a1] (G.int (s148 a0 a1)) := by
 generalize hR : s148 a0 a1 = R
 unfold s148 at hR
 refine qp Tryz.func148 rfl rfl fun w0 M0 => ?_
 refine zc (f := cStr) (l := a0) 0 rfl fun hla0 => ?_
 refine qd ?_
 refine qb [.p] ?_
 refine st rfl rfl (qc rfl rfl) rfl ?_
 refine qe ?_
 refine qd ?_
 refine qd ?_
 refine qb [.p, .p, .p] ?_
 refine st rfl rfl (qa rfl rfl) rfl ?_
 refine st rfl rfl (q9 (f := cStr) (l := a0) rfl Tryz.underlying22 rfl) rfl ?_
 refine st rfl rfl (qa rfl rfl) rfl ?_
 refine qe ?_
 refine qn ?_
 refine qx (γ := Nat × (List ByteArray)) (fun g => ([(0, .g (G.sl 1 (List.map cStr a0))), (1, .g (G.str a1)), (7, .g (G.int (List.length a0 : Int))), (8, .g (G.int ((g.1 : Nat) : Int)))], [])) (fun g => a0.drop g.1 = g.2 ∧ s148_l1 a1 g.2 g.1 = R) (fun g => List.length g.2) ⟨rfl, (0, a0), ⟨rfl, rfl, rfl, rfl, trivial⟩, trivial, rfl, ⟨rfl, hR⟩, trivial⟩ ?_
 ·rintro ⟨k2, t4⟩ ⟨hd, hR⟩
  replace hd : a0.drop k2 = t4 := hd
  replace hR : s148_l1 a1 t4 k2 = R := hR
  refine qd ?_
  refine qb [.p] ?_
  refine st rfl rfl (ze rfl rfl rfl) rfl ?_
  refine qe ?_
  refine zc (f := cStr) (l := a0) 0 rfl fun hlz1 => ?_
  refine qd ?_
  refine qm _ rfl (fun h1 => ?_) (fun h1 => ?_)
  ·replace h1 : (decide (((k2 : Nat) : Int) < (List.length a0 : Int))) = true := h1
   obtain ⟨y3, t4, rfl, hx1, hd⟩ := zh hd (decT h1)
   replace h1 := decT h1
   rw [s148_l1] at hR
   try dsimp only at hR
   refine qo ?_
   refine qd ?_
   refine qn ?_
   refine qd ?_
   refine qb [.p, .p] ?_
   refine st rfl rfl (qa rfl rfl) rfl ?_
   refine st rfl rfl (qc rfl rfl) rfl ?_
   refine qe ?_
   refine qd ?_
   refine qb [.p, .p, .p, .p, .p, .p] ?_
   refine st rfl rfl (qa rfl rfl) rfl ?_
   refine st rfl rfl (qa rfl rfl) rfl ?_
   refine st rfl rfl (qa rfl rfl) rfl ?_
   refine st rfl rfl (zi (f := cStr) (l := a0) (a := y3) rfl Tryz.underlying22 ty9 rfl rfl (Int.natCast_nonneg _) hx1) rfl ?_
   refine st rfl rfl (qi rfl ty9 rfl) rfl ?_
   refine st rfl rfl (ju rfl rfl rfl) rfl ?_
   refine qe ?_
   refine qm _ rfl (fun h3 => ?_) (fun h3 => ?_)
   ·replace h3 : (decide (a1 = y3)) = true := h3
    replace hR := zk hR h3
    refine qd ?_
    refine qb [.p, .p] ?_
    refine st rfl rfl (qa rfl rfl) rfl ?_
    refine st rfl rfl (qc rfl rfl) rfl ?_
    refine qe ?_
    refine qr ?_
    subst hR
    exact zb rfl (rv_g rfl)
   ·replace h3 : (decide (a1 = y3)) = false := h3
    replace hR := zl hR h3
    try simp only [decide_eq_false_iff_not] at h3
    refine qo ?_
    refine qb [.p, .p] ?_
    refine st rfl rfl (zj rfl rfl rfl (by unfold I64; omega)) rfl ?_
    refine st rfl rfl (qa rfl rfl) rfl ?_
    refine qe ?_
    exact ⟨rfl, (k2 + 1, t4), ⟨rfl, rfl, rfl, rfl, trivial⟩, trivial, rfl, ⟨hd, hR⟩, by simp⟩
  ·replace h1 : (decide (((k2 : Nat) : Int) < (List.length a0 : Int))) = false := h1
   obtain rfl := zm hd (decF h1)
   rw [s148_l1] at hR
   refine zg ?_
   refine qd ?_
   refine qb [.p] ?_
   refine st rfl rfl (qc rfl rfl) rfl ?_
   refine qe ?_
   refine qr ?_
   subst hR
   exact zb rfl (rv_g rfl)
def s88 (a0 : List ByteArray) (a1 : ByteArray) : Bool :=
 decide (0 ≤ (s148 a0 a1))
theorem c88 {g : List (Nat × List Value)} (a0 : List ByteArray) (a1 : ByteArray)    : Con (EG g) 88 [G.sl 1 (List.map cStr a0), G.str a1] (G.bool (s88 a0 a1)) := by
 generalize hR : s88 a0 a1 = R
 unfold s88 at hR
 refine qp Tryz.func88 rfl rfl fun w0 M0 => ?_
 refine zc (f := cStr) (l := a0) 0 rfl fun hla0 => ?_
 refine qd ?_
 refine qb [.p] ?_
 refine st rfl rfl (qc rfl rfl) rfl ?_
 refine qe ?_
 refine qd ?_
 refine qb [.p, .p, .p, .p, .p] ?_
 refine st rfl rfl (qa rfl rfl) rfl ?_
 refine st rfl rfl (qa rfl rfl) rfl ?_
 refine st rfl rfl (qj rfl K148 rfl (c148 a0 a1) (qh rfl (qh rfl qk))) rfl ?_
 refine st rfl rfl (vi rfl rfl rfl) rfl ?_
 refine st rfl rfl (qc rfl rfl) rfl ?_
 refine qe ?_
 refine qr ?_
 subst hR
 exact zb rfl (rv_g rfl)
def s92_l1 (a1 : ByteArray) : List ByteArray → Nat → Bool
 | [], k2 => false
 | y3 :: t4, k2 => (bif decide (y3 = a1) then true else s92_l1 a1 t4 (k2 + 1))
def s92 (a0 : List ByteArray) (a1 : ByteArray) : Bool :=
 s92_l1 a1 a0 0
theorem c92 {g : List (Nat × List Value)} (a0 : List ByteArray) (a1 : ByteArray)    : Con (EG g) 92 [G.sl 1 (List.map cStr a0), G.str a1] (G.bool (s92 a0 a1)) := by
 generalize hR : s92 a0 a1 = R
 unfold s92 at hR
 refine qp Tryz.func92 rfl rfl fun w0 M0 => ?_
 refine zc (f := cStr) (l := a0) 0 rfl fun hla0 => ?_
 refine qd ?_
 refine qb [.p] ?_
 refine st rfl rfl (qc rfl rfl) rfl ?_
 refine qe ?_
 refine qd ?_
 refine qd ?_
 refine qb [.p] ?_
 refine st rfl rfl (qc rfl rfl) rfl ?_
 refine qe ?_
 refine qn ?_
 refine qx (γ := Nat × (List ByteArray)) (fun g => ([(0, .g (G.sl 1 (List.map cStr a0))), (1, .g (G.str a1)), (5, .g (G.int ((g.1 : Nat) : Int)))], [])) (fun g => a0.drop g.1 = g.2 ∧ s92_l1 a1 g.2 g.1 = R) (fun g => List.length g.2) ⟨rfl, (0, a0), ⟨rfl, rfl, rfl, trivial⟩, trivial, rfl, ⟨rfl, hR⟩, trivial⟩ ?_
 ·rintro ⟨k2, t4⟩ ⟨hd, hR⟩
  replace hd : a0.drop k2 = t4 := hd
  replace hR : s92_l1 a1 t4 k2 = R := hR
  refine qd ?_
  refine qd ?_
  refine qb [.p, .p, .p, .p] ?_
  refine st rfl rfl (qa rfl rfl) rfl ?_
  refine st rfl rfl (qa rfl rfl) rfl ?_
  refine st rfl rfl (q9 (f := cStr) (l := a0) rfl Tryz.underlying22 rfl) rfl ?_
  refine st rfl rfl (ze rfl rfl rfl) rfl ?_
  refine qe ?_
  refine zc (f := cStr) (l := a0) 0 rfl fun hlz1 => ?_
  refine qm _ rfl (fun h1 => ?_) (fun h1 => ?_)
  ·replace h1 : (decide (((k2 : Nat) : Int) < (List.length a0 : Int))) = true := h1
   obtain ⟨y3, t4, rfl, hx1, hd⟩ := zh hd (decT h1)
   replace h1 := decT h1
   rw [s92_l1] at hR
   try dsimp only at hR
   refine qo ?_
   refine qd ?_
   refine qn ?_
   refine qd ?_
   refine qb [.p, .p, .p, .p, .p, .p] ?_
   refine st rfl rfl (qa rfl rfl) rfl ?_
   refine st rfl rfl (qa rfl rfl) rfl ?_
   refine st rfl rfl (zi (f := cStr) (l := a0) (a := y3) rfl Tryz.underlying22 ty9 rfl rfl (Int.natCast_nonneg _) hx1) rfl ?_
   refine st rfl rfl (qi rfl ty9 rfl) rfl ?_
   refine st rfl rfl (qa rfl rfl) rfl ?_
   refine st rfl rfl (ju rfl rfl rfl) rfl ?_
   refine qe ?_
   refine qm _ rfl (fun h3 => ?_) (fun h3 => ?_)
   ·replace h3 : (decide (y3 = a1)) = true := h3
    replace hR := zk hR h3
    refine qd ?_
    refine qb [.p] ?_
    refine st rfl rfl (qc rfl rfl) rfl ?_
    refine qe ?_
    refine qr ?_
    subst hR
    exact zb rfl (rv_g rfl)
   ·replace h3 : (decide (y3 = a1)) = false := h3
    replace hR := zl hR h3
    try simp only [decide_eq_false_iff_not] at h3
    refine qo ?_
    refine qb [.p, .p, .p] ?_
    refine st rfl rfl (qa rfl rfl) rfl ?_
    refine st rfl rfl (zj rfl rfl rfl (by unfold I64; omega)) rfl ?_
    refine st rfl rfl (qc rfl rfl) rfl ?_
    refine qe ?_
    exact ⟨rfl, (k2 + 1, t4), ⟨rfl, rfl, rfl, trivial⟩, trivial, rfl, ⟨hd, hR⟩, by simp⟩
  ·replace h1 : (decide (((k2 : Nat) : Int) < (List.length a0 : Int))) = false := h1
   obtain rfl := zm hd (decF h1)
   rw [s92_l1] at hR
   refine zg ?_
   refine qd ?_
   refine qb [.p] ?_
   refine st rfl rfl (qc rfl rfl) rfl ?_
   refine qe ?_
   refine qr ?_
   subst hR
   exact zb rfl (rv_g rfl)
def s101 (a0 : ByteArray) : Int :=
 (s86 ((!decide (a0 = (⟨#[65]⟩))) && (!decide (a0 = (⟨#[68]⟩)))) 13)
theorem c101 {g : List (Nat × List Value)} (a0 : ByteArray)    : Con (EG g) 101 [G.str a0] (G.int (s101 a0)) := by
 generalize hR : s101 a0 = R
 unfold s101 at hR
 refine qp Tryz.func101 rfl rfl fun w0 M0 => ?_
 refine qd ?_
 refine qb [.p] ?_
 refine st rfl rfl (qc rfl rfl) rfl ?_
 refine qe ?_
 refine qd ?_
 refine qb [.p, .p, .p, .p, .p, .p, .p, .p] ?_
 refine st rfl rfl (qa rfl rfl) rfl ?_
 refine st rfl rfl (kw rfl rfl rfl) rfl ?_
 refine st rfl rfl (qa rfl rfl) rfl ?_
 refine st_g rfl rfl rfl (qg _ _) (fun h => qa rfl rfl) rfl ?_
 refine st_g rfl rfl rfl (qg _ _) (fun h => kw rfl (gd h rfl) rfl) rfl ?_
 refine st rfl rfl (zf rfl rfl rfl rfl) rfl ?_
 refine st rfl rfl (qj rfl K86 rfl (c86 ((!decide (a0 = (⟨#[65]⟩))) && (!decide (a0 = (⟨#[68]⟩)))) 13) (qh rfl (qh rfl qk))) rfl ?_
 refine st rfl rfl (qc rfl rfl) rfl ?_
 refine qe ?_
 refine qr ?_
 subst hR
 exact zb rfl (rv_g rfl)
def s150 (a0 : Bool) (a1 : Int) : Int :=
 (s86 a0 a1)
theorem c150 {g : List (Nat × List Value)} (a0 : Bool) (a1 : Int)    : Con (EG g) 150 [G.bool a0, G.int a1] (G.int (s150 a0 a1)) := by
 generalize hR : s150 a0 a1 = R
 unfold s150 at hR
 refine qp Tryz.func150 rfl rfl fun w0 M0 => ?_
 refine qd ?_
 refine qb [.p] ?_
 refine st rfl rfl (qc rfl rfl) rfl ?_
 refine qe ?_
 refine qd ?_
 refine qb [.p, .p, .p, .p] ?_
 refine st rfl rfl (qa rfl rfl) rfl ?_
 refine st rfl rfl (qa rfl rfl) rfl ?_
 refine st rfl rfl (qj rfl K86 rfl (c86 a0 a1) (qh rfl (qh rfl qk))) rfl ?_
 refine st rfl rfl (qc rfl rfl) rfl ?_
 refine qe ?_
 refine qr ?_
 subst hR
 exact zb rfl (rv_g rfl)
def s151 (a0 : Int) : Int :=
 (s85 a0 0 99999)
theorem c151 {g : List (Nat × List Value)} (a0 : Int)    : Con (EG g) 151 [G.int a0] (G.int (s151 a0)) := by
 generalize hR : s151 a0 = R
 unfold s151 at hR
 refine qp Tryz.func151 rfl rfl fun w0 M0 => ?_
 refine qd ?_
 refine qb [.p] ?_
 refine st rfl rfl (qc rfl rfl) rfl ?_
 refine qe ?_
 refine qd ?_
 refine qb [.p, .p, .p] ?_
 refine st rfl rfl (qa rfl rfl) rfl ?_
 refine st rfl rfl (qj rfl K85 rfl (c85 a0 0 99999) (qh rfl (qh rfl (qh rfl qk)))) rfl ?_
 refine st rfl rfl (qc rfl rfl) rfl ?_
 refine qe ?_
 refine qr ?_
 subst hR
 exact zb rfl (rv_g rfl)
def s149 (a0 : ByteArray) : Bool × Bool × Bool × Bool × Bool :=
 (!decide (a0 = (⟨#[119, 101, 97, 116, 104, 101, 114]⟩)), decide (a0 = (⟨#[102, 108, 121]⟩)), !decide (a0 = (⟨#[102, 108, 121]⟩)), decide (a0 = (⟨#[99, 97, 110, 99, 101, 108]⟩)), decide (a0 = (⟨#[98, 97, 99, 107]⟩)))
theorem c149 {g : List (Nat × List Value)} (a0 : ByteArray)    : Con (EG g) 149 [G.str a0] (G.tup [G.bool ((s149 a0).1), G.bool ((s149 a0).2.1), G.bool ((s149 a0).2.2.1), G.bool ((s149 a0).2.2.2.1), G.bool ((s149 a0).2.2.2.2)]) := by
 generalize hR : s149 a0 = R
 unfold s149 at hR
 refine qp Tryz.func149 rfl rfl fun w0 M0 => ?_
 refine qd ?_
 refine qb [.p, .p, .p, .p, .p] ?_
 refine st rfl rfl (qc rfl rfl) rfl ?_
 refine st rfl rfl (qc rfl rfl) rfl ?_
 refine st rfl rfl (qc rfl rfl) rfl ?_
 refine st rfl rfl (qc rfl rfl) rfl ?_
 refine st rfl rfl (qc rfl rfl) rfl ?_
 refine qe ?_
 refine qd ?_
 refine qb [.p, .p, .p, .p, .p, .p, .p, .p, .p, .p, .p, .p, .p, .p, .p] ?_
 refine st rfl rfl (qa rfl rfl) rfl ?_
 refine st rfl rfl (kw rfl rfl rfl) rfl ?_
 refine st rfl rfl (qa rfl rfl) rfl ?_
 refine st rfl rfl (ju rfl rfl rfl) rfl ?_
 refine st rfl rfl (qa rfl rfl) rfl ?_
 refine st rfl rfl (kw rfl rfl rfl) rfl ?_
 refine st rfl rfl (qa rfl rfl) rfl ?_
 refine st rfl rfl (ju rfl rfl rfl) rfl ?_
 refine st rfl rfl (qa rfl rfl) rfl ?_
 refine st rfl rfl (ju rfl rfl rfl) rfl ?_
 refine st rfl rfl (qc rfl rfl) rfl ?_
 refine st rfl rfl (qc rfl rfl) rfl ?_
 refine st rfl rfl (qc rfl rfl) rfl ?_
 refine st rfl rfl (qc rfl rfl) rfl ?_
 refine st rfl rfl (qc rfl rfl) rfl ?_
 refine qe ?_
 refine qr ?_
 subst hR
 exact resN rfl ⟨rv_g rfl, rv_g rfl, rv_g rfl, rv_g rfl, rv_g rfl, trivial⟩ (by simp)
def s97 (a0 : ByteArray) : Int :=
 (bif (!decide (a0 = (⟨#[65]⟩))) && (!decide (a0 = (⟨#[68]⟩))) then 13 else 0)
theorem c97 {g : List (Nat × List Value)} (a0 : ByteArray)    : Con (EG g) 97 [G.str a0] (G.int (s97 a0)) := by
 generalize hR : s97 a0 = R
 unfold s97 at hR
 refine qp Tryz.func97 rfl rfl fun w0 M0 => ?_
 refine qd ?_
 refine qb [.p] ?_
 refine st rfl rfl (qc rfl rfl) rfl ?_
 refine qe ?_
 refine qd ?_
 refine qd ?_
 refine qb [.p, .p, .p, .p, .p, .p] ?_
 refine st rfl rfl (qa rfl rfl) rfl ?_
 refine st rfl rfl (kw rfl rfl rfl) rfl ?_
 refine st rfl rfl (qa rfl rfl) rfl ?_
 refine st_g rfl rfl rfl (qg _ _) (fun h => qa rfl rfl) rfl ?_
 refine st_g rfl rfl rfl (qg _ _) (fun h => kw rfl (gd h rfl) rfl) rfl ?_
 refine st rfl rfl (zf rfl rfl rfl rfl) rfl ?_
 refine qe ?_
 refine qm _ rfl (fun h1 => ?_) (fun h1 => ?_)
 ·replace h1 : ((!decide (a0 = (⟨#[65]⟩))) && (!decide (a0 = (⟨#[68]⟩)))) = true := h1
  replace hR := zk hR h1
  refine qd ?_
  refine qb [.p] ?_
  refine st rfl rfl (qc rfl rfl) rfl ?_
  refine qe ?_
  refine qr ?_
  subst hR
  exact zb rfl (rv_g rfl)
 ·replace h1 : ((!decide (a0 = (⟨#[65]⟩))) && (!decide (a0 = (⟨#[68]⟩)))) = false := h1
  replace hR := zl hR h1
  refine qo ?_
  refine qd ?_
  refine qb [.p] ?_
  refine st rfl rfl (qc rfl rfl) rfl ?_
  refine qe ?_
  refine qr ?_
  subst hR
  exact zb rfl (rv_g rfl)
def s96 (a0 : Int) : Int :=
 (s90 a0 0 143999999)
theorem c96 {g : List (Nat × List Value)} (a0 : Int)    : Con (EG g) 96 [G.int a0] (G.int (s96 a0)) := by
 generalize hR : s96 a0 = R
 unfold s96 at hR
 refine qp Tryz.func96 rfl rfl fun w0 M0 => ?_
 refine qd ?_
 refine qb [.p] ?_
 refine st rfl rfl (qc rfl rfl) rfl ?_
 refine qe ?_
 refine qd ?_
 refine qb [.p, .p, .p] ?_
 refine st rfl rfl (qa rfl rfl) rfl ?_
 refine st rfl rfl (qj rfl K90 rfl (c90 a0 0 143999999) (qh rfl (qh rfl (qh rfl qk)))) rfl ?_
 refine st rfl rfl (qc rfl rfl) rfl ?_
 refine qe ?_
 refine qr ?_
 subst hR
 exact zb rfl (rv_g rfl)
def s109 (a0 : Int) : Int :=
 (s90 a0 0 99999)
theorem c109 {g : List (Nat × List Value)} (a0 : Int)    : Con (EG g) 109 [G.int a0] (G.int (s109 a0)) := by
 generalize hR : s109 a0 = R
 unfold s109 at hR
 refine qp Tryz.func109 rfl rfl fun w0 M0 => ?_
 refine qd ?_
 refine qb [.p] ?_
 refine st rfl rfl (qc rfl rfl) rfl ?_
 refine qe ?_
 refine qd ?_
 refine qb [.p, .p, .p] ?_
 refine st rfl rfl (qa rfl rfl) rfl ?_
 refine st rfl rfl (qj rfl K90 rfl (c90 a0 0 99999) (qh rfl (qh rfl (qh rfl qk)))) rfl ?_
 refine st rfl rfl (qc rfl rfl) rfl ?_
 refine qe ?_
 refine qr ?_
 subst hR
 exact zb rfl (rv_g rfl)
def s18 (a0 : S23) : S23 :=
 a0
theorem c18 {g : List (Nat × List Value)} (a0 : S23)    : Con (EG g) 18 [G.agg [G.int a0.Before, G.int a0.After, G.int a0.Notice, G.int a0.Share, G.sl 1 (List.map cStr a0.Causes), G.int a0.Off, G.int a0.Run]] (G.agg [G.int ((s18 a0).Before), G.int ((s18 a0).After), G.int ((s18 a0).Notice), G.int ((s18 a0).Share), G.sl 1 (List.map cStr ((s18 a0).Causes)), G.int ((s18 a0).Off), G.int ((s18 a0).Run)]) := by
 generalize hR : s18 a0 = R
 unfold s18 at hR
 refine qp Tryz.func18 rfl rfl fun w0 M0 => ?_
 refine qd ?_
 refine qb [.p, .w] ?_
 refine st rfl rfl (zd rfl rfl) rfl ?_
 refine st_w rfl rfl (jm 2 rfl z29 rfl rfl) rfl ?_
 refine qe ?_
 refine qd ?_
 refine qb [.p, .w] ?_
 refine st rfl rfl (qt rfl ty24 rfl rfl rfl) rfl ?_
 refine j8 rfl rfl (zt (tv := .g (G.agg [G.int a0.Before, G.int a0.After, G.int a0.Notice, G.int a0.Share, G.sl 1 (List.map cStr a0.Causes), G.int a0.Off, G.int a0.Run])) rfl ty29 rfl rfl rfl rfl rfl) ?_
 refine qe ?_
 refine qr ?_
 subst hR
 exact zb rfl (qh4 rfl rfl ty29 rfl rfl)
def s20_l1  : List S151 → Nat → (List S151) → List S151
 | [], k3, x1 => x1
 | y4 :: t5, k3, x1 => s20_l1  t5 (k3 + 1) (x1 ++ [y4])
def s20 (a0 : List S151) : List S151 :=
 s20_l1 a0 0 []
theorem c20 {g : List (Nat × List Value)} (a0 : List S151)  (hb0 : a0.length * 40 ≤ 140737488351232)  : Con (EG g) 20 [G.sl 3 (List.map S151.c a0)] (G.sl 3 (List.map S151.c (s20 a0))) := by
 generalize hR : s20 a0 = R
 unfold s20 at hR
 refine qp Tryz.func20 rfl rfl fun w0 M0 => ?_
 refine zc (f := S151.c) (l := a0) 0 rfl fun hla0 => ?_
 refine qd ?_
 refine qb [.w] ?_
 refine st_w rfl rfl (zu 2 160 3 rfl rfl rfl) rfl ?_
 refine qe ?_
 refine qd ?_
 refine qb [.w] ?_
 refine st_w rfl rfl (zu 3 160 3 rfl rfl rfl) rfl ?_
 refine qe ?_
 refine qd ?_
 refine qd ?_
 refine qb [.p, .p, .p] ?_
 refine st rfl rfl (qa rfl rfl) rfl ?_
 refine st rfl rfl (q9 (f := S151.c) (l := a0) rfl Tryz.underlying25 rfl) rfl ?_
 refine st rfl rfl (qa rfl rfl) rfl ?_
 refine qe ?_
 refine qn ?_
 refine qx (γ := Nat × (List S151) × (List S151)) (fun g => ([(0, .g (G.sl 3 (List.map S151.c a0))), (3, .osl 3 3 0 (List.length g.2.2)), (6, .g (G.int (List.length a0 : Int))), (7, .g (G.int ((g.1 : Nat) : Int)))], [(3, .arr 160 3 (List.map S151.c g.2.2))])) (fun g => g.2.2.length ≤ g.1 ∧ a0.drop g.1 = g.2.1 ∧ s20_l1  g.2.1 g.1 g.2.2 = R) (fun g => List.length g.2.1) ⟨rfl, (0, a0, []), ⟨rfl, rfl, rfl, rfl, trivial⟩, ⟨rfl, trivial⟩, rfl, ⟨(by first | (simp; done) | (simp; omega)), rfl, hR⟩, trivial⟩ ?_
 ·rintro ⟨k3, t5, x1⟩ ⟨iv1_0, hd, hR⟩
  replace hd : a0.drop k3 = t5 := hd
  replace hR : s20_l1  t5 k3 x1 = R := hR
  replace iv1_0 : x1.length ≤ k3 := iv1_0
  refine qd ?_
  refine qb [.p] ?_
  refine st rfl rfl (ze rfl rfl rfl) rfl ?_
  refine qe ?_
  refine zc (f := S151.c) (l := a0) 0 rfl fun hlz1 => ?_
  refine qd ?_
  refine qm _ rfl (fun h1 => ?_) (fun h1 => ?_)
  ·replace h1 : (decide (((k3 : Nat) : Int) < (List.length a0 : Int))) = true := h1
   obtain ⟨y4, t5, rfl, hx1, hd⟩ := zh hd (decT h1)
   replace h1 := decT h1
   rw [s20_l1] at hR
   try dsimp only at hR
   refine qo ?_
   refine qd ?_
   refine qn ?_
   refine qd ?_
   refine qb [.p, .p] ?_
   refine st rfl rfl (qa rfl rfl) rfl ?_
   refine st rfl rfl (qc rfl rfl) rfl ?_
   refine qe ?_
   refine qb [.p, .p, .p, .p, .p, .p, .k, .p] ?_
   refine st rfl rfl (qq rfl rfl) rfl ?_
   refine st rfl rfl (qa rfl rfl) rfl ?_
   refine st rfl rfl (qa rfl rfl) rfl ?_
   refine st rfl rfl (zi (f := S151.c) (l := a0) (a := y4) rfl Tryz.underlying25 ko rfl rfl (Int.natCast_nonneg _) hx1) rfl ?_
   refine st rfl rfl (qt rfl ko rfl rfl rfl) rfl ?_
   refine st rfl rfl (qu rfl Tryz.underlying32 km z160 rfl (qw rfl z4) rfl (by simp [S151.c]) (by decide)) rfl ?_
   refine st_k rfl rfl (z5 (f := S151.c) (out := x1) (new := [y4]) rfl qla rfl rfl (kc rfl (vc (by decide) (by simp [S151.c]))) (vp rfl) (by simp; omega)) rfl ?_
   refine st rfl rfl (qy rfl rfl) rfl ?_
   refine qe ?_
   refine qb [.p, .p] ?_
   refine st rfl rfl (zj rfl rfl rfl (by unfold I64; omega)) rfl ?_
   refine st rfl rfl (qa rfl rfl) rfl ?_
   refine qe ?_
   exact ⟨rfl, (k3 + 1, t5, x1 ++ [y4]), ⟨rfl, rfl, rfl, rfl, trivial⟩, ⟨rfl, trivial⟩, rfl, ⟨(by first | omega | (dsimp only; omega) | (simp at *; omega)), hd, hR⟩, by simp⟩
  ·replace h1 : (decide (((k3 : Nat) : Int) < (List.length a0 : Int))) = false := h1
   obtain rfl := zm hd (decF h1)
   rw [s20_l1] at hR
   refine zg ?_
   refine qd ?_
   refine qb [.p, .p] ?_
   refine st rfl rfl (qq rfl rfl) rfl ?_
   refine st rfl rfl (qy rfl rfl) rfl ?_
   refine qe ?_
   refine qr ?_
   subst hR
   exact zb rfl (wd rfl rfl)
def s22_l1  : List S104 → Nat → (List S104) → List S104
 | [], k3, x1 => x1
 | y4 :: t5, k3, x1 => s22_l1  t5 (k3 + 1) (x1 ++ [y4])
def s22 (a0 : List S104) : List S104 :=
 s22_l1 a0 0 []
theorem c22 {g : List (Nat × List Value)} (a0 : List S104)  (hb0 : a0.length * 96 ≤ 140737488351232)  : Con (EG g) 22 [G.sl 8 (List.map S104.c a0)] (G.sl 8 (List.map S104.c (s22 a0))) := by
 generalize hR : s22 a0 = R
 unfold s22 at hR
 refine qp Tryz.func22 rfl rfl fun w0 M0 => ?_
 refine zc (f := S104.c) (l := a0) 0 rfl fun hla0 => ?_
 refine qd ?_
 refine qb [.w] ?_
 refine st_w rfl rfl (zu 2 161 8 rfl rfl rfl) rfl ?_
 refine qe ?_
 refine qd ?_
 refine qb [.w] ?_
 refine st_w rfl rfl (zu 3 161 8 rfl rfl rfl) rfl ?_
 refine qe ?_
 refine qd ?_
 refine qd ?_
 refine qb [.p, .p, .p] ?_
 refine st rfl rfl (qa rfl rfl) rfl ?_
 refine st rfl rfl (q9 (f := S104.c) (l := a0) rfl Tryz.underlying26 rfl) rfl ?_
 refine st rfl rfl (qa rfl rfl) rfl ?_
 refine qe ?_
 refine qn ?_
 refine qx (γ := Nat × (List S104) × (List S104)) (fun g => ([(0, .g (G.sl 8 (List.map S104.c a0))), (3, .osl 3 8 0 (List.length g.2.2)), (6, .g (G.int (List.length a0 : Int))), (7, .g (G.int ((g.1 : Nat) : Int)))], [(3, .arr 161 8 (List.map S104.c g.2.2))])) (fun g => g.2.2.length ≤ g.1 ∧ a0.drop g.1 = g.2.1 ∧ s22_l1  g.2.1 g.1 g.2.2 = R) (fun g => List.length g.2.1) ⟨rfl, (0, a0, []), ⟨rfl, rfl, rfl, rfl, trivial⟩, ⟨rfl, trivial⟩, rfl, ⟨(by first | (simp; done) | (simp; omega)), rfl, hR⟩, trivial⟩ ?_
 ·rintro ⟨k3, t5, x1⟩ ⟨iv1_0, hd, hR⟩
  replace hd : a0.drop k3 = t5 := hd
  replace hR : s22_l1  t5 k3 x1 = R := hR
  replace iv1_0 : x1.length ≤ k3 := iv1_0
  refine qd ?_
  refine qb [.p] ?_
  refine st rfl rfl (ze rfl rfl rfl) rfl ?_
  refine qe ?_
  refine zc (f := S104.c) (l := a0) 0 rfl fun hlz1 => ?_
  refine qd ?_
  refine qm _ rfl (fun h1 => ?_) (fun h1 => ?_)
  ·replace h1 : (decide (((k3 : Nat) : Int) < (List.length a0 : Int))) = true := h1
   obtain ⟨y4, t5, rfl, hx1, hd⟩ := zh hd (decT h1)
   replace h1 := decT h1
   rw [s22_l1] at hR
   try dsimp only at hR
   refine qo ?_
   refine qd ?_
   refine qn ?_
   refine qd ?_
   refine qb [.p, .p] ?_
   refine st rfl rfl (qa rfl rfl) rfl ?_
   refine st rfl rfl (qc rfl rfl) rfl ?_
   refine qe ?_
   refine qb [.p, .p, .p, .p, .p, .p, .k, .p] ?_
   refine st rfl rfl (qq rfl rfl) rfl ?_
   refine st rfl rfl (qa rfl rfl) rfl ?_
   refine st rfl rfl (qa rfl rfl) rfl ?_
   refine st rfl rfl (zi (f := S104.c) (l := a0) (a := y4) rfl Tryz.underlying26 xx rfl rfl (Int.natCast_nonneg _) hx1) rfl ?_
   refine st rfl rfl (qt rfl xx rfl rfl rfl) rfl ?_
   refine st rfl rfl (qu rfl Tryz.underlying35 xj z161 rfl (qw rfl z4) rfl (by simp [S104.c]) (by decide)) rfl ?_
   refine st_k rfl rfl (z5 (f := S104.c) (out := x1) (new := [y4]) rfl qwm rfl rfl (kc rfl (vc (by decide) (by simp [S104.c]))) (vp rfl) (by simp; omega)) rfl ?_
   refine st rfl rfl (qy rfl rfl) rfl ?_
   refine qe ?_
   refine qb [.p, .p] ?_
   refine st rfl rfl (zj rfl rfl rfl (by unfold I64; omega)) rfl ?_
   refine st rfl rfl (qa rfl rfl) rfl ?_
   refine qe ?_
   exact ⟨rfl, (k3 + 1, t5, x1 ++ [y4]), ⟨rfl, rfl, rfl, rfl, trivial⟩, ⟨rfl, trivial⟩, rfl, ⟨(by first | omega | (dsimp only; omega) | (simp at *; omega)), hd, hR⟩, by simp⟩
  ·replace h1 : (decide (((k3 : Nat) : Int) < (List.length a0 : Int))) = false := h1
   obtain rfl := zm hd (decF h1)
   rw [s22_l1] at hR
   refine zg ?_
   refine qd ?_
   refine qb [.p, .p] ?_
   refine st rfl rfl (qq rfl rfl) rfl ?_
   refine st rfl rfl (qy rfl rfl) rfl ?_
   refine qe ?_
   refine qr ?_
   subst hR
   exact zb rfl (wd rfl rfl)
def s17_l1  : List ByteArray → Nat → Bool
 | [], k2 => true
 | y3 :: t4, k2 => (bif decide (60 < (ByteArray.size y3 : Int)) then false else s17_l1  t4 (k2 + 1))
def s17 (a0 : S23) : Bool :=
 (bif ((decide (4 < (List.length a0.Causes : Int))) && (decide ((List.length a0.Causes : Int) ≤ 16))) || (decide (18 < (List.length a0.Causes : Int))) then false else s17_l1 a0.Causes 0)
theorem c17 {g : List (Nat × List Value)} (a0 : S23)    : Con (EG g) 17 [G.agg [G.int a0.Before, G.int a0.After, G.int a0.Notice, G.int a0.Share, G.sl 1 (List.map cStr a0.Causes), G.int a0.Off, G.int a0.Run]] (G.bool (s17 a0)) := by
 generalize hR : s17 a0 = R
 unfold s17 at hR
 refine qp Tryz.func17 rfl rfl fun w0 M0 => ?_
 refine qd ?_
 refine qb [.p, .p] ?_
 refine st rfl rfl (zd rfl rfl) rfl ?_
 refine st rfl rfl (qc rfl rfl) rfl ?_
 refine qe ?_
 refine qd ?_
 refine qd ?_
 refine qb [.p, .p, .p, .p, .p, .p, .p, .p, .p, .p, .p, .p, .p, .p, .p, .p] ?_
 refine st rfl rfl (qf rfl wy rfl) rfl ?_
 refine st rfl rfl (qi rfl ty22 rfl) rfl ?_
 refine st rfl rfl (q9 (f := cStr) (l := a0.Causes) rfl Tryz.underlying22 rfl) rfl ?_
 refine st rfl rfl (zy rfl rfl rfl) rfl ?_
 refine st rfl rfl (qa rfl rfl) rfl ?_
 refine st_g rfl rfl rfl (qg _ _) (fun h => qf rfl wy rfl) rfl ?_
 refine st_g rfl rfl rfl (qg _ _) (fun h => qi rfl ty22 (gd h rfl)) rfl ?_
 refine st_g rfl rfl rfl (qg _ _) (fun h => q9 (f := cStr) (l := a0.Causes) rfl Tryz.underlying22 (gd h rfl)) rfl ?_
 refine st_g rfl rfl rfl (qg _ _) (fun h => kg rfl (gd h rfl) rfl) rfl ?_
 refine st rfl rfl (zf rfl rfl rfl rfl) rfl ?_
 refine st rfl rfl (qa rfl rfl) rfl ?_
 refine st_g rfl rfl rfl (qg _ _) (fun h => qf rfl wy rfl) rfl ?_
 refine st_g rfl rfl rfl (qg _ _) (fun h => qi rfl ty22 (gd h rfl)) rfl ?_
 refine st_g rfl rfl rfl (qg _ _) (fun h => q9 (f := cStr) (l := a0.Causes) rfl Tryz.underlying22 (gd h rfl)) rfl ?_
 refine st_g rfl rfl rfl (qg _ _) (fun h => zy rfl (gd h rfl) rfl) rfl ?_
 refine st rfl rfl (z8 rfl rfl rfl rfl) rfl ?_
 refine qe ?_
 refine qm _ rfl (fun h1 => ?_) (fun h1 => ?_)
 ·replace h1 : (((decide (4 < (List.length a0.Causes : Int))) && (decide ((List.length a0.Causes : Int) ≤ 16))) || (decide (18 < (List.length a0.Causes : Int)))) = true := h1
  replace hR := zk hR h1
  refine qd ?_
  refine qb [.p] ?_
  refine st rfl rfl (qc rfl rfl) rfl ?_
  refine qe ?_
  refine qr ?_
  subst hR
  exact zb rfl (rv_g rfl)
 ·replace h1 : (((decide (4 < (List.length a0.Causes : Int))) && (decide ((List.length a0.Causes : Int) ≤ 16))) || (decide (18 < (List.length a0.Causes : Int)))) = false := h1
  replace hR := zl hR h1
  try simp only [Bool.or_eq_true, Bool.and_eq_true, Bool.or_eq_false_iff, Bool.and_eq_false_iff, Bool.not_eq_true', Bool.not_eq_false', decide_eq_true_eq, decide_eq_false_iff_not] at h1
  refine qo ?_
  refine qd ?_
  refine qd ?_
  refine qb [.p] ?_
  refine st rfl rfl (qc rfl rfl) rfl ?_
  refine qe ?_
  refine qn ?_
  refine qx (γ := Nat × (List ByteArray)) (fun g => ([(1, .g (G.ref [G.int a0.Before, G.int a0.After, G.int a0.Notice, G.int a0.Share, G.sl 1 (List.map cStr a0.Causes), G.int a0.Off, G.int a0.Run])), (3, .g (G.int ((g.1 : Nat) : Int)))], [])) (fun g => a0.Causes.drop g.1 = g.2 ∧ s17_l1  g.2 g.1 = R) (fun g => List.length g.2) ⟨rfl, (0, a0.Causes), ⟨rfl, rfl, trivial⟩, trivial, rfl, ⟨rfl, hR⟩, trivial⟩ ?_
  ·rintro ⟨k2, t4⟩ ⟨hd, hR⟩
   replace hd : a0.Causes.drop k2 = t4 := hd
   replace hR : s17_l1  t4 k2 = R := hR
   refine qd ?_
   refine qd ?_
   refine qb [.p, .p, .p, .p, .p] ?_
   refine st rfl rfl (qa rfl rfl) rfl ?_
   refine st rfl rfl (qf rfl wy rfl) rfl ?_
   refine st rfl rfl (qi rfl ty22 rfl) rfl ?_
   refine st rfl rfl (q9 (f := cStr) (l := a0.Causes) rfl Tryz.underlying22 rfl) rfl ?_
   refine st rfl rfl (ze rfl rfl rfl) rfl ?_
   refine qe ?_
   refine zc (f := cStr) (l := a0.Causes) 22 rfl fun hlz1 => ?_
   refine qm _ rfl (fun h2 => ?_) (fun h2 => ?_)
   ·replace h2 : (decide (((k2 : Nat) : Int) < (List.length a0.Causes : Int))) = true := h2
    obtain ⟨y3, t4, rfl, hx1, hd⟩ := zh hd (decT h2)
    replace h2 := decT h2
    rw [s17_l1] at hR
    try dsimp only at hR
    refine qo ?_
    refine qd ?_
    refine qn ?_
    refine qd ?_
    refine qb [.p, .p, .p, .p, .p, .p, .p] ?_
    refine st rfl rfl (qf rfl wy rfl) rfl ?_
    refine st rfl rfl (qi rfl ty22 rfl) rfl ?_
    refine st rfl rfl (qa rfl rfl) rfl ?_
    refine st rfl rfl (zi (f := cStr) (l := a0.Causes) (a := y3) rfl Tryz.underlying22 ty9 rfl rfl (Int.natCast_nonneg _) hx1) rfl ?_
    refine st rfl rfl (qi rfl ty9 rfl) rfl ?_
    refine st rfl rfl (kr rfl Tryz.underlying9 rfl) rfl ?_
    refine st rfl rfl (zy rfl rfl rfl) rfl ?_
    refine qe ?_
    refine qm _ rfl (fun h4 => ?_) (fun h4 => ?_)
    ·replace h4 : (decide (60 < (ByteArray.size y3 : Int))) = true := h4
     replace hR := zk hR h4
     refine qd ?_
     refine qb [.p] ?_
     refine st rfl rfl (qc rfl rfl) rfl ?_
     refine qe ?_
     refine qr ?_
     subst hR
     exact zb rfl (rv_g rfl)
    ·replace h4 : (decide (60 < (ByteArray.size y3 : Int))) = false := h4
     replace hR := zl hR h4
     try simp only [decide_eq_false_iff_not] at h4
     refine qo ?_
     refine qb [.p, .p, .p] ?_
     refine st rfl rfl (qa rfl rfl) rfl ?_
     refine st rfl rfl (zj rfl rfl rfl (by unfold I64; omega)) rfl ?_
     refine st rfl rfl (qc rfl rfl) rfl ?_
     refine qe ?_
     exact ⟨rfl, (k2 + 1, t4), ⟨rfl, rfl, trivial⟩, trivial, rfl, ⟨hd, hR⟩, by simp⟩
   ·replace h2 : (decide (((k2 : Nat) : Int) < (List.length a0.Causes : Int))) = false := h2
    obtain rfl := zm hd (decF h2)
    rw [s17_l1] at hR
    refine zg ?_
    refine qd ?_
    refine qb [.p] ?_
    refine st rfl rfl (qc rfl rfl) rfl ?_
    refine qe ?_
    refine qr ?_
    subst hR
    exact zb rfl (rv_g rfl)
def s19_l1  : List S151 → Nat → Bool
 | [], k2 => true
 | y3 :: t4, k2 => (bif (decide (60 < (ByteArray.size y3.Name : Int))) || (decide (60 < (ByteArray.size y3.Kind : Int))) then false else s19_l1  t4 (k2 + 1))
def s19 (a0 : List S151) (a1 : Int) : Bool :=
 (bif ((decide (a1 < (List.length a0 : Int))) && (decide ((List.length a0 : Int) ≤ 512))) || (decide (514 < (List.length a0 : Int))) then false else s19_l1 a0 0)
theorem c19 {g : List (Nat × List Value)} (a0 : List S151) (a1 : Int)    : Con (EG g) 19 [G.sl 3 (List.map S151.c a0), G.int a1] (G.bool (s19 a0 a1)) := by
 generalize hR : s19 a0 a1 = R
 unfold s19 at hR
 refine qp Tryz.func19 rfl rfl fun w0 M0 => ?_
 refine zc (f := S151.c) (l := a0) 0 rfl fun hla0 => ?_
 refine qd ?_
 refine qb [.p] ?_
 refine st rfl rfl (qc rfl rfl) rfl ?_
 refine qe ?_
 refine qd ?_
 refine qd ?_
 refine qb [.p, .p, .p, .p, .p, .p, .p, .p, .p, .p, .p, .p, .p, .p] ?_
 refine st rfl rfl (qa rfl rfl) rfl ?_
 refine st rfl rfl (q9 (f := S151.c) (l := a0) rfl Tryz.underlying32 rfl) rfl ?_
 refine st rfl rfl (qa rfl rfl) rfl ?_
 refine st rfl rfl (zy rfl rfl rfl) rfl ?_
 refine st rfl rfl (qa rfl rfl) rfl ?_
 refine st_g rfl rfl rfl (qg _ _) (fun h => qa rfl rfl) rfl ?_
 refine st_g rfl rfl rfl (qg _ _) (fun h => q9 (f := S151.c) (l := a0) rfl Tryz.underlying32 (gd h rfl)) rfl ?_
 refine st_g rfl rfl rfl (qg _ _) (fun h => kg rfl (gd h rfl) rfl) rfl ?_
 refine st rfl rfl (zf rfl rfl rfl rfl) rfl ?_
 refine st rfl rfl (qa rfl rfl) rfl ?_
 refine st_g rfl rfl rfl (qg _ _) (fun h => qa rfl rfl) rfl ?_
 refine st_g rfl rfl rfl (qg _ _) (fun h => q9 (f := S151.c) (l := a0) rfl Tryz.underlying32 (gd h rfl)) rfl ?_
 refine st_g rfl rfl rfl (qg _ _) (fun h => zy rfl (gd h rfl) rfl) rfl ?_
 refine st rfl rfl (z8 rfl rfl rfl rfl) rfl ?_
 refine qe ?_
 refine qm _ rfl (fun h1 => ?_) (fun h1 => ?_)
 ·replace h1 : (((decide (a1 < (List.length a0 : Int))) && (decide ((List.length a0 : Int) ≤ 512))) || (decide (514 < (List.length a0 : Int)))) = true := h1
  replace hR := zk hR h1
  refine qd ?_
  refine qb [.p] ?_
  refine st rfl rfl (qc rfl rfl) rfl ?_
  refine qe ?_
  refine qr ?_
  subst hR
  exact zb rfl (rv_g rfl)
 ·replace h1 : (((decide (a1 < (List.length a0 : Int))) && (decide ((List.length a0 : Int) ≤ 512))) || (decide (514 < (List.length a0 : Int)))) = false := h1
  replace hR := zl hR h1
  try simp only [Bool.or_eq_true, Bool.and_eq_true, Bool.or_eq_false_iff, Bool.and_eq_false_iff, Bool.not_eq_true', Bool.not_eq_false', decide_eq_true_eq, decide_eq_false_iff_not] at h1
  refine qo ?_
  refine qd ?_
  refine qd ?_
  refine qb [.p] ?_
  refine st rfl rfl (qc rfl rfl) rfl ?_
  refine qe ?_
  refine qn ?_
  refine qx (γ := Nat × (List S151)) (fun g => ([(0, .g (G.sl 3 (List.map S151.c a0))), (5, .g (G.int ((g.1 : Nat) : Int)))], [])) (fun g => a0.drop g.1 = g.2 ∧ s19_l1  g.2 g.1 = R) (fun g => List.length g.2) ⟨rfl, (0, a0), ⟨rfl, rfl, trivial⟩, trivial, rfl, ⟨rfl, hR⟩, trivial⟩ ?_
  ·rintro ⟨k2, t4⟩ ⟨hd, hR⟩
   replace hd : a0.drop k2 = t4 := hd
   replace hR : s19_l1  t4 k2 = R := hR
   refine qd ?_
   refine qd ?_
   refine qb [.p, .p, .p, .p] ?_
   refine st rfl rfl (qa rfl rfl) rfl ?_
   refine st rfl rfl (qa rfl rfl) rfl ?_
   refine st rfl rfl (q9 (f := S151.c) (l := a0) rfl Tryz.underlying32 rfl) rfl ?_
   refine st rfl rfl (ze rfl rfl rfl) rfl ?_
   refine qe ?_
   refine zc (f := S151.c) (l := a0) 0 rfl fun hlz1 => ?_
   refine qm _ rfl (fun h2 => ?_) (fun h2 => ?_)
   ·replace h2 : (decide (((k2 : Nat) : Int) < (List.length a0 : Int))) = true := h2
    obtain ⟨y3, t4, rfl, hx1, hd⟩ := zh hd (decT h2)
    replace h2 := decT h2
    rw [s19_l1] at hR
    try dsimp only at hR
    refine qo ?_
    refine qd ?_
    refine qn ?_
    refine qd ?_
    refine qb [.p, .p, .p, .p, .p, .p, .p, .p, .p, .p, .p, .p, .p, .p, .p, .p] ?_
    refine st rfl rfl (qa rfl rfl) rfl ?_
    refine st rfl rfl (qa rfl rfl) rfl ?_
    refine st rfl rfl (zi (f := S151.c) (l := a0) (a := y3) rfl Tryz.underlying32 km rfl rfl (Int.natCast_nonneg _) hx1) rfl ?_
    refine st rfl rfl (qf rfl xh rfl) rfl ?_
    refine st rfl rfl (qi rfl ty9 rfl) rfl ?_
    refine st rfl rfl (kr rfl Tryz.underlying9 rfl) rfl ?_
    refine st rfl rfl (zy rfl rfl rfl) rfl ?_
    refine st rfl rfl (qa rfl rfl) rfl ?_
    refine st_g rfl rfl rfl (qg _ _) (fun h => qa rfl rfl) rfl ?_
    refine st_g rfl rfl rfl (qg _ _) (fun h => qa rfl rfl) rfl ?_
    refine st_g rfl rfl rfl (qg _ _) (fun h => zi (f := S151.c) (l := a0) (a := y3) rfl Tryz.underlying32 km (gd h rfl) (gd h rfl) (Int.natCast_nonneg _) hx1) rfl ?_
    refine st_g rfl rfl rfl (qg _ _) (fun h => qf rfl qbm (gd h rfl)) rfl ?_
    refine st_g rfl rfl rfl (qg _ _) (fun h => qi rfl ty9 (gd h rfl)) rfl ?_
    refine st_g rfl rfl rfl (qg _ _) (fun h => kr rfl Tryz.underlying9 (gd h rfl)) rfl ?_
    refine st_g rfl rfl rfl (qg _ _) (fun h => zy rfl (gd h rfl) rfl) rfl ?_
    refine st rfl rfl (z8 rfl rfl rfl rfl) rfl ?_
    refine qe ?_
    refine qm _ rfl (fun h4 => ?_) (fun h4 => ?_)
    ·replace h4 : ((decide (60 < (ByteArray.size y3.Name : Int))) || (decide (60 < (ByteArray.size y3.Kind : Int)))) = true := h4
     replace hR := zk hR h4
     refine qd ?_
     refine qb [.p] ?_
     refine st rfl rfl (qc rfl rfl) rfl ?_
     refine qe ?_
     refine qr ?_
     subst hR
     exact zb rfl (rv_g rfl)
    ·replace h4 : ((decide (60 < (ByteArray.size y3.Name : Int))) || (decide (60 < (ByteArray.size y3.Kind : Int)))) = false := h4
     replace hR := zl hR h4
     try simp only [Bool.or_eq_true, Bool.and_eq_true, Bool.or_eq_false_iff, Bool.and_eq_false_iff, Bool.not_eq_true', Bool.not_eq_false', decide_eq_true_eq, decide_eq_false_iff_not] at h4
     refine qo ?_
     refine qb [.p, .p, .p] ?_
     refine st rfl rfl (qa rfl rfl) rfl ?_
     refine st rfl rfl (zj rfl rfl rfl (by unfold I64; omega)) rfl ?_
     refine st rfl rfl (qc rfl rfl) rfl ?_
     refine qe ?_
     exact ⟨rfl, (k2 + 1, t4), ⟨rfl, rfl, trivial⟩, trivial, rfl, ⟨hd, hR⟩, by simp⟩
   ·replace h2 : (decide (((k2 : Nat) : Int) < (List.length a0 : Int))) = false := h2
    obtain rfl := zm hd (decF h2)
    rw [s19_l1] at hR
    refine zg ?_
    refine qd ?_
    refine qb [.p] ?_
    refine st rfl rfl (qc rfl rfl) rfl ?_
    refine qe ?_
    refine qr ?_
    subst hR
    exact zb rfl (rv_g rfl)
def s21_l1  : List S104 → Nat → Bool
 | [], k2 => true
 | y3 :: t4, k2 => (bif (((decide (60 < (ByteArray.size y3.Kind : Int))) || (decide (60 < (ByteArray.size y3.Name : Int)))) || (decide (60 < (ByteArray.size y3.Move : Int)))) || (decide (60 < (ByteArray.size y3.Cause : Int))) then false else s21_l1  t4 (k2 + 1))
def s21 (a0 : List S104) (a1 : Int) : Bool :=
 (bif ((decide (a1 < (List.length a0 : Int))) && (decide ((List.length a0 : Int) ≤ 512))) || (decide (514 < (List.length a0 : Int))) then false else s21_l1 a0 0)
theorem c21 {g : List (Nat × List Value)} (a0 : List S104) (a1 : Int)    : Con (EG g) 21 [G.sl 8 (List.map S104.c a0), G.int a1] (G.bool (s21 a0 a1)) := by
 generalize hR : s21 a0 a1 = R
 unfold s21 at hR
 refine qp Tryz.func21 rfl rfl fun w0 M0 => ?_
 refine zc (f := S104.c) (l := a0) 0 rfl fun hla0 => ?_
 refine qd ?_
 refine qb [.p] ?_
 refine st rfl rfl (qc rfl rfl) rfl ?_
 refine qe ?_
 refine qd ?_
 refine qd ?_
 refine qb [.p, .p, .p, .p, .p, .p, .p, .p, .p, .p, .p, .p, .p, .p] ?_
 refine st rfl rfl (qa rfl rfl) rfl ?_
 refine st rfl rfl (q9 (f := S104.c) (l := a0) rfl Tryz.underlying35 rfl) rfl ?_
 refine st rfl rfl (qa rfl rfl) rfl ?_
 refine st rfl rfl (zy rfl rfl rfl) rfl ?_
 refine st rfl rfl (qa rfl rfl) rfl ?_
 refine st_g rfl rfl rfl (qg _ _) (fun h => qa rfl rfl) rfl ?_
 refine st_g rfl rfl rfl (qg _ _) (fun h => q9 (f := S104.c) (l := a0) rfl Tryz.underlying35 (gd h rfl)) rfl ?_
 refine st_g rfl rfl rfl (qg _ _) (fun h => kg rfl (gd h rfl) rfl) rfl ?_
 refine st rfl rfl (zf rfl rfl rfl rfl) rfl ?_
 refine st rfl rfl (qa rfl rfl) rfl ?_
 refine st_g rfl rfl rfl (qg _ _) (fun h => qa rfl rfl) rfl ?_
 refine st_g rfl rfl rfl (qg _ _) (fun h => q9 (f := S104.c) (l := a0) rfl Tryz.underlying35 (gd h rfl)) rfl ?_
 refine st_g rfl rfl rfl (qg _ _) (fun h => zy rfl (gd h rfl) rfl) rfl ?_
 refine st rfl rfl (z8 rfl rfl rfl rfl) rfl ?_
 refine qe ?_
 refine qm _ rfl (fun h1 => ?_) (fun h1 => ?_)
 ·replace h1 : (((decide (a1 < (List.length a0 : Int))) && (decide ((List.length a0 : Int) ≤ 512))) || (decide (514 < (List.length a0 : Int)))) = true := h1
  replace hR := zk hR h1
  refine qd ?_
  refine qb [.p] ?_
  refine st rfl rfl (qc rfl rfl) rfl ?_
  refine qe ?_
  refine qr ?_
  subst hR
  exact zb rfl (rv_g rfl)
 ·replace h1 : (((decide (a1 < (List.length a0 : Int))) && (decide ((List.length a0 : Int) ≤ 512))) || (decide (514 < (List.length a0 : Int)))) = false := h1
  replace hR := zl hR h1
  try simp only [Bool.or_eq_true, Bool.and_eq_true, Bool.or_eq_false_iff, Bool.and_eq_false_iff, Bool.not_eq_true', Bool.not_eq_false', decide_eq_true_eq, decide_eq_false_iff_not] at h1
  refine qo ?_
  refine qd ?_
  refine qd ?_
  refine qb [.p] ?_
  refine st rfl rfl (qc rfl rfl) rfl ?_
  refine qe ?_
  refine qn ?_
  refine qx (γ := Nat × (List S104)) (fun g => ([(0, .g (G.sl 8 (List.map S104.c a0))), (5, .g (G.int ((g.1 : Nat) : Int)))], [])) (fun g => a0.drop g.1 = g.2 ∧ s21_l1  g.2 g.1 = R) (fun g => List.length g.2) ⟨rfl, (0, a0), ⟨rfl, rfl, trivial⟩, trivial, rfl, ⟨rfl, hR⟩, trivial⟩ ?_
  ·rintro ⟨k2, t4⟩ ⟨hd, hR⟩
   replace hd : a0.drop k2 = t4 := hd
   replace hR : s21_l1  t4 k2 = R := hR
   refine qd ?_
   refine qd ?_
   refine qb [.p, .p, .p, .p] ?_
   refine st rfl rfl (qa rfl rfl) rfl ?_
   refine st rfl rfl (qa rfl rfl) rfl ?_
   refine st rfl rfl (q9 (f := S104.c) (l := a0) rfl Tryz.underlying35 rfl) rfl ?_
   refine st rfl rfl (ze rfl rfl rfl) rfl ?_
   refine qe ?_
   refine zc (f := S104.c) (l := a0) 0 rfl fun hlz1 => ?_
   refine qm _ rfl (fun h2 => ?_) (fun h2 => ?_)
   ·replace h2 : (decide (((k2 : Nat) : Int) < (List.length a0 : Int))) = true := h2
    obtain ⟨y3, t4, rfl, hx1, hd⟩ := zh hd (decT h2)
    replace h2 := decT h2
    rw [s21_l1] at hR
    try dsimp only at hR
    refine qo ?_
    refine qd ?_
    refine qn ?_
    refine qd ?_
    refine qb [.p, .p, .p, .p, .p, .p, .p, .p, .p, .p, .p, .p, .p, .p, .p, .p, .p, .p, .p, .p, .p, .p, .p, .p, .p, .p, .p, .p, .p, .p, .p, .p, .p, .p] ?_
    refine st rfl rfl (qa rfl rfl) rfl ?_
    refine st rfl rfl (qa rfl rfl) rfl ?_
    refine st rfl rfl (zi (f := S104.c) (l := a0) (a := y3) rfl Tryz.underlying35 xj rfl rfl (Int.natCast_nonneg _) hx1) rfl ?_
    refine st rfl rfl (qf rfl xi rfl) rfl ?_
    refine st rfl rfl (qi rfl ty9 rfl) rfl ?_
    refine st rfl rfl (kr rfl Tryz.underlying9 rfl) rfl ?_
    refine st rfl rfl (zy rfl rfl rfl) rfl ?_
    refine st rfl rfl (qa rfl rfl) rfl ?_
    refine st_g rfl rfl rfl (qg _ _) (fun h => qa rfl rfl) rfl ?_
    refine st_g rfl rfl rfl (qg _ _) (fun h => qa rfl rfl) rfl ?_
    refine st_g rfl rfl rfl (qg _ _) (fun h => zi (f := S104.c) (l := a0) (a := y3) rfl Tryz.underlying35 xj (gd h rfl) (gd h rfl) (Int.natCast_nonneg _) hx1) rfl ?_
    refine st_g rfl rfl rfl (qg _ _) (fun h => qf rfl qal (gd h rfl)) rfl ?_
    refine st_g rfl rfl rfl (qg _ _) (fun h => qi rfl ty9 (gd h rfl)) rfl ?_
    refine st_g rfl rfl rfl (qg _ _) (fun h => kr rfl Tryz.underlying9 (gd h rfl)) rfl ?_
    refine st_g rfl rfl rfl (qg _ _) (fun h => zy rfl (gd h rfl) rfl) rfl ?_
    refine st rfl rfl (z8 rfl rfl rfl rfl) rfl ?_
    refine st rfl rfl (qa rfl rfl) rfl ?_
    refine st_g rfl rfl rfl (qg _ _) (fun h => qa rfl rfl) rfl ?_
    refine st_g rfl rfl rfl (qg _ _) (fun h => qa rfl rfl) rfl ?_
    refine st_g rfl rfl rfl (qg _ _) (fun h => zi (f := S104.c) (l := a0) (a := y3) rfl Tryz.underlying35 xj (gd h rfl) (gd h rfl) (Int.natCast_nonneg _) hx1) rfl ?_
    refine st_g rfl rfl rfl (qg _ _) (fun h => qf rfl qe3 (gd h rfl)) rfl ?_
    refine st_g rfl rfl rfl (qg _ _) (fun h => qi rfl ty9 (gd h rfl)) rfl ?_
    refine st_g rfl rfl rfl (qg _ _) (fun h => kr rfl Tryz.underlying9 (gd h rfl)) rfl ?_
    refine st_g rfl rfl rfl (qg _ _) (fun h => zy rfl (gd h rfl) rfl) rfl ?_
    refine st rfl rfl (z8 rfl rfl rfl rfl) rfl ?_
    refine st rfl rfl (qa rfl rfl) rfl ?_
    refine st_g rfl rfl rfl (qg _ _) (fun h => qa rfl rfl) rfl ?_
    refine st_g rfl rfl rfl (qg _ _) (fun h => qa rfl rfl) rfl ?_
    refine st_g rfl rfl rfl (qg _ _) (fun h => zi (f := S104.c) (l := a0) (a := y3) rfl Tryz.underlying35 xj (gd h rfl) (gd h rfl) (Int.natCast_nonneg _) hx1) rfl ?_
    refine st_g rfl rfl rfl (qg _ _) (fun h => qf rfl qe2 (gd h rfl)) rfl ?_
    refine st_g rfl rfl rfl (qg _ _) (fun h => qi rfl ty9 (gd h rfl)) rfl ?_
    refine st_g rfl rfl rfl (qg _ _) (fun h => kr rfl Tryz.underlying9 (gd h rfl)) rfl ?_
    refine st_g rfl rfl rfl (qg _ _) (fun h => zy rfl (gd h rfl) rfl) rfl ?_
    refine st rfl rfl (z8 rfl rfl rfl rfl) rfl ?_
    refine qe ?_
    refine qm _ rfl (fun h4 => ?_) (fun h4 => ?_)
    ·replace h4 : ((((decide (60 < (ByteArray.size y3.Kind : Int))) || (decide (60 < (ByteArray.size y3.Name : Int)))) || (decide (60 < (ByteArray.size y3.Move : Int)))) || (decide (60 < (ByteArray.size y3.Cause : Int)))) = true := h4
     replace hR := zk hR h4
     refine qd ?_
     refine qb [.p] ?_
     refine st rfl rfl (qc rfl rfl) rfl ?_
     refine qe ?_
     refine qr ?_
     subst hR
     exact zb rfl (rv_g rfl)
    ·replace h4 : ((((decide (60 < (ByteArray.size y3.Kind : Int))) || (decide (60 < (ByteArray.size y3.Name : Int)))) || (decide (60 < (ByteArray.size y3.Move : Int)))) || (decide (60 < (ByteArray.size y3.Cause : Int)))) = false := h4
     replace hR := zl hR h4
     try simp only [Bool.or_eq_true, Bool.and_eq_true, Bool.or_eq_false_iff, Bool.and_eq_false_iff, Bool.not_eq_true', Bool.not_eq_false', decide_eq_true_eq, decide_eq_false_iff_not] at h4
     refine qo ?_
     refine qb [.p, .p, .p] ?_
     refine st rfl rfl (qa rfl rfl) rfl ?_
     refine st rfl rfl (zj rfl rfl rfl (by unfold I64; omega)) rfl ?_
     refine st rfl rfl (qc rfl rfl) rfl ?_
     refine qe ?_
     exact ⟨rfl, (k2 + 1, t4), ⟨rfl, rfl, trivial⟩, trivial, rfl, ⟨hd, hR⟩, by simp⟩
   ·replace h2 : (decide (((k2 : Nat) : Int) < (List.length a0 : Int))) = false := h2
    obtain rfl := zm hd (decF h2)
    rw [s21_l1] at hR
    refine zg ?_
    refine qd ?_
    refine qb [.p] ?_
    refine st rfl rfl (qc rfl rfl) rfl ?_
    refine qe ?_
    refine qr ?_
    subst hR
    exact zb rfl (rv_g rfl)
def s93_l1 (a1 : S151 → Int) : List S151 → Nat → (List Int) → List Int
 | [], k3, x1 => x1
 | y4 :: t5, k3, x1 => s93_l1 a1 t5 (k3 + 1) (x1 ++ [(a1 y4)])
def s93 (a0 : List S151) (a1 : S151 → Int) : List Int :=
 s93_l1 a1 a0 0 []
theorem c93 {g : List (Nat × List Value)} (a0 : List S151) (a1 : S151 → Int) {ca1 : G} {ia1 : FuncId} {ka1 : List G} (ha1 : FnIs ca1 ia1 ka1) (Ka1 : Known Tryz.prog ia1) (Ha1 : ∀ (x0 : S151), Con (EG g) ia1 ([G.agg [G.str x0.Name, G.int x0.Moment, G.str x0.Kind]] ++ ka1) (G.int (a1 x0))) (hb0 : a0.length * 8 ≤ 140737488351232)  : Con (EG g) 93 [G.sl 3 (List.map S151.c a0), ca1] (G.sl 1 (List.map cInt (s93 a0 a1))) := by
 generalize hR : s93 a0 a1 = R
 unfold s93 at hR
 refine qp Tryz.func93 rfl rfl fun w0 M0 => ?_
 refine zc (f := S151.c) (l := a0) 0 rfl fun hla0 => ?_
 refine qd ?_
 refine qb [.w] ?_
 refine st_w rfl rfl (zu 4 37 1 rfl rfl rfl) rfl ?_
 refine qe ?_
 refine qd ?_
 refine qb [.w] ?_
 refine st_w rfl rfl (zu 5 37 1 rfl rfl rfl) rfl ?_
 refine qe ?_
 refine qd ?_
 refine qd ?_
 refine qb [.p, .p, .p] ?_
 refine st rfl rfl (qa rfl rfl) rfl ?_
 refine st rfl rfl (q9 (f := S151.c) (l := a0) rfl Tryz.underlying25 rfl) rfl ?_
 refine st rfl rfl (qa rfl rfl) rfl ?_
 refine qe ?_
 refine qn ?_
 refine qx (γ := Nat × (List S151) × (List Int)) (fun g => ([(1, .g (ca1)), (5, .osl 5 1 0 (List.length g.2.2)), (8, .g (G.sl 3 (List.map S151.c a0))), (9, .g (G.int (List.length a0 : Int))), (10, .g (G.int ((g.1 : Nat) : Int)))], [(5, .arr 37 1 (List.map cInt g.2.2))])) (fun g => g.2.2.length ≤ g.1 ∧ a0.drop g.1 = g.2.1 ∧ s93_l1 a1 g.2.1 g.1 g.2.2 = R) (fun g => List.length g.2.1) ⟨rfl, (0, a0, []), ⟨rfl, rfl, rfl, rfl, rfl, trivial⟩, ⟨rfl, trivial⟩, rfl, ⟨(by first | (simp; done) | (simp; omega)), rfl, hR⟩, trivial⟩ ?_
 ·rintro ⟨k3, t5, x1⟩ ⟨iv1_0, hd, hR⟩
  replace hd : a0.drop k3 = t5 := hd
  replace hR : s93_l1 a1 t5 k3 x1 = R := hR
  replace iv1_0 : x1.length ≤ k3 := iv1_0
  refine qd ?_
  refine qb [.p] ?_
  refine st rfl rfl (ze rfl rfl rfl) rfl ?_
  refine qe ?_
  refine zc (f := S151.c) (l := a0) 8 rfl fun hlz1 => ?_
  refine qd ?_
  refine qm _ rfl (fun h1 => ?_) (fun h1 => ?_)
  ·replace h1 : (decide (((k3 : Nat) : Int) < (List.length a0 : Int))) = true := h1
   obtain ⟨y4, t5, rfl, hx1, hd⟩ := zh hd (decT h1)
   replace h1 := decT h1
   rw [s93_l1] at hR
   try dsimp only at hR
   refine qo ?_
   refine qd ?_
   refine qn ?_
   refine qd ?_
   refine qb [.p, .p, .w, .w] ?_
   refine st rfl rfl (zi (f := S151.c) (l := a0) (a := y4) rfl Tryz.underlying25 ko rfl rfl (Int.natCast_nonneg _) hx1) rfl ?_
   refine st rfl rfl (qt rfl ko rfl rfl rfl) rfl ?_
   refine st_w rfl rfl (jm 7 rfl z152 rfl rfl) rfl ?_
   refine j8 rfl rfl (zt (tv := .g (G.agg [G.str y4.Name, G.int y4.Moment, G.str y4.Kind])) rfl ko rfl rfl rfl rfl rfl) ?_
   refine qe ?_
   refine qb [.p, .p, .r, .p, .p, .k, .p] ?_
   refine st rfl rfl (qq rfl rfl) rfl ?_
   refine st rfl rfl (qa rfl rfl) rfl ?_
   refine st_r rfl rfl (jo rfl ko rfl rfl rfl rfl) rfl ?_
   refine st rfl rfl (v5 rfl ha1 Ka1 rfl (Ha1 y4) (qh rfl qk)) rfl ?_
   refine st rfl rfl (qu rfl Tryz.underlying170 ty37 z37 rfl (qw rfl z4) rfl (by simp []) (by decide)) rfl ?_
   refine st_k rfl rfl (z5 (f := cInt) (out := x1) (new := [(a1 y4)]) rfl qqe rfl rfl (kc rfl (vc (by decide) (by simp []))) (vp rfl) (by simp; omega)) rfl ?_
   refine st rfl rfl (qy rfl rfl) rfl ?_
   refine qe ?_
   refine qb [.p, .p] ?_
   refine st rfl rfl (zj rfl rfl rfl (by unfold I64; omega)) rfl ?_
   refine st rfl rfl (qa rfl rfl) rfl ?_
   refine qe ?_
   exact ⟨rfl, (k3 + 1, t5, x1 ++ [(a1 y4)]), ⟨rfl, rfl, rfl, rfl, rfl, trivial⟩, ⟨rfl, trivial⟩, rfl, ⟨(by first | omega | (dsimp only; omega) | (simp at *; omega)), hd, hR⟩, by simp⟩
  ·replace h1 : (decide (((k3 : Nat) : Int) < (List.length a0 : Int))) = false := h1
   obtain rfl := zm hd (decF h1)
   rw [s93_l1] at hR
   refine zg ?_
   refine qd ?_
   refine qb [.p, .p] ?_
   refine st rfl rfl (qq rfl rfl) rfl ?_
   refine st rfl rfl (qy rfl rfl) rfl ?_
   refine qe ?_
   refine qr ?_
   subst hR
   exact zb rfl (wd rfl rfl)
def s98_l1 (a1 : S104 → Int) : List S104 → Nat → (List Int) → List Int
 | [], k3, x1 => x1
 | y4 :: t5, k3, x1 => s98_l1 a1 t5 (k3 + 1) (x1 ++ [(a1 y4)])
def s98 (a0 : List S104) (a1 : S104 → Int) : List Int :=
 s98_l1 a1 a0 0 []
theorem c98 {g : List (Nat × List Value)} (a0 : List S104) (a1 : S104 → Int) {ca1 : G} {ia1 : FuncId} {ka1 : List G} (ha1 : FnIs ca1 ia1 ka1) (Ka1 : Known Tryz.prog ia1) (Ha1 : ∀ (x0 : S104), Con (EG g) ia1 ([G.agg [G.str x0.Kind, G.str x0.Name, G.int x0.Moment, G.str x0.Move, G.int x0.fFrom, G.int x0.fTo, G.str x0.Cause, G.int x0.Told]] ++ ka1) (G.int (a1 x0))) (hb0 : a0.length * 8 ≤ 140737488351232)  : Con (EG g) 98 [G.sl 8 (List.map S104.c a0), ca1] (G.sl 1 (List.map cInt (s98 a0 a1))) := by
 generalize hR : s98 a0 a1 = R
 unfold s98 at hR
 refine qp Tryz.func98 rfl rfl fun w0 M0 => ?_
 refine zc (f := S104.c) (l := a0) 0 rfl fun hla0 => ?_
 refine qd ?_
 refine qb [.w] ?_
 refine st_w rfl rfl (zu 4 37 1 rfl rfl rfl) rfl ?_
 refine qe ?_
 refine qd ?_
 refine qb [.w] ?_
 refine st_w rfl rfl (zu 5 37 1 rfl rfl rfl) rfl ?_
 refine qe ?_
 refine qd ?_
 refine qd ?_
 refine qb [.p, .p, .p] ?_
 refine st rfl rfl (qa rfl rfl) rfl ?_
 refine st rfl rfl (q9 (f := S104.c) (l := a0) rfl Tryz.underlying26 rfl) rfl ?_
 refine st rfl rfl (qa rfl rfl) rfl ?_
 refine qe ?_
 refine qn ?_
 refine qx (γ := Nat × (List S104) × (List Int)) (fun g => ([(1, .g (ca1)), (5, .osl 5 1 0 (List.length g.2.2)), (8, .g (G.sl 8 (List.map S104.c a0))), (9, .g (G.int (List.length a0 : Int))), (10, .g (G.int ((g.1 : Nat) : Int)))], [(5, .arr 37 1 (List.map cInt g.2.2))])) (fun g => g.2.2.length ≤ g.1 ∧ a0.drop g.1 = g.2.1 ∧ s98_l1 a1 g.2.1 g.1 g.2.2 = R) (fun g => List.length g.2.1) ⟨rfl, (0, a0, []), ⟨rfl, rfl, rfl, rfl, rfl, trivial⟩, ⟨rfl, trivial⟩, rfl, ⟨(by first | (simp; done) | (simp; omega)), rfl, hR⟩, trivial⟩ ?_
 ·rintro ⟨k3, t5, x1⟩ ⟨iv1_0, hd, hR⟩
  replace hd : a0.drop k3 = t5 := hd
  replace hR : s98_l1 a1 t5 k3 x1 = R := hR
  replace iv1_0 : x1.length ≤ k3 := iv1_0
  refine qd ?_
  refine qb [.p] ?_
  refine st rfl rfl (ze rfl rfl rfl) rfl ?_
  refine qe ?_
  refine zc (f := S104.c) (l := a0) 8 rfl fun hlz1 => ?_
  refine qd ?_
  refine qm _ rfl (fun h1 => ?_) (fun h1 => ?_)
  ·replace h1 : (decide (((k3 : Nat) : Int) < (List.length a0 : Int))) = true := h1
   obtain ⟨y4, t5, rfl, hx1, hd⟩ := zh hd (decT h1)
   replace h1 := decT h1
   rw [s98_l1] at hR
   try dsimp only at hR
   refine qo ?_
   refine qd ?_
   refine qn ?_
   refine qd ?_
   refine qb [.p, .p, .w, .w] ?_
   refine st rfl rfl (zi (f := S104.c) (l := a0) (a := y4) rfl Tryz.underlying26 xx rfl rfl (Int.natCast_nonneg _) hx1) rfl ?_
   refine st rfl rfl (qt rfl xx rfl rfl rfl) rfl ?_
   refine st_w rfl rfl (jm 7 rfl z105 rfl rfl) rfl ?_
   refine j8 rfl rfl (zt (tv := .g (G.agg [G.str y4.Kind, G.str y4.Name, G.int y4.Moment, G.str y4.Move, G.int y4.fFrom, G.int y4.fTo, G.str y4.Cause, G.int y4.Told])) rfl xx rfl rfl rfl rfl rfl) ?_
   refine qe ?_
   refine qb [.p, .p, .r, .p, .p, .k, .p] ?_
   refine st rfl rfl (qq rfl rfl) rfl ?_
   refine st rfl rfl (qa rfl rfl) rfl ?_
   refine st_r rfl rfl (jo rfl xx rfl rfl rfl rfl) rfl ?_
   refine st rfl rfl (v5 rfl ha1 Ka1 rfl (Ha1 y4) (qh rfl qk)) rfl ?_
   refine st rfl rfl (qu rfl Tryz.underlying170 ty37 z37 rfl (qw rfl z4) rfl (by simp []) (by decide)) rfl ?_
   refine st_k rfl rfl (z5 (f := cInt) (out := x1) (new := [(a1 y4)]) rfl qqe rfl rfl (kc rfl (vc (by decide) (by simp []))) (vp rfl) (by simp; omega)) rfl ?_
   refine st rfl rfl (qy rfl rfl) rfl ?_
   refine qe ?_
   refine qb [.p, .p] ?_
   refine st rfl rfl (zj rfl rfl rfl (by unfold I64; omega)) rfl ?_
   refine st rfl rfl (qa rfl rfl) rfl ?_
   refine qe ?_
   exact ⟨rfl, (k3 + 1, t5, x1 ++ [(a1 y4)]), ⟨rfl, rfl, rfl, rfl, rfl, trivial⟩, ⟨rfl, trivial⟩, rfl, ⟨(by first | omega | (dsimp only; omega) | (simp at *; omega)), hd, hR⟩, by simp⟩
  ·replace h1 : (decide (((k3 : Nat) : Int) < (List.length a0 : Int))) = false := h1
   obtain rfl := zm hd (decF h1)
   rw [s98_l1] at hR
   refine zg ?_
   refine qd ?_
   refine qb [.p, .p] ?_
   refine st rfl rfl (qq rfl rfl) rfl ?_
   refine st rfl rfl (qy rfl rfl) rfl ?_
   refine qe ?_
   refine qr ?_
   subst hR
   exact zb rfl (wd rfl rfl)
def s91_l1  : List UInt8 → Nat → Bool
 | [], k2 => true
 | y3 :: t4, k2 => (bif (!(((decide (97 ≤ (y3.toNat : Int))) && (decide ((y3.toNat : Int) ≤ 122))) || ((decide (65 ≤ (y3.toNat : Int))) && (decide ((y3.toNat : Int) ≤ 90))))) && ((decide (((k2 : Nat) : Int) = 0)) || ((decide ((y3.toNat : Int) ≠ 95)) && ((decide ((y3.toNat : Int) < 48)) || (decide (57 < (y3.toNat : Int)))))) then false else s91_l1  t4 (k2 + 1))
def s91 (a0 : ByteArray) : Bool :=
 (bif (decide ((ByteArray.size a0 : Int) = 0)) || (decide (24 < (ByteArray.size a0 : Int))) then false else s91_l1 ((ByteArray.data a0).toList) 0)
theorem c91 {g : List (Nat × List Value)} (a0 : ByteArray)    : Con (EG g) 91 [G.str a0] (G.bool (s91 a0)) := by
 generalize hR : s91 a0 = R
 unfold s91 at hR
 refine qp Tryz.func91 rfl rfl fun w0 M0 => ?_
 refine qd ?_
 refine qb [.p] ?_
 refine st rfl rfl (qc rfl rfl) rfl ?_
 refine qe ?_
 refine qd ?_
 refine qd ?_
 refine qb [.p, .p, .p, .p, .p, .p, .p, .p] ?_
 refine st rfl rfl (qa rfl rfl) rfl ?_
 refine st rfl rfl (kr rfl Tryz.underlying9 rfl) rfl ?_
 refine st rfl rfl (jq rfl rfl rfl) rfl ?_
 refine st rfl rfl (qa rfl rfl) rfl ?_
 refine st_g rfl rfl rfl (qg _ _) (fun h => qa rfl rfl) rfl ?_
 refine st_g rfl rfl rfl (qg _ _) (fun h => kr rfl Tryz.underlying9 (gd h rfl)) rfl ?_
 refine st_g rfl rfl rfl (qg _ _) (fun h => zy rfl (gd h rfl) rfl) rfl ?_
 refine st rfl rfl (z8 rfl rfl rfl rfl) rfl ?_
 refine qe ?_
 refine qm _ rfl (fun h1 => ?_) (fun h1 => ?_)
 ·replace h1 : ((decide ((ByteArray.size a0 : Int) = 0)) || (decide (24 < (ByteArray.size a0 : Int)))) = true := h1
  replace hR := zk hR h1
  refine qd ?_
  refine qb [.p] ?_
  refine st rfl rfl (qc rfl rfl) rfl ?_
  refine qe ?_
  refine qr ?_
  subst hR
  exact zb rfl (rv_g rfl)
 ·replace h1 : ((decide ((ByteArray.size a0 : Int) = 0)) || (decide (24 < (ByteArray.size a0 : Int)))) = false := h1
  replace hR := zl hR h1
  try simp only [Bool.or_eq_true, Bool.and_eq_true, Bool.or_eq_false_iff, Bool.and_eq_false_iff, Bool.not_eq_true', Bool.not_eq_false', decide_eq_true_eq, decide_eq_false_iff_not] at h1
  refine qo ?_
  refine qd ?_
  refine qd ?_
  refine qb [.p] ?_
  refine st rfl rfl (qc rfl rfl) rfl ?_
  refine qe ?_
  refine qn ?_
  refine qx (γ := Nat × (List UInt8)) (fun g => ([(0, .g (G.str a0)), (3, .g (G.int ((g.1 : Nat) : Int)))], [])) (fun g => ((ByteArray.data a0).toList).drop g.1 = g.2 ∧ s91_l1  g.2 g.1 = R) (fun g => List.length g.2) ⟨rfl, (0, ((ByteArray.data a0).toList)), ⟨rfl, rfl, trivial⟩, trivial, rfl, ⟨rfl, hR⟩, trivial⟩ ?_
  ·rintro ⟨k2, t4⟩ ⟨hd, hR⟩
   replace hd : ((ByteArray.data a0).toList).drop k2 = t4 := hd
   replace hR : s91_l1  t4 k2 = R := hR
   refine qd ?_
   refine qd ?_
   refine qb [.p, .p, .p, .p] ?_
   refine st rfl rfl (qa rfl rfl) rfl ?_
   refine st rfl rfl (qa rfl rfl) rfl ?_
   refine st rfl rfl (kr rfl Tryz.underlying9 rfl) rfl ?_
   refine st rfl rfl (ze rfl rfl rfl) rfl ?_
   refine qe ?_
   refine qm _ rfl (fun h2 => ?_) (fun h2 => ?_)
   ·replace h2 : (decide (((k2 : Nat) : Int) < (ByteArray.size a0 : Int))) = true := h2
    obtain ⟨y3, t4, rfl, hx1, hd⟩ := qk0 hd (decT h2)
    replace h2 := decT h2
    rw [s91_l1] at hR
    try dsimp only at hR
    refine qo ?_
    refine qd ?_
    refine qn ?_
    refine qd ?_
    refine qb [.p, .p, .p, .p] ?_
    refine st rfl rfl (qa rfl rfl) rfl ?_
    refine st rfl rfl (qa rfl rfl) rfl ?_
    refine st rfl rfl (qky (b := y3) rfl Tryz.underlying9 rfl rfl (Int.natCast_nonneg _) hx1) rfl ?_
    refine st rfl rfl (qc rfl rfl) rfl ?_
    refine qe ?_
    refine qd ?_
    refine qb [.p, .p, .p, .p, .p, .p, .p, .p, .p, .p, .p, .p, .p, .p, .p] ?_
    refine st rfl rfl (qa rfl rfl) rfl ?_
    refine st rfl rfl (vi rfl rfl rfl) rfl ?_
    refine st rfl rfl (qa rfl rfl) rfl ?_
    refine st_g rfl rfl rfl (qg _ _) (fun h => qa rfl rfl) rfl ?_
    refine st_g rfl rfl rfl (qg _ _) (fun h => kg rfl (gd h rfl) rfl) rfl ?_
    refine st rfl rfl (zf rfl rfl rfl rfl) rfl ?_
    refine st rfl rfl (qa rfl rfl) rfl ?_
    refine st_g rfl rfl rfl (qg _ _) (fun h => qa rfl rfl) rfl ?_
    refine st_g rfl rfl rfl (qg _ _) (fun h => vi rfl (gd h rfl) rfl) rfl ?_
    refine st_g rfl rfl rfl (qg _ _) (fun h => qa rfl (gd h rfl)) rfl ?_
    refine st_g rfl rfl rfl (zq _ _ _) (fun h => qa rfl rfl) rfl ?_
    refine st_g rfl rfl rfl (zq _ _ _) (fun h => kg rfl (gd h rfl) rfl) rfl ?_
    refine st_g rfl rfl rfl (qg _ _) (fun h => zf rfl (gd h rfl) rfl (gd2 h rfl)) rfl ?_
    refine st rfl rfl (z8 rfl rfl rfl rfl) rfl ?_
    refine st rfl rfl (qc rfl rfl) rfl ?_
    refine qe ?_
    refine qd ?_
    refine qb [.p, .p, .p, .p, .p, .p, .p, .p, .p, .p, .p, .p, .p, .p, .p, .p, .p, .p] ?_
    refine st rfl rfl (qa rfl rfl) rfl ?_
    refine st rfl rfl (jx rfl rfl) rfl ?_
    refine st rfl rfl (qa rfl rfl) rfl ?_
    refine st_g rfl rfl rfl (qg _ _) (fun h => qa rfl rfl) rfl ?_
    refine st_g rfl rfl rfl (qg _ _) (fun h => jq rfl (gd h rfl) rfl) rfl ?_
    refine st_g rfl rfl rfl (qg _ _) (fun h => qa rfl (gd h rfl)) rfl ?_
    refine st_g rfl rfl rfl (zq _ _ _) (fun h => qa rfl rfl) rfl ?_
    refine st_g rfl rfl rfl (zq _ _ _) (fun h => zz rfl (gd h rfl) rfl) rfl ?_
    refine st_g rfl rfl rfl (zq _ _ _) (fun h => qa rfl (gd h rfl)) rfl ?_
    refine st_g rfl rfl rfl (zq _ _ _) (fun h => qa rfl rfl) rfl ?_
    refine st_g rfl rfl rfl (zq _ _ _) (fun h => ze rfl (gd h rfl) rfl) rfl ?_
    refine st_g rfl rfl rfl (zq _ _ _) (fun h => qa rfl (gd h rfl)) rfl ?_
    refine st_g rfl rfl rfl (zq _ _ _) (fun h => qa rfl rfl) rfl ?_
    refine st_g rfl rfl rfl (zq _ _ _) (fun h => zy rfl (gd h rfl) rfl) rfl ?_
    refine st_g rfl rfl rfl (zq _ _ _) (fun h => z8 rfl (gd h rfl) rfl (gd2 h rfl)) rfl ?_
    refine st_g rfl rfl rfl (zq _ _ _) (fun h => zf rfl (gd h rfl) rfl (gd2 h rfl)) rfl ?_
    refine st_g rfl rfl rfl (qg _ _) (fun h => z8 rfl (gd h rfl) rfl (gd2 h rfl)) rfl ?_
    refine st rfl rfl (zf rfl rfl rfl rfl) rfl ?_
    refine qe ?_
    refine qm _ rfl (fun h4 => ?_) (fun h4 => ?_)
    ·replace h4 : ((!(((decide (97 ≤ (y3.toNat : Int))) && (decide ((y3.toNat : Int) ≤ 122))) || ((decide (65 ≤ (y3.toNat : Int))) && (decide ((y3.toNat : Int) ≤ 90))))) && ((decide (((k2 : Nat) : Int) = 0)) || ((decide ((y3.toNat : Int) ≠ 95)) && ((decide ((y3.toNat : Int) < 48)) || (decide (57 < (y3.toNat : Int))))))) = true := h4
     replace hR := zk hR h4
     refine qd ?_
     refine qb [.p] ?_
     refine st rfl rfl (qc rfl rfl) rfl ?_
     refine qe ?_
     refine qr ?_
     subst hR
     exact zb rfl (rv_g rfl)
    ·replace h4 : ((!(((decide (97 ≤ (y3.toNat : Int))) && (decide ((y3.toNat : Int) ≤ 122))) || ((decide (65 ≤ (y3.toNat : Int))) && (decide ((y3.toNat : Int) ≤ 90))))) && ((decide (((k2 : Nat) : Int) = 0)) || ((decide ((y3.toNat : Int) ≠ 95)) && ((decide ((y3.toNat : Int) < 48)) || (decide (57 < (y3.toNat : Int))))))) = false := h4
     replace hR := zl hR h4
     try simp only [Bool.or_eq_true, Bool.and_eq_true, Bool.or_eq_false_iff, Bool.and_eq_false_iff, Bool.not_eq_true', Bool.not_eq_false', decide_eq_true_eq, decide_eq_false_iff_not] at h4
     refine qo ?_
     refine qb [.p, .p, .p] ?_
     refine st rfl rfl (qa rfl rfl) rfl ?_
     refine st rfl rfl (zj rfl rfl rfl (by unfold I64; omega)) rfl ?_
     refine st rfl rfl (qc rfl rfl) rfl ?_
     refine qe ?_
     exact ⟨rfl, (k2 + 1, t4), ⟨rfl, rfl, trivial⟩, trivial, rfl, ⟨hd, hR⟩, by simp⟩
   ·replace h2 : (decide (((k2 : Nat) : Int) < (ByteArray.size a0 : Int))) = false := h2
    obtain rfl := qmh hd (decF h2)
    rw [s91_l1] at hR
    refine zg ?_
    refine qd ?_
    refine qb [.p] ?_
    refine st rfl rfl (qc rfl rfl) rfl ?_
    refine qe ?_
    refine qr ?_
    subst hR
    exact zb rfl (rv_g rfl)
def s147_l1  : List (Int × Int) → Bool
 | [] => true
 | y2 :: t3 => (bif (!(((decide (65 ≤ y2.2)) && (decide (y2.2 ≤ 90))) || ((decide (97 ≤ y2.2)) && (decide (y2.2 ≤ 122))))) && ((decide (y2.1 = 0)) || ((decide (y2.2 ≠ 95)) && ((decide (y2.2 < 48)) || (decide (57 < y2.2))))) then false else s147_l1 t3)
def s147 (a0 : ByteArray) : Bool :=
 (bif (decide ((ByteArray.size a0 : Int) = 0)) || (decide (24 < (ByteArray.size a0 : Int))) then false else s147_l1 (runes a0))
theorem c147 {g : List (Nat × List Value)} (a0 : ByteArray)    : Con (EG g) 147 [G.str a0] (G.bool (s147 a0)) := by
 generalize hR : s147 a0 = R
 unfold s147 at hR
 refine qp Tryz.func147 rfl rfl fun w0 M0 => ?_
 refine qd ?_
 refine qb [.p] ?_
 refine st rfl rfl (qc rfl rfl) rfl ?_
 refine qe ?_
 refine qd ?_
 refine qd ?_
 refine qb [.p, .p, .p, .p, .p, .p, .p, .p] ?_
 refine st rfl rfl (qa rfl rfl) rfl ?_
 refine st rfl rfl (kr rfl Tryz.underlying9 rfl) rfl ?_
 refine st rfl rfl (jq rfl rfl rfl) rfl ?_
 refine st rfl rfl (qa rfl rfl) rfl ?_
 refine st_g rfl rfl rfl (qg _ _) (fun h => qa rfl rfl) rfl ?_
 refine st_g rfl rfl rfl (qg _ _) (fun h => kr rfl Tryz.underlying9 (gd h rfl)) rfl ?_
 refine st_g rfl rfl rfl (qg _ _) (fun h => zy rfl (gd h rfl) rfl) rfl ?_
 refine st rfl rfl (z8 rfl rfl rfl rfl) rfl ?_
 refine qe ?_
 refine qm _ rfl (fun h1 => ?_) (fun h1 => ?_)
 ·replace h1 : ((decide ((ByteArray.size a0 : Int) = 0)) || (decide (24 < (ByteArray.size a0 : Int)))) = true := h1
  replace hR := zk hR h1
  refine qd ?_
  refine qb [.p] ?_
  refine st rfl rfl (qc rfl rfl) rfl ?_
  refine qe ?_
  refine qr ?_
  subst hR
  exact zb rfl (rv_g rfl)
 ·replace h1 : ((decide ((ByteArray.size a0 : Int) = 0)) || (decide (24 < (ByteArray.size a0 : Int)))) = false := h1
  replace hR := zl hR h1
  try simp only [Bool.or_eq_true, Bool.and_eq_true, Bool.or_eq_false_iff, Bool.and_eq_false_iff, Bool.not_eq_true', Bool.not_eq_false', decide_eq_true_eq, decide_eq_false_iff_not] at h1
  refine qo ?_
  refine qd ?_
  refine qd ?_
  refine qb [.p, .w] ?_
  refine st rfl rfl (qa rfl rfl) rfl ?_
  refine st_w rfl rfl (qkz 15 rfl Tryz.underlying9 rfl rfl) rfl ?_
  refine qe ?_
  refine qn ?_
  refine qx (γ := Nat × (List (Int × Int))) (fun g => ([(15, .ptr 15 0)], [(15, .it a0 g.1)])) (fun g => RunesAt a0 g.1 g.2 ∧ s147_l1 g.2 = R) (fun g => List.length g.2) ⟨rfl, (0, runes a0), ⟨rfl, trivial⟩, ⟨rfl, trivial⟩, rfl, ⟨qer _, hR⟩, trivial⟩ ?_
  ·rintro ⟨p1, t3⟩ ⟨hP, hR⟩
   replace hP : RunesAt a0 p1 t3 := hP
   replace hR : s147_l1 t3 = R := hR
   cases t3 with
   | nil =>
    rw [s147_l1] at hR
    refine qd ?_
    refine qb [.r, .p] ?_
    refine st_r rfl rfl (qme rfl rfl rfl (qh6 hP)) rfl ?_
    refine st rfl rfl (zp rfl rfl rfl) rfl ?_
    refine qe ?_
    refine qd ?_
    refine qm _ rfl (fun h2 => ?_) (fun h2 => ?_)
    ·exact Bool.noConfusion h2
    ·refine zg ?_
     refine qd ?_
     refine qb [.p] ?_
     refine st rfl rfl (qc rfl rfl) rfl ?_
     refine qe ?_
     refine qr ?_
     subst hR
     exact zb rfl (rv_g rfl)
   | cons y2 t3 =>
    obtain ⟨hlt, hy, hP⟩ := qgj hP
    rw [s147_l1] at hR
    refine qd ?_
    refine qb [.w, .p] ?_
    refine st_w rfl rfl (qmi (y := y2) rfl rfl rfl hlt hy) rfl ?_
    refine st rfl rfl (zp rfl rfl rfl) rfl ?_
    refine qe ?_
    refine qd ?_
    refine qm _ rfl (fun h3 => ?_) (fun h3 => ?_)
    ·refine qo ?_
     refine qn ?_
     refine qd ?_
     refine qb [.p, .p, .p, .p] ?_
     refine st rfl rfl (zp rfl rfl rfl) rfl ?_
     refine st rfl rfl (zp rfl rfl rfl) rfl ?_
     refine st rfl rfl (qc rfl rfl) rfl ?_
     refine st rfl rfl (qc rfl rfl) rfl ?_
     refine qe ?_
     refine qd ?_
     refine qb [.p, .p, .p, .p, .p, .p, .p, .p, .p, .p, .p, .p, .p, .p, .p] ?_
     refine st rfl rfl (qa rfl rfl) rfl ?_
     refine st rfl rfl (vi rfl rfl rfl) rfl ?_
     refine st rfl rfl (qa rfl rfl) rfl ?_
     refine st_g rfl rfl rfl (qg _ _) (fun h => qa rfl rfl) rfl ?_
     refine st_g rfl rfl rfl (qg _ _) (fun h => kg rfl (gd h rfl) rfl) rfl ?_
     refine st rfl rfl (zf rfl rfl rfl rfl) rfl ?_
     refine st rfl rfl (qa rfl rfl) rfl ?_
     refine st_g rfl rfl rfl (qg _ _) (fun h => qa rfl rfl) rfl ?_
     refine st_g rfl rfl rfl (qg _ _) (fun h => vi rfl (gd h rfl) rfl) rfl ?_
     refine st_g rfl rfl rfl (qg _ _) (fun h => qa rfl (gd h rfl)) rfl ?_
     refine st_g rfl rfl rfl (zq _ _ _) (fun h => qa rfl rfl) rfl ?_
     refine st_g rfl rfl rfl (zq _ _ _) (fun h => kg rfl (gd h rfl) rfl) rfl ?_
     refine st_g rfl rfl rfl (qg _ _) (fun h => zf rfl (gd h rfl) rfl (gd2 h rfl)) rfl ?_
     refine st rfl rfl (z8 rfl rfl rfl rfl) rfl ?_
     refine st rfl rfl (qc rfl rfl) rfl ?_
     refine qe ?_
     refine qd ?_
     refine qb [.p, .p, .p, .p, .p, .p, .p, .p, .p, .p, .p, .p, .p, .p, .p, .p, .p, .p] ?_
     refine st rfl rfl (qa rfl rfl) rfl ?_
     refine st rfl rfl (jx rfl rfl) rfl ?_
     refine st rfl rfl (qa rfl rfl) rfl ?_
     refine st_g rfl rfl rfl (qg _ _) (fun h => qa rfl rfl) rfl ?_
     refine st_g rfl rfl rfl (qg _ _) (fun h => jq rfl (gd h rfl) rfl) rfl ?_
     refine st_g rfl rfl rfl (qg _ _) (fun h => qa rfl (gd h rfl)) rfl ?_
     refine st_g rfl rfl rfl (zq _ _ _) (fun h => qa rfl rfl) rfl ?_
     refine st_g rfl rfl rfl (zq _ _ _) (fun h => zz rfl (gd h rfl) rfl) rfl ?_
     refine st_g rfl rfl rfl (zq _ _ _) (fun h => qa rfl (gd h rfl)) rfl ?_
     refine st_g rfl rfl rfl (zq _ _ _) (fun h => qa rfl rfl) rfl ?_
     refine st_g rfl rfl rfl (zq _ _ _) (fun h => ze rfl (gd h rfl) rfl) rfl ?_
     refine st_g rfl rfl rfl (zq _ _ _) (fun h => qa rfl (gd h rfl)) rfl ?_
     refine st_g rfl rfl rfl (zq _ _ _) (fun h => qa rfl rfl) rfl ?_
     refine st_g rfl rfl rfl (zq _ _ _) (fun h => zy rfl (gd h rfl) rfl) rfl ?_
     refine st_g rfl rfl rfl (zq _ _ _) (fun h => z8 rfl (gd h rfl) rfl (gd2 h rfl)) rfl ?_
     refine st_g rfl rfl rfl (zq _ _ _) (fun h => zf rfl (gd h rfl) rfl (gd2 h rfl)) rfl ?_
     refine st_g rfl rfl rfl (qg _ _) (fun h => z8 rfl (gd h rfl) rfl (gd2 h rfl)) rfl ?_
     refine st rfl rfl (zf rfl rfl rfl rfl) rfl ?_
     refine qe ?_
     refine qm _ rfl (fun h4 => ?_) (fun h4 => ?_)
     ·replace h4 : ((!(((decide (65 ≤ y2.2)) && (decide (y2.2 ≤ 90))) || ((decide (97 ≤ y2.2)) && (decide (y2.2 ≤ 122))))) && ((decide (y2.1 = 0)) || ((decide (y2.2 ≠ 95)) && ((decide (y2.2 < 48)) || (decide (57 < y2.2)))))) = true := h4
      replace hR := zk hR h4
      refine qd ?_
      refine qb [.p] ?_
      refine st rfl rfl (qc rfl rfl) rfl ?_
      refine qe ?_
      refine qr ?_
      subst hR
      exact zb rfl (rv_g rfl)
     ·replace h4 : ((!(((decide (65 ≤ y2.2)) && (decide (y2.2 ≤ 90))) || ((decide (97 ≤ y2.2)) && (decide (y2.2 ≤ 122))))) && ((decide (y2.1 = 0)) || ((decide (y2.2 ≠ 95)) && ((decide (y2.2 < 48)) || (decide (57 < y2.2)))))) = false := h4
      replace hR := zl hR h4
      try simp only [Bool.or_eq_true, Bool.and_eq_true, Bool.or_eq_false_iff, Bool.and_eq_false_iff, Bool.not_eq_true', Bool.not_eq_false', decide_eq_true_eq, decide_eq_false_iff_not] at h4
      refine qo ?_
      exact ⟨rfl, ((p1 + (Utf8.decode a0 p1).2), t3), ⟨rfl, trivial⟩, ⟨rfl, trivial⟩, rfl, ⟨hP, hR⟩, by simp⟩
    ·exact Bool.noConfusion h3
def s95 (a0 : ByteArray) : Int :=
 (bif !(s91 a0) then 8 else 0)
theorem c95 {g : List (Nat × List Value)} (a0 : ByteArray)    : Con (EG g) 95 [G.str a0] (G.int (s95 a0)) := by
 generalize hR : s95 a0 = R
 unfold s95 at hR
 refine qp Tryz.func95 rfl rfl fun w0 M0 => ?_
 refine qd ?_
 refine qb [.p] ?_
 refine st rfl rfl (qc rfl rfl) rfl ?_
 refine qe ?_
 refine qd ?_
 refine qd ?_
 refine qb [.p, .p, .p] ?_
 refine st rfl rfl (qa rfl rfl) rfl ?_
 refine st rfl rfl (qj rfl K91 rfl (c91 a0) (qh rfl qk)) rfl ?_
 refine st rfl rfl (jx rfl rfl) rfl ?_
 refine qe ?_
 refine qm _ rfl (fun h1 => ?_) (fun h1 => ?_)
 ·replace h1 : (!(s91 a0)) = true := h1
  replace hR := zk hR h1
  refine qd ?_
  refine qb [.p] ?_
  refine st rfl rfl (qc rfl rfl) rfl ?_
  refine qe ?_
  refine qr ?_
  subst hR
  exact zb rfl (rv_g rfl)
 ·replace h1 : (!(s91 a0)) = false := h1
  replace hR := zl hR h1
  refine qo ?_
  refine qd ?_
  refine qb [.p] ?_
  refine st rfl rfl (qc rfl rfl) rfl ?_
  refine qe ?_
  refine qr ?_
  subst hR
  exact zb rfl (rv_g rfl)
def s24_l1 (a0 : S23) : List ByteArray → Nat → Int
 | [], k2 => (s89 [(s90 a0.Off 0 720), (s90 a0.Run 1 512)])
 | y3 :: t4, k2 => (bif !(s91 y3) then 8 else (bif (s92 (List.take (Int.toNat ((k2 : Nat) : Int)) a0.Causes) y3) then 9 else s24_l1 a0 t4 (k2 + 1)))
def s24 (a0 : S23) : Int :=
 (bif decide ((s89 [(s90 a0.Before 0 720), (s90 a0.After 0 720), (s90 a0.Notice 0 365), (s90 a0.Share 1 100)]) ≠ 0) then (s89 [(s90 a0.Before 0 720), (s90 a0.After 0 720), (s90 a0.Notice 0 365), (s90 a0.Share 1 100)]) else (bif decide (16 < (List.length a0.Causes : Int)) then 5 else s24_l1 a0 a0.Causes 0))
theorem c24 {g : List (Nat × List Value)} (a0 : S23)    : Con (EG g) 24 [G.agg [G.int a0.Before, G.int a0.After, G.int a0.Notice, G.int a0.Share, G.sl 1 (List.map cStr a0.Causes), G.int a0.Off, G.int a0.Run]] (G.int (s24 a0)) := by
 generalize hR : s24 a0 = R
 unfold s24 at hR
 refine qp Tryz.func24 rfl rfl fun w0 M0 => ?_
 refine qd ?_
 refine qb [.p, .p] ?_
 refine st rfl rfl (zd rfl rfl) rfl ?_
 refine st rfl rfl (qc rfl rfl) rfl ?_
 refine qe ?_
 refine qd ?_
 refine zw [.p, .p, .p, .p, .p, .p, .p, .p, .p, .p, .p, .p, .p, .p, .p] (by kernel_rfl) ?_
 refine st rfl rfl (qf rfl qqa rfl) rfl ?_
 refine st rfl rfl (qi rfl ty3 rfl) rfl ?_
 refine st rfl rfl (qj rfl K90 rfl (c90 a0.Before 0 720) (qh rfl (qh rfl (qh rfl qk)))) rfl ?_
 refine st rfl rfl (qf rfl qqb rfl) rfl ?_
 refine st rfl rfl (qi rfl ty3 rfl) rfl ?_
 refine st rfl rfl (qj rfl K90 rfl (c90 a0.After 0 720) (qh rfl (qh rfl (qh rfl qk)))) rfl ?_
 refine st rfl rfl (qf rfl qpz rfl) rfl ?_
 refine st rfl rfl (qi rfl ty3 rfl) rfl ?_
 refine st rfl rfl (qj rfl K90 rfl (c90 a0.Notice 0 365) (qh rfl (qh rfl (qh rfl qk)))) rfl ?_
 refine st rfl rfl (qf rfl qng rfl) rfl ?_
 refine st rfl rfl (qi rfl ty3 rfl) rfl ?_
 refine st rfl rfl (qj rfl K90 rfl (c90 a0.Share 1 100) (qh rfl (qh rfl (qh rfl qk)))) rfl ?_
 refine st rfl rfl (qu rfl Tryz.underlying82 ty3 z3 rfl (qw rfl (qw rfl (qw rfl (qw rfl z4)))) rfl (by simp []) (by decide)) rfl ?_
 refine st rfl rfl (qj rfl K89 rfl (c89 [(s90 a0.Before 0 720), (s90 a0.After 0 720), (s90 a0.Notice 0 365), (s90 a0.Share 1 100)]) (qh rfl qk)) rfl ?_
 refine st rfl rfl (qc rfl rfl) rfl ?_
 refine qe ?_
 refine qd ?_
 refine qd ?_
 refine qb [.p, .p] ?_
 refine st rfl rfl (qa rfl rfl) rfl ?_
 refine st rfl rfl (zz rfl rfl rfl) rfl ?_
 refine qe ?_
 refine qm _ rfl (fun h1 => ?_) (fun h1 => ?_)
 ·replace h1 : (decide ((s89 [(s90 a0.Before 0 720), (s90 a0.After 0 720), (s90 a0.Notice 0 365), (s90 a0.Share 1 100)]) ≠ 0)) = true := h1
  replace hR := zk hR h1
  refine qd ?_
  refine qb [.p, .p] ?_
  refine st rfl rfl (qa rfl rfl) rfl ?_
  refine st rfl rfl (qc rfl rfl) rfl ?_
  refine qe ?_
  refine qr ?_
  subst hR
  exact zb rfl (rv_g rfl)
 ·replace h1 : (decide ((s89 [(s90 a0.Before 0 720), (s90 a0.After 0 720), (s90 a0.Notice 0 365), (s90 a0.Share 1 100)]) ≠ 0)) = false := h1
  replace hR := zl hR h1
  try simp only [decide_eq_false_iff_not] at h1
  refine qo ?_
  refine qd ?_
  refine qd ?_
  refine qb [.p, .p, .p, .p] ?_
  refine st rfl rfl (qf rfl wy rfl) rfl ?_
  refine st rfl rfl (qi rfl ty22 rfl) rfl ?_
  refine st rfl rfl (q9 (f := cStr) (l := a0.Causes) rfl Tryz.underlying22 rfl) rfl ?_
  refine st rfl rfl (zy rfl rfl rfl) rfl ?_
  refine qe ?_
  refine qm _ rfl (fun h2 => ?_) (fun h2 => ?_)
  ·replace h2 : (decide (16 < (List.length a0.Causes : Int))) = true := h2
   replace hR := zk hR h2
   refine qd ?_
   refine qb [.p] ?_
   refine st rfl rfl (qc rfl rfl) rfl ?_
   refine qe ?_
   refine qr ?_
   subst hR
   exact zb rfl (rv_g rfl)
  ·replace h2 : (decide (16 < (List.length a0.Causes : Int))) = false := h2
   replace hR := zl hR h2
   try simp only [decide_eq_false_iff_not] at h2
   refine qo ?_
   refine qd ?_
   refine qd ?_
   refine qb [.p] ?_
   refine st rfl rfl (qc rfl rfl) rfl ?_
   refine qe ?_
   refine qn ?_
   refine qx (γ := Nat × (List ByteArray)) (fun g => ([(1, .g (G.ref [G.int a0.Before, G.int a0.After, G.int a0.Notice, G.int a0.Share, G.sl 1 (List.map cStr a0.Causes), G.int a0.Off, G.int a0.Run])), (4, .g (G.int ((g.1 : Nat) : Int)))], [])) (fun g => a0.Causes.drop g.1 = g.2 ∧ s24_l1 a0 g.2 g.1 = R) (fun g => List.length g.2) ⟨rfl, (0, a0.Causes), ⟨rfl, rfl, trivial⟩, trivial, rfl, ⟨rfl, hR⟩, trivial⟩ ?_
   ·rintro ⟨k2, t4⟩ ⟨hd, hR⟩
    replace hd : a0.Causes.drop k2 = t4 := hd
    replace hR : s24_l1 a0 t4 k2 = R := hR
    refine qd ?_
    refine qd ?_
    refine qb [.p, .p, .p, .p, .p] ?_
    refine st rfl rfl (qa rfl rfl) rfl ?_
    refine st rfl rfl (qf rfl wy rfl) rfl ?_
    refine st rfl rfl (qi rfl ty22 rfl) rfl ?_
    refine st rfl rfl (q9 (f := cStr) (l := a0.Causes) rfl Tryz.underlying22 rfl) rfl ?_
    refine st rfl rfl (ze rfl rfl rfl) rfl ?_
    refine qe ?_
    refine zc (f := cStr) (l := a0.Causes) 28 rfl fun hlz1 => ?_
    refine qm _ rfl (fun h3 => ?_) (fun h3 => ?_)
    ·replace h3 : (decide (((k2 : Nat) : Int) < (List.length a0.Causes : Int))) = true := h3
     obtain ⟨y3, t4, rfl, hx1, hd⟩ := zh hd (decT h3)
     replace h3 := decT h3
     rw [s24_l1] at hR
     try dsimp only at hR
     refine qo ?_
     refine qd ?_
     refine qn ?_
     refine qd ?_
     refine qd ?_
     refine qb [.p, .p, .p, .p, .p, .p, .p] ?_
     refine st rfl rfl (qf rfl wy rfl) rfl ?_
     refine st rfl rfl (qi rfl ty22 rfl) rfl ?_
     refine st rfl rfl (qa rfl rfl) rfl ?_
     refine st rfl rfl (zi (f := cStr) (l := a0.Causes) (a := y3) rfl Tryz.underlying22 ty9 rfl rfl (Int.natCast_nonneg _) hx1) rfl ?_
     refine st rfl rfl (qi rfl ty9 rfl) rfl ?_
     refine st rfl rfl (qj rfl K91 rfl (c91 y3) (qh rfl qk)) rfl ?_
     refine st rfl rfl (jx rfl rfl) rfl ?_
     refine qe ?_
     refine qm _ rfl (fun h5 => ?_) (fun h5 => ?_)
     ·replace h5 : (!(s91 y3)) = true := h5
      replace hR := zk hR h5
      refine qd ?_
      refine qb [.p] ?_
      refine st rfl rfl (qc rfl rfl) rfl ?_
      refine qe ?_
      refine qr ?_
      subst hR
      exact zb rfl (rv_g rfl)
     ·replace h5 : (!(s91 y3)) = false := h5
      replace hR := zl hR h5
      try simp only [Bool.or_eq_true, Bool.and_eq_true, Bool.or_eq_false_iff, Bool.and_eq_false_iff, Bool.not_eq_true', Bool.not_eq_false', decide_eq_true_eq, decide_eq_false_iff_not] at h5
      refine qo ?_
      refine qd ?_
      refine zw [.p, .p, .p, .p, .p, .p, .p, .p, .p, .p] (by kernel_rfl) ?_
      refine st rfl rfl (qf rfl wy rfl) rfl ?_
      refine st rfl rfl (qi rfl ty22 rfl) rfl ?_
      refine st rfl rfl (qa rfl rfl) rfl ?_
      refine st rfl rfl (qmc (f := cStr) (l := a0.Causes) rfl Tryz.underlying22 ty9 rfl xl (xm rfl (Int.natCast_nonneg _)) (Nat.zero_le _) (qpv hx1)) rfl ?_
      refine st rfl rfl (qf rfl wy rfl) rfl ?_
      refine st rfl rfl (qi rfl ty22 rfl) rfl ?_
      refine st rfl rfl (qa rfl rfl) rfl ?_
      refine st rfl rfl (zi (f := cStr) (l := a0.Causes) (a := y3) rfl Tryz.underlying22 ty9 rfl rfl (Int.natCast_nonneg _) hx1) rfl ?_
      refine st rfl rfl (qi rfl ty9 rfl) rfl ?_
      refine st rfl rfl (qj rfl K92 rfl (c92 (List.take (Int.toNat ((k2 : Nat) : Int)) a0.Causes) y3) (qh rfl (qh rfl qk))) rfl ?_
      refine qe ?_
      refine qm _ rfl (fun h6 => ?_) (fun h6 => ?_)
      ·replace h6 : ((s92 (List.take (Int.toNat ((k2 : Nat) : Int)) a0.Causes) y3)) = true := h6
       replace hR := zk hR h6
       refine qd ?_
       refine qb [.p] ?_
       refine st rfl rfl (qc rfl rfl) rfl ?_
       refine qe ?_
       refine qr ?_
       subst hR
       exact zb rfl (rv_g rfl)
      ·replace h6 : ((s92 (List.take (Int.toNat ((k2 : Nat) : Int)) a0.Causes) y3)) = false := h6
       replace hR := zl hR h6
       try simp only [Bool.or_eq_true, Bool.and_eq_true, Bool.or_eq_false_iff, Bool.and_eq_false_iff, Bool.not_eq_true', Bool.not_eq_false', decide_eq_true_eq, decide_eq_false_iff_not] at h6
       refine qo ?_
       refine qb [.p, .p, .p] ?_
       refine st rfl rfl (qa rfl rfl) rfl ?_
       refine st rfl rfl (zj rfl rfl rfl (by unfold I64; omega)) rfl ?_
       refine st rfl rfl (qc rfl rfl) rfl ?_
       refine qe ?_
       exact ⟨rfl, (k2 + 1, t4), ⟨rfl, rfl, trivial⟩, trivial, rfl, ⟨hd, hR⟩, by simp⟩
    ·replace h3 : (decide (((k2 : Nat) : Int) < (List.length a0.Causes : Int))) = false := h3
     obtain rfl := zm hd (decF h3)
     rw [s24_l1] at hR
     refine zg ?_
     refine qd ?_
     refine zw [.p, .p, .p, .p, .p, .p, .p, .p, .p] (by kernel_rfl) ?_
     refine st rfl rfl (qf rfl qul rfl) rfl ?_
     refine st rfl rfl (qi rfl ty3 rfl) rfl ?_
     refine st rfl rfl (qj rfl K90 rfl (c90 a0.Off 0 720) (qh rfl (qh rfl (qh rfl qk)))) rfl ?_
     refine st rfl rfl (qf rfl qum rfl) rfl ?_
     refine st rfl rfl (qi rfl ty3 rfl) rfl ?_
     refine st rfl rfl (qj rfl K90 rfl (c90 a0.Run 1 512) (qh rfl (qh rfl (qh rfl qk)))) rfl ?_
     refine st rfl rfl (qu rfl Tryz.underlying82 ty3 z3 rfl (qw rfl (qw rfl z4)) rfl (by simp []) (by decide)) rfl ?_
     refine st rfl rfl (qj rfl K89 rfl (c89 [(s90 a0.Off 0 720), (s90 a0.Run 1 512)]) (qh rfl qk)) rfl ?_
     refine st rfl rfl (qc rfl rfl) rfl ?_
     refine qe ?_
     refine qr ?_
     subst hR
     exact zb rfl (rv_g rfl)
def s26_l1  : List S151 → Nat → Int
 | [], k2 => 0
 | y3 :: t4, k2 => (bif decide ((s89 [(s95 y3.Name), (s96 y3.Moment), (s97 y3.Kind)]) ≠ 0) then (s89 [(s95 y3.Name), (s96 y3.Moment), (s97 y3.Kind)]) else s26_l1  t4 (k2 + 1))
def s26 (a0 : List S151) : Int :=
 (bif decide (512 < (List.length a0 : Int)) then 5 else s26_l1 a0 0)
theorem c26 {g : List (Nat × List Value)} (a0 : List S151)    : Con (EG g) 26 [G.sl 3 (List.map S151.c a0)] (G.int (s26 a0)) := by
 generalize hR : s26 a0 = R
 unfold s26 at hR
 refine qp Tryz.func26 rfl rfl fun w0 M0 => ?_
 refine zc (f := S151.c) (l := a0) 0 rfl fun hla0 => ?_
 refine qd ?_
 refine qb [.p] ?_
 refine st rfl rfl (qc rfl rfl) rfl ?_
 refine qe ?_
 refine qd ?_
 refine qd ?_
 refine qb [.p, .p, .p] ?_
 refine st rfl rfl (qa rfl rfl) rfl ?_
 refine st rfl rfl (q9 (f := S151.c) (l := a0) rfl Tryz.underlying32 rfl) rfl ?_
 refine st rfl rfl (zy rfl rfl rfl) rfl ?_
 refine qe ?_
 refine qm _ rfl (fun h1 => ?_) (fun h1 => ?_)
 ·replace h1 : (decide (512 < (List.length a0 : Int))) = true := h1
  replace hR := zk hR h1
  refine qd ?_
  refine qb [.p] ?_
  refine st rfl rfl (qc rfl rfl) rfl ?_
  refine qe ?_
  refine qr ?_
  subst hR
  exact zb rfl (rv_g rfl)
 ·replace h1 : (decide (512 < (List.length a0 : Int))) = false := h1
  replace hR := zl hR h1
  try simp only [decide_eq_false_iff_not] at h1
  refine qo ?_
  refine qd ?_
  refine qd ?_
  refine qb [.p] ?_
  refine st rfl rfl (qc rfl rfl) rfl ?_
  refine qe ?_
  refine qn ?_
  refine qx (γ := Nat × (List S151)) (fun g => ([(0, .g (G.sl 3 (List.map S151.c a0))), (3, .g (G.int ((g.1 : Nat) : Int)))], [])) (fun g => a0.drop g.1 = g.2 ∧ s26_l1  g.2 g.1 = R) (fun g => List.length g.2) ⟨rfl, (0, a0), ⟨rfl, rfl, trivial⟩, trivial, rfl, ⟨rfl, hR⟩, trivial⟩ ?_
  ·rintro ⟨k2, t4⟩ ⟨hd, hR⟩
   replace hd : a0.drop k2 = t4 := hd
   replace hR : s26_l1  t4 k2 = R := hR
   refine qd ?_
   refine qd ?_
   refine qb [.p, .p, .p, .p] ?_
   refine st rfl rfl (qa rfl rfl) rfl ?_
   refine st rfl rfl (qa rfl rfl) rfl ?_
   refine st rfl rfl (q9 (f := S151.c) (l := a0) rfl Tryz.underlying32 rfl) rfl ?_
   refine st rfl rfl (ze rfl rfl rfl) rfl ?_
   refine qe ?_
   refine zc (f := S151.c) (l := a0) 0 rfl fun hlz1 => ?_
   refine qm _ rfl (fun h2 => ?_) (fun h2 => ?_)
   ·replace h2 : (decide (((k2 : Nat) : Int) < (List.length a0 : Int))) = true := h2
    obtain ⟨y3, t4, rfl, hx1, hd⟩ := zh hd (decT h2)
    replace h2 := decT h2
    rw [s26_l1] at hR
    try dsimp only at hR
    refine qo ?_
    refine qd ?_
    refine qn ?_
    refine qd ?_
    refine zw [.p, .p, .p, .p, .p, .p, .p, .p, .p, .p, .p, .p, .p, .p, .p, .p, .p, .p, .p, .p, .p] (by kernel_rfl) ?_
    refine st rfl rfl (qa rfl rfl) rfl ?_
    refine st rfl rfl (qa rfl rfl) rfl ?_
    refine st rfl rfl (zi (f := S151.c) (l := a0) (a := y3) rfl Tryz.underlying32 km rfl rfl (Int.natCast_nonneg _) hx1) rfl ?_
    refine st rfl rfl (qf rfl xh rfl) rfl ?_
    refine st rfl rfl (qi rfl ty9 rfl) rfl ?_
    refine st rfl rfl (qj rfl K95 rfl (c95 y3.Name) (qh rfl qk)) rfl ?_
    refine st rfl rfl (qa rfl rfl) rfl ?_
    refine st rfl rfl (qa rfl rfl) rfl ?_
    refine st rfl rfl (zi (f := S151.c) (l := a0) (a := y3) rfl Tryz.underlying32 km rfl rfl (Int.natCast_nonneg _) hx1) rfl ?_
    refine st rfl rfl (qf rfl vd rfl) rfl ?_
    refine st rfl rfl (qi rfl ty3 rfl) rfl ?_
    refine st rfl rfl (qj rfl K96 rfl (c96 y3.Moment) (qh rfl qk)) rfl ?_
    refine st rfl rfl (qa rfl rfl) rfl ?_
    refine st rfl rfl (qa rfl rfl) rfl ?_
    refine st rfl rfl (zi (f := S151.c) (l := a0) (a := y3) rfl Tryz.underlying32 km rfl rfl (Int.natCast_nonneg _) hx1) rfl ?_
    refine st rfl rfl (qf rfl qbm rfl) rfl ?_
    refine st rfl rfl (qi rfl ty9 rfl) rfl ?_
    refine st rfl rfl (qj rfl K97 rfl (c97 y3.Kind) (qh rfl qk)) rfl ?_
    refine st rfl rfl (qu rfl Tryz.underlying82 ty3 z3 rfl (qw rfl (qw rfl (qw rfl z4))) rfl (by simp []) (by decide)) rfl ?_
    refine st rfl rfl (qj rfl K89 rfl (c89 [(s95 y3.Name), (s96 y3.Moment), (s97 y3.Kind)]) (qh rfl qk)) rfl ?_
    refine st rfl rfl (qc rfl rfl) rfl ?_
    refine qe ?_
    refine qd ?_
    refine qb [.p, .p] ?_
    refine st rfl rfl (qa rfl rfl) rfl ?_
    refine st rfl rfl (zz rfl rfl rfl) rfl ?_
    refine qe ?_
    refine qm _ rfl (fun h4 => ?_) (fun h4 => ?_)
    ·replace h4 : (decide ((s89 [(s95 y3.Name), (s96 y3.Moment), (s97 y3.Kind)]) ≠ 0)) = true := h4
     replace hR := zk hR h4
     refine qd ?_
     refine qb [.p, .p] ?_
     refine st rfl rfl (qa rfl rfl) rfl ?_
     refine st rfl rfl (qc rfl rfl) rfl ?_
     refine qe ?_
     refine qr ?_
     subst hR
     exact zb rfl (rv_g rfl)
    ·replace h4 : (decide ((s89 [(s95 y3.Name), (s96 y3.Moment), (s97 y3.Kind)]) ≠ 0)) = false := h4
     replace hR := zl hR h4
     try simp only [decide_eq_false_iff_not] at h4
     refine qo ?_
     refine qb [.p, .p, .p] ?_
     refine st rfl rfl (qa rfl rfl) rfl ?_
     refine st rfl rfl (zj rfl rfl rfl (by unfold I64; omega)) rfl ?_
     refine st rfl rfl (qc rfl rfl) rfl ?_
     refine qe ?_
     exact ⟨rfl, (k2 + 1, t4), ⟨rfl, rfl, trivial⟩, trivial, rfl, ⟨hd, hR⟩, by simp⟩
   ·replace h2 : (decide (((k2 : Nat) : Int) < (List.length a0 : Int))) = false := h2
    obtain rfl := zm hd (decF h2)
    rw [s26_l1] at hR
    refine zg ?_
    refine qd ?_
    refine qb [.p] ?_
    refine st rfl rfl (qc rfl rfl) rfl ?_
    refine qe ?_
    refine qr ?_
    subst hR
    exact zb rfl (rv_g rfl)
def s87 (a0 : ByteArray) : Int :=
 (s86 (!(s147 a0)) 8)
theorem c87 {g : List (Nat × List Value)} (a0 : ByteArray)    : Con (EG g) 87 [G.str a0] (G.int (s87 a0)) := by
 generalize hR : s87 a0 = R
 unfold s87 at hR
 refine qp Tryz.func87 rfl rfl fun w0 M0 => ?_
 refine qd ?_
 refine qb [.p] ?_
 refine st rfl rfl (qc rfl rfl) rfl ?_
 refine qe ?_
 refine qd ?_
 refine qb [.p, .p, .p, .p, .p] ?_
 refine st rfl rfl (qa rfl rfl) rfl ?_
 refine st rfl rfl (qj rfl K147 rfl (c147 a0) (qh rfl qk)) rfl ?_
 refine st rfl rfl (jx rfl rfl) rfl ?_
 refine st rfl rfl (qj rfl K86 rfl (c86 (!(s147 a0)) 8) (qh rfl (qh rfl qk))) rfl ?_
 refine st rfl rfl (qc rfl rfl) rfl ?_
 refine qe ?_
 refine qr ?_
 subst hR
 exact zb rfl (rv_g rfl)
def s94 (a0 : S151) : Int :=
 (s84 [(s87 a0.Name), (s85 a0.Moment 0 143999999), (s101 a0.Kind)])
theorem c94 {g : List (Nat × List Value)} (a0 : S151)    : Con (EG g) 94 [G.agg [G.str a0.Name, G.int a0.Moment, G.str a0.Kind]] (G.int (s94 a0)) := by
 generalize hR : s94 a0 = R
 unfold s94 at hR
 refine qp Tryz.func94 rfl rfl fun w0 M0 => ?_
 refine qd ?_
 refine qb [.p, .p] ?_
 refine st rfl rfl (zd rfl rfl) rfl ?_
 refine st rfl rfl (qc rfl rfl) rfl ?_
 refine qe ?_
 refine qd ?_
 refine zw [.p, .p, .p, .p, .p, .p, .p, .p, .p, .p, .p, .p] (by kernel_rfl) ?_
 refine st rfl rfl (qf rfl w4 rfl) rfl ?_
 refine st rfl rfl (qi rfl ty9 rfl) rfl ?_
 refine st rfl rfl (qj rfl K87 rfl (c87 a0.Name) (qh rfl qk)) rfl ?_
 refine st rfl rfl (qf rfl vw rfl) rfl ?_
 refine st rfl rfl (qi rfl ty3 rfl) rfl ?_
 refine st rfl rfl (qj rfl K85 rfl (c85 a0.Moment 0 143999999) (qh rfl (qh rfl (qh rfl qk)))) rfl ?_
 refine st rfl rfl (qf rfl qe8 rfl) rfl ?_
 refine st rfl rfl (qi rfl ty9 rfl) rfl ?_
 refine st rfl rfl (qj rfl K101 rfl (c101 a0.Kind) (qh rfl qk)) rfl ?_
 refine st rfl rfl (qu rfl Tryz.underlying170 ty37 z37 rfl (qw rfl (qw rfl (qw rfl z4))) rfl (by simp []) (by decide)) rfl ?_
 refine st rfl rfl (qj rfl K84 rfl (c84 [(s87 a0.Name), (s85 a0.Moment 0 143999999), (s101 a0.Kind)]) (qh rfl qk)) rfl ?_
 refine st rfl rfl (qc rfl rfl) rfl ?_
 refine qe ?_
 refine qr ?_
 subst hR
 exact zb rfl (rv_g rfl)
def s25 (a0 : List S151) : Int :=
 (bif decide (512 < (List.length a0 : Int)) then 5 else (s84 (s93 a0 s94)))
theorem c25 {g : List (Nat × List Value)} (a0 : List S151)    : Con (EG g) 25 [G.sl 3 (List.map S151.c a0)] (G.int (s25 a0)) := by
 generalize hR : s25 a0 = R
 unfold s25 at hR
 refine qp Tryz.func25 rfl rfl fun w0 M0 => ?_
 refine zc (f := S151.c) (l := a0) 0 rfl fun hla0 => ?_
 refine qd ?_
 refine qb [.p] ?_
 refine st rfl rfl (qc rfl rfl) rfl ?_
 refine qe ?_
 refine qd ?_
 refine qd ?_
 refine qb [.p, .p, .p] ?_
 refine st rfl rfl (qa rfl rfl) rfl ?_
 refine st rfl rfl (q9 (f := S151.c) (l := a0) rfl Tryz.underlying25 rfl) rfl ?_
 refine st rfl rfl (zy rfl rfl rfl) rfl ?_
 refine qe ?_
 refine qm _ rfl (fun h1 => ?_) (fun h1 => ?_)
 ·replace h1 : (decide (512 < (List.length a0 : Int))) = true := h1
  replace hR := zk hR h1
  refine qd ?_
  refine qb [.p] ?_
  refine st rfl rfl (qc rfl rfl) rfl ?_
  refine qe ?_
  refine qr ?_
  subst hR
  exact zb rfl (rv_g rfl)
 ·replace h1 : (decide (512 < (List.length a0 : Int))) = false := h1
  replace hR := zl hR h1
  try simp only [decide_eq_false_iff_not] at h1
  refine qo ?_
  refine qd ?_
  refine qb [.p, .p, .p, .p] ?_
  refine st rfl rfl (qa rfl rfl) rfl ?_
  refine st rfl rfl (qj rfl K93 rfl (c93 a0 s94 qaa K94 (fun x0 => c94 x0) (by first | assumption | omega | (simp [qv]; omega))) (qh rfl (qh rfl qk))) rfl ?_
  refine st rfl rfl (qj rfl K84 rfl (c84 (s93 a0 s94)) (qh rfl qk)) rfl ?_
  refine st rfl rfl (qc rfl rfl) rfl ?_
  refine qe ?_
  refine qr ?_
  subst hR
  exact zb rfl (rv_g rfl)
def s23_l1 (a0 : S23) : List ByteArray → Nat → Int
 | [], k2 => (s84 [(s85 a0.Off 0 720), (s85 a0.Run 1 512)])
 | y3 :: t4, k2 => (bif decide ((s84 [(s87 y3), (s86 (s88 (List.take (Int.toNat ((k2 : Nat) : Int)) a0.Causes) y3) 9)]) ≠ 0) then (s84 [(s87 y3), (s86 (s88 (List.take (Int.toNat ((k2 : Nat) : Int)) a0.Causes) y3) 9)]) else s23_l1 a0 t4 (k2 + 1))
def s23 (a0 : S23) : Int :=
 (bif decide ((s84 [(s85 a0.Before 0 720), (s85 a0.After 0 720), (s85 a0.Notice 0 365), (s85 a0.Share 1 100), (s86 (decide (16 < (List.length a0.Causes : Int))) 5)]) ≠ 0) then (s84 [(s85 a0.Before 0 720), (s85 a0.After 0 720), (s85 a0.Notice 0 365), (s85 a0.Share 1 100), (s86 (decide (16 < (List.length a0.Causes : Int))) 5)]) else s23_l1 a0 a0.Causes 0)
theorem c23 {g : List (Nat × List Value)} (a0 : S23)    : Con (EG g) 23 [G.agg [G.int a0.Before, G.int a0.After, G.int a0.Notice, G.int a0.Share, G.sl 1 (List.map cStr a0.Causes), G.int a0.Off, G.int a0.Run]] (G.int (s23 a0)) := by
 generalize hR : s23 a0 = R
 unfold s23 at hR
 refine qp Tryz.func23 rfl rfl fun w0 M0 => ?_
 refine qd ?_
 refine qb [.p, .p] ?_
 refine st rfl rfl (zd rfl rfl) rfl ?_
 refine st rfl rfl (qc rfl rfl) rfl ?_
 refine qe ?_
 refine qd ?_
 refine qd ?_
 refine zw [.p, .p, .p, .p, .p, .p, .p, .p, .p, .p, .p, .p, .p, .p, .p, .p, .p, .p, .p, .p] (by kernel_rfl) ?_
 refine st rfl rfl (qf rfl qp8 rfl) rfl ?_
 refine st rfl rfl (qi rfl ty3 rfl) rfl ?_
 refine st rfl rfl (qj rfl K85 rfl (c85 a0.Before 0 720) (qh rfl (qh rfl (qh rfl qk)))) rfl ?_
 refine st rfl rfl (qf rfl qp9 rfl) rfl ?_
 refine st rfl rfl (qi rfl ty3 rfl) rfl ?_
 refine st rfl rfl (qj rfl K85 rfl (c85 a0.After 0 720) (qh rfl (qh rfl (qh rfl qk)))) rfl ?_
 refine st rfl rfl (qf rfl qqf rfl) rfl ?_
 refine st rfl rfl (qi rfl ty3 rfl) rfl ?_
 refine st rfl rfl (qj rfl K85 rfl (c85 a0.Notice 0 365) (qh rfl (qh rfl (qh rfl qk)))) rfl ?_
 refine st rfl rfl (qf rfl qnf rfl) rfl ?_
 refine st rfl rfl (qi rfl ty3 rfl) rfl ?_
 refine st rfl rfl (qj rfl K85 rfl (c85 a0.Share 1 100) (qh rfl (qh rfl (qh rfl qk)))) rfl ?_
 refine st rfl rfl (qf rfl qj8 rfl) rfl ?_
 refine st rfl rfl (qi rfl ty22 rfl) rfl ?_
 refine st rfl rfl (q9 (f := cStr) (l := a0.Causes) rfl Tryz.underlying22 rfl) rfl ?_
 refine st rfl rfl (zy rfl rfl rfl) rfl ?_
 refine st rfl rfl (qj rfl K86 rfl (c86 (decide (16 < (List.length a0.Causes : Int))) 5) (qh rfl (qh rfl qk))) rfl ?_
 refine st rfl rfl (qu rfl Tryz.underlying170 ty37 z37 rfl (qw rfl (qw rfl (qw rfl (qw rfl (qw rfl z4))))) rfl (by simp []) (by decide)) rfl ?_
 refine st rfl rfl (qj rfl K84 rfl (c84 [(s85 a0.Before 0 720), (s85 a0.After 0 720), (s85 a0.Notice 0 365), (s85 a0.Share 1 100), (s86 (decide (16 < (List.length a0.Causes : Int))) 5)]) (qh rfl qk)) rfl ?_
 refine st rfl rfl (qc rfl rfl) rfl ?_
 refine qe ?_
 refine qd ?_
 refine qb [.p, .p] ?_
 refine st rfl rfl (qa rfl rfl) rfl ?_
 refine st rfl rfl (zz rfl rfl rfl) rfl ?_
 refine qe ?_
 refine qm _ rfl (fun h1 => ?_) (fun h1 => ?_)
 ·replace h1 : (decide ((s84 [(s85 a0.Before 0 720), (s85 a0.After 0 720), (s85 a0.Notice 0 365), (s85 a0.Share 1 100), (s86 (decide (16 < (List.length a0.Causes : Int))) 5)]) ≠ 0)) = true := h1
  replace hR := zk hR h1
  refine qd ?_
  refine qb [.p, .p] ?_
  refine st rfl rfl (qa rfl rfl) rfl ?_
  refine st rfl rfl (qc rfl rfl) rfl ?_
  refine qe ?_
  refine qr ?_
  subst hR
  exact zb rfl (rv_g rfl)
 ·replace h1 : (decide ((s84 [(s85 a0.Before 0 720), (s85 a0.After 0 720), (s85 a0.Notice 0 365), (s85 a0.Share 1 100), (s86 (decide (16 < (List.length a0.Causes : Int))) 5)]) ≠ 0)) = false := h1
  replace hR := zl hR h1
  try simp only [decide_eq_false_iff_not] at h1
  refine qo ?_
  refine qd ?_
  refine qd ?_
  refine qb [.p, .p, .p, .p] ?_
  refine st rfl rfl (qf rfl qj8 rfl) rfl ?_
  refine st rfl rfl (qi rfl ty22 rfl) rfl ?_
  refine st rfl rfl (q9 (f := cStr) (l := a0.Causes) rfl Tryz.underlying22 rfl) rfl ?_
  refine st rfl rfl (qa rfl rfl) rfl ?_
  refine qe ?_
  refine qn ?_
  refine qx (γ := Nat × (List ByteArray)) (fun g => ([(1, .g (G.ref [G.int a0.Before, G.int a0.After, G.int a0.Notice, G.int a0.Share, G.sl 1 (List.map cStr a0.Causes), G.int a0.Off, G.int a0.Run])), (30, .g (G.sl 1 (List.map cStr a0.Causes))), (31, .g (G.int (List.length a0.Causes : Int))), (32, .g (G.int ((g.1 : Nat) : Int)))], [])) (fun g => a0.Causes.drop g.1 = g.2 ∧ s23_l1 a0 g.2 g.1 = R) (fun g => List.length g.2) ⟨rfl, (0, a0.Causes), ⟨rfl, rfl, rfl, rfl, trivial⟩, trivial, rfl, ⟨rfl, hR⟩, trivial⟩ ?_
  ·rintro ⟨k2, t4⟩ ⟨hd, hR⟩
   replace hd : a0.Causes.drop k2 = t4 := hd
   replace hR : s23_l1 a0 t4 k2 = R := hR
   refine qd ?_
   refine qb [.p] ?_
   refine st rfl rfl (ze rfl rfl rfl) rfl ?_
   refine qe ?_
   refine zc (f := cStr) (l := a0.Causes) 30 rfl fun hlz1 => ?_
   refine qd ?_
   refine qm _ rfl (fun h2 => ?_) (fun h2 => ?_)
   ·replace h2 : (decide (((k2 : Nat) : Int) < (List.length a0.Causes : Int))) = true := h2
    obtain ⟨y3, t4, rfl, hx1, hd⟩ := zh hd (decT h2)
    replace h2 := decT h2
    rw [s23_l1] at hR
    try dsimp only at hR
    refine qo ?_
    refine qd ?_
    refine qn ?_
    refine qd ?_
    refine qb [.p, .p, .p, .p, .p] ?_
    refine st rfl rfl (qa rfl rfl) rfl ?_
    refine st rfl rfl (zi (f := cStr) (l := a0.Causes) (a := y3) rfl Tryz.underlying22 ty9 rfl rfl (Int.natCast_nonneg _) hx1) rfl ?_
    refine st rfl rfl (qi rfl ty9 rfl) rfl ?_
    refine st rfl rfl (qc rfl rfl) rfl ?_
    refine st rfl rfl (qc rfl rfl) rfl ?_
    refine qe ?_
    refine qd ?_
    refine zw [.p, .p, .p, .p, .p, .p, .p, .p, .p, .p, .p, .p] (by kernel_rfl) ?_
    refine st rfl rfl (qa rfl rfl) rfl ?_
    refine st rfl rfl (qj rfl K87 rfl (c87 y3) (qh rfl qk)) rfl ?_
    refine st rfl rfl (qf rfl qj8 rfl) rfl ?_
    refine st rfl rfl (qi rfl ty22 rfl) rfl ?_
    refine st rfl rfl (qa rfl rfl) rfl ?_
    refine st rfl rfl (qmc (f := cStr) (l := a0.Causes) rfl Tryz.underlying22 ty9 rfl xl (xm rfl (Int.natCast_nonneg _)) (Nat.zero_le _) (qpv hx1)) rfl ?_
    refine st rfl rfl (qa rfl rfl) rfl ?_
    refine st rfl rfl (qj rfl K88 rfl (c88 (List.take (Int.toNat ((k2 : Nat) : Int)) a0.Causes) y3) (qh rfl (qh rfl qk))) rfl ?_
    refine st rfl rfl (qj rfl K86 rfl (c86 (s88 (List.take (Int.toNat ((k2 : Nat) : Int)) a0.Causes) y3) 9) (qh rfl (qh rfl qk))) rfl ?_
    refine st rfl rfl (qu rfl Tryz.underlying170 ty37 z37 rfl (qw rfl (qw rfl z4)) rfl (by simp []) (by decide)) rfl ?_
    refine st rfl rfl (qj rfl K84 rfl (c84 [(s87 y3), (s86 (s88 (List.take (Int.toNat ((k2 : Nat) : Int)) a0.Causes) y3) 9)]) (qh rfl qk)) rfl ?_
    refine st rfl rfl (qc rfl rfl) rfl ?_
    refine qe ?_
    refine qd ?_
    refine qb [.p, .p] ?_
    refine st rfl rfl (qa rfl rfl) rfl ?_
    refine st rfl rfl (zz rfl rfl rfl) rfl ?_
    refine qe ?_
    refine qm _ rfl (fun h4 => ?_) (fun h4 => ?_)
    ·replace h4 : (decide ((s84 [(s87 y3), (s86 (s88 (List.take (Int.toNat ((k2 : Nat) : Int)) a0.Causes) y3) 9)]) ≠ 0)) = true := h4
     replace hR := zk hR h4
     refine qd ?_
     refine qb [.p, .p] ?_
     refine st rfl rfl (qa rfl rfl) rfl ?_
     refine st rfl rfl (qc rfl rfl) rfl ?_
     refine qe ?_
     refine qr ?_
     subst hR
     exact zb rfl (rv_g rfl)
    ·replace h4 : (decide ((s84 [(s87 y3), (s86 (s88 (List.take (Int.toNat ((k2 : Nat) : Int)) a0.Causes) y3) 9)]) ≠ 0)) = false := h4
     replace hR := zl hR h4
     try simp only [decide_eq_false_iff_not] at h4
     refine qo ?_
     refine qb [.p, .p] ?_
     refine st rfl rfl (zj rfl rfl rfl (by unfold I64; omega)) rfl ?_
     refine st rfl rfl (qa rfl rfl) rfl ?_
     refine qe ?_
     exact ⟨rfl, (k2 + 1, t4), ⟨rfl, rfl, rfl, rfl, trivial⟩, trivial, rfl, ⟨hd, hR⟩, by simp⟩
   ·replace h2 : (decide (((k2 : Nat) : Int) < (List.length a0.Causes : Int))) = false := h2
    obtain rfl := zm hd (decF h2)
    rw [s23_l1] at hR
    refine zg ?_
    refine qd ?_
    refine zw [.p, .p, .p, .p, .p, .p, .p, .p, .p] (by kernel_rfl) ?_
    refine st rfl rfl (qf rfl quj rfl) rfl ?_
    refine st rfl rfl (qi rfl ty3 rfl) rfl ?_
    refine st rfl rfl (qj rfl K85 rfl (c85 a0.Off 0 720) (qh rfl (qh rfl (qh rfl qk)))) rfl ?_
    refine st rfl rfl (qf rfl quk rfl) rfl ?_
    refine st rfl rfl (qi rfl ty3 rfl) rfl ?_
    refine st rfl rfl (qj rfl K85 rfl (c85 a0.Run 1 512) (qh rfl (qh rfl (qh rfl qk)))) rfl ?_
    refine st rfl rfl (qu rfl Tryz.underlying170 ty37 z37 rfl (qw rfl (qw rfl z4)) rfl (by simp []) (by decide)) rfl ?_
    refine st rfl rfl (qj rfl K84 rfl (c84 [(s85 a0.Off 0 720), (s85 a0.Run 1 512)]) (qh rfl qk)) rfl ?_
    refine st rfl rfl (qc rfl rfl) rfl ?_
    refine qe ?_
    refine qr ?_
    subst hR
    exact zb rfl (rv_g rfl)
def s188 (a0 : Int) : Int :=
 Int.tmod (IntKind.i64.wrap (a0 + 5)) 7
theorem c188 {g : List (Nat × List Value)} (a0 : Int)    : Con (EG g) 188 [G.int a0] (G.int (s188 a0)) := by
 generalize hR : s188 a0 = R
 unfold s188 at hR
 refine qp Tryz.func188 rfl rfl fun w0 M0 => ?_
 refine qd ?_
 refine qb [.p] ?_
 refine st rfl rfl (qc rfl rfl) rfl ?_
 refine qe ?_
 refine qd ?_
 refine qb [.p, .p, .p, .p] ?_
 refine st rfl rfl (qa rfl rfl) rfl ?_
 refine st rfl rfl (j6 rfl rfl rfl) rfl ?_
 refine st rfl rfl (qem rfl rfl rfl (by decide)) rfl ?_
 refine st rfl rfl (qc rfl rfl) rfl ?_
 refine qe ?_
 refine qr ?_
 subst hR
 exact zb rfl (rv_g rfl)
def s153 (a0 : Int) : Int :=
 (s155 a0 0 99999)
theorem c153 {g : List (Nat × List Value)} (a0 : Int)    : Con (EG g) 153 [G.int a0] (G.int (s153 a0)) := by
 generalize hR : s153 a0 = R
 unfold s153 at hR
 refine qp Tryz.func153 rfl rfl fun w0 M0 => ?_
 refine qd ?_
 refine qb [.p] ?_
 refine st rfl rfl (qc rfl rfl) rfl ?_
 refine qe ?_
 refine qd ?_
 refine qb [.p, .p, .p] ?_
 refine st rfl rfl (qa rfl rfl) rfl ?_
 refine st rfl rfl (qj rfl K155 rfl (c155 a0 0 99999) (qh rfl (qh rfl (qh rfl qk)))) rfl ?_
 refine st rfl rfl (qc rfl rfl) rfl ?_
 refine qe ?_
 refine qr ?_
 subst hR
 exact zb rfl (rv_g rfl)
def s102 (a0 : S45) : Int :=
 (bif decide ((s152 [(s153 a0.fFrom), (s153 a0.fTo)]) ≠ 0) then (s152 [(s153 a0.fFrom), (s153 a0.fTo)]) else (s152 [(s154 (decide (a0.fTo < a0.fFrom)) 11), (s154 (decide (400 < IntKind.i64.wrap (a0.fTo - a0.fFrom))) 4), (s155 a0.Days 1 127)]))
theorem c102 {g : List (Nat × List Value)} (a0 : S45)    : Con (EG g) 102 [G.agg [G.int a0.fFrom, G.int a0.fTo, G.int a0.Days]] (G.int (s102 a0)) := by
 generalize hR : s102 a0 = R
 unfold s102 at hR
 refine qp Tryz.func102 rfl rfl fun w0 M0 => ?_
 refine qd ?_
 refine qb [.p, .p] ?_
 refine st rfl rfl (zd rfl rfl) rfl ?_
 refine st rfl rfl (qc rfl rfl) rfl ?_
 refine qe ?_
 refine qd ?_
 refine qd ?_
 refine zw [.p, .p, .p, .p, .p, .p, .p, .p, .p] (by kernel_rfl) ?_
 refine st rfl rfl (qf rfl qbz rfl) rfl ?_
 refine st rfl rfl (qi rfl ty3 rfl) rfl ?_
 refine st rfl rfl (qj rfl K153 rfl (c153 a0.fFrom) (qh rfl qk)) rfl ?_
 refine st rfl rfl (qf rfl qb0 rfl) rfl ?_
 refine st rfl rfl (qi rfl ty3 rfl) rfl ?_
 refine st rfl rfl (qj rfl K153 rfl (c153 a0.fTo) (qh rfl qk)) rfl ?_
 refine st rfl rfl (qu rfl Tryz.underlying170 ty37 z37 rfl (qw rfl (qw rfl z4)) rfl (by simp []) (by decide)) rfl ?_
 refine st rfl rfl (qj rfl K152 rfl (c152 [(s153 a0.fFrom), (s153 a0.fTo)]) (qh rfl qk)) rfl ?_
 refine st rfl rfl (qc rfl rfl) rfl ?_
 refine qe ?_
 refine qd ?_
 refine qb [.p, .p] ?_
 refine st rfl rfl (qa rfl rfl) rfl ?_
 refine st rfl rfl (zz rfl rfl rfl) rfl ?_
 refine qe ?_
 refine qm _ rfl (fun h1 => ?_) (fun h1 => ?_)
 ·replace h1 : (decide ((s152 [(s153 a0.fFrom), (s153 a0.fTo)]) ≠ 0)) = true := h1
  replace hR := zk hR h1
  refine qd ?_
  refine qb [.p, .p] ?_
  refine st rfl rfl (qa rfl rfl) rfl ?_
  refine st rfl rfl (qc rfl rfl) rfl ?_
  refine qe ?_
  refine qr ?_
  subst hR
  exact zb rfl (rv_g rfl)
 ·replace h1 : (decide ((s152 [(s153 a0.fFrom), (s153 a0.fTo)]) ≠ 0)) = false := h1
  replace hR := zl hR h1
  try simp only [decide_eq_false_iff_not] at h1
  refine qo ?_
  refine qd ?_
  refine zw [.p, .p, .p, .p, .p, .p, .p, .p, .p, .p, .p, .p, .p, .p, .p, .p, .p, .p, .p] (by kernel_rfl) ?_
  refine st rfl rfl (qf rfl qb0 rfl) rfl ?_
  refine st rfl rfl (qi rfl ty3 rfl) rfl ?_
  refine st rfl rfl (qf rfl qbz rfl) rfl ?_
  refine st rfl rfl (qi rfl ty3 rfl) rfl ?_
  refine st rfl rfl (ze rfl rfl rfl) rfl ?_
  refine st rfl rfl (qj rfl K154 rfl (c154 (decide (a0.fTo < a0.fFrom)) 11) (qh rfl (qh rfl qk))) rfl ?_
  refine st rfl rfl (qf rfl qb0 rfl) rfl ?_
  refine st rfl rfl (qi rfl ty3 rfl) rfl ?_
  refine st rfl rfl (qf rfl qbz rfl) rfl ?_
  refine st rfl rfl (qi rfl ty3 rfl) rfl ?_
  refine st rfl rfl (qaw rfl rfl rfl) rfl ?_
  refine st rfl rfl (zy rfl rfl rfl) rfl ?_
  refine st rfl rfl (qj rfl K154 rfl (c154 (decide (400 < IntKind.i64.wrap (a0.fTo - a0.fFrom))) 4) (qh rfl (qh rfl qk))) rfl ?_
  refine st rfl rfl (qf rfl qnn rfl) rfl ?_
  refine st rfl rfl (qi rfl ty3 rfl) rfl ?_
  refine st rfl rfl (qj rfl K155 rfl (c155 a0.Days 1 127) (qh rfl (qh rfl (qh rfl qk)))) rfl ?_
  refine st rfl rfl (qu rfl Tryz.underlying170 ty37 z37 rfl (qw rfl (qw rfl (qw rfl z4))) rfl (by simp []) (by decide)) rfl ?_
  refine st rfl rfl (qj rfl K152 rfl (c152 [(s154 (decide (a0.fTo < a0.fFrom)) 11), (s154 (decide (400 < IntKind.i64.wrap (a0.fTo - a0.fFrom))) 4), (s155 a0.Days 1 127)]) (qh rfl qk)) rfl ?_
  refine st rfl rfl (qc rfl rfl) rfl ?_
  refine qe ?_
  refine qr ?_
  subst hR
  exact zb rfl (rv_g rfl)
end Go.Sim
