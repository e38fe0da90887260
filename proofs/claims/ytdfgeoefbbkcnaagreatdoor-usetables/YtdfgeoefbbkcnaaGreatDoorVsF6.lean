/-
  What is proved: the walk of the states: the program.
-/
import Derived.Test.YtdfgeoefbbkcnaaGreatDoorVsF2
import Derived.Test.YtdfgeoefbbkcnaaGreatDoorVaA6
import Derived.Test.YtdfgeoefbbkcnaaGreatDoorVaA9
import Derived.Test.YtdfgeoefbbkcnaaGreatDoorVaA4
import Derived.Test.YtdfgeoefbbkcnaaGreatDoorVsF1
set_option linter.unusedSectionVars false
set_option linter.unusedSimpArgs false
set_option linter.unusedVariables false
set_option linter.unnecessarySimpa false
set_option linter.deprecated false
set_option linter.unusedSimpArgs false
set_option linter.unusedVariables false
set_option maxRecDepth 10000
namespace Go.Sim
open Go.Proofs
def s183 (a0 : ByteArray) : Bool :=
 !decide (a0 = a0)
theorem c183 {g : List (Nat × List Value)} (a0 : ByteArray)    : Con (EG g) 183 [G.str a0] (G.bool (s183 a0)) := by
 generalize hR : s183 a0 = R
 unfold s183 at hR
 refine qp Tryz.func183 rfl rfl fun w0 M0 => ?_
 refine qd ?_
 refine qb [.p] ?_
 refine st rfl rfl (qc rfl rfl) rfl ?_
 refine qe ?_
 refine qd ?_
 refine qb [.p, .p, .p, .p] ?_
 refine st rfl rfl (qa rfl rfl) rfl ?_
 refine st rfl rfl (qa rfl rfl) rfl ?_
 refine st rfl rfl (kw rfl rfl rfl) rfl ?_
 refine st rfl rfl (qc rfl rfl) rfl ?_
 refine qe ?_
 refine qr ?_
 subst hR
 exact zb rfl (rv_g rfl)
def s133 (a0 : ByteArray) (a1 : ByteArray) : Int :=
 (bif (s183 a0) then (bif (s183 a1) then 0 else (-1)) else (bif (s183 a1) then 1 else (bif strLt a0 a1 then (-1) else (bif !(strLt a0 a1 || decide (a0 = a1)) then 1 else 0))))
theorem c133 {g : List (Nat × List Value)} (a0 : ByteArray) (a1 : ByteArray)    : Con (EG g) 133 [G.str a0, G.str a1] (G.int (s133 a0 a1)) := by
 generalize hR : s133 a0 a1 = R
 unfold s133 at hR
 refine qp Tryz.func133 rfl rfl fun w0 M0 => ?_
 refine qd ?_
 refine qb [.p] ?_
 refine st rfl rfl (qc rfl rfl) rfl ?_
 refine qe ?_
 refine qd ?_
 refine qb [.p, .p, .p] ?_
 refine st rfl rfl (qa rfl rfl) rfl ?_
 refine st rfl rfl (qj rfl K183 rfl (c183 a0) (qh rfl qk)) rfl ?_
 refine st rfl rfl (qc rfl rfl) rfl ?_
 refine qe ?_
 refine qd ?_
 refine qb [.p, .p, .p] ?_
 refine st rfl rfl (qa rfl rfl) rfl ?_
 refine st rfl rfl (qj rfl K183 rfl (c183 a1) (qh rfl qk)) rfl ?_
 refine st rfl rfl (qc rfl rfl) rfl ?_
 refine qe ?_
 refine qd ?_
 refine qd ?_
 refine qb [.p] ?_
 refine st rfl rfl (qa rfl rfl) rfl ?_
 refine qe ?_
 refine qm _ rfl (fun h1 => ?_) (fun h1 => ?_)
 ·replace h1 : ((s183 a0)) = true := h1
  replace hR := zk hR h1
  refine qd ?_
  refine qd ?_
  refine qb [.p] ?_
  refine st rfl rfl (qa rfl rfl) rfl ?_
  refine qe ?_
  refine qm _ rfl (fun h2 => ?_) (fun h2 => ?_)
  ·replace h2 : ((s183 a1)) = true := h2
   replace hR := zk hR h2
   refine qd ?_
   refine qb [.p] ?_
   refine st rfl rfl (qc rfl rfl) rfl ?_
   refine qe ?_
   refine qr ?_
   subst hR
   exact zb rfl (rv_g rfl)
  ·replace h2 : ((s183 a1)) = false := h2
   replace hR := zl hR h2
   refine qo ?_
   refine qd ?_
   refine qb [.p] ?_
   refine st rfl rfl (qc rfl rfl) rfl ?_
   refine qe ?_
   refine qr ?_
   subst hR
   exact zb rfl (rv_g rfl)
 ·replace h1 : ((s183 a0)) = false := h1
  replace hR := zl hR h1
  refine qo ?_
  refine qd ?_
  refine qd ?_
  refine qb [.p] ?_
  refine st rfl rfl (qa rfl rfl) rfl ?_
  refine qe ?_
  refine qm _ rfl (fun h3 => ?_) (fun h3 => ?_)
  ·replace h3 : ((s183 a1)) = true := h3
   replace hR := zk hR h3
   refine qd ?_
   refine qb [.p] ?_
   refine st rfl rfl (qc rfl rfl) rfl ?_
   refine qe ?_
   refine qr ?_
   subst hR
   exact zb rfl (rv_g rfl)
  ·replace h3 : ((s183 a1)) = false := h3
   replace hR := zl hR h3
   refine qo ?_
   refine qd ?_
   refine qd ?_
   refine qb [.p, .p, .p] ?_
   refine st rfl rfl (qa rfl rfl) rfl ?_
   refine st rfl rfl (qa rfl rfl) rfl ?_
   refine st rfl rfl (qh2 rfl rfl rfl) rfl ?_
   refine qe ?_
   refine qm _ rfl (fun h4 => ?_) (fun h4 => ?_)
   ·replace h4 : (strLt a0 a1) = true := h4
    replace hR := zk hR h4
    refine qd ?_
    refine qb [.p] ?_
    refine st rfl rfl (qc rfl rfl) rfl ?_
    refine qe ?_
    refine qr ?_
    subst hR
    exact zb rfl (rv_g rfl)
   ·replace h4 : (strLt a0 a1) = false := h4
    replace hR := zl hR h4
    refine qo ?_
    refine qd ?_
    refine qd ?_
    refine qb [.p, .p, .p] ?_
    refine st rfl rfl (qa rfl rfl) rfl ?_
    refine st rfl rfl (qa rfl rfl) rfl ?_
    refine st rfl rfl (qq8 rfl rfl rfl) rfl ?_
    refine qe ?_
    refine qm _ rfl (fun h5 => ?_) (fun h5 => ?_)
    ·replace h5 : (!(strLt a0 a1 || decide (a0 = a1))) = true := h5
     replace hR := zk hR h5
     refine qd ?_
     refine qb [.p] ?_
     refine st rfl rfl (qc rfl rfl) rfl ?_
     refine qe ?_
     refine qr ?_
     subst hR
     exact zb rfl (rv_g rfl)
    ·replace h5 : (!(strLt a0 a1 || decide (a0 = a1))) = false := h5
     replace hR := zl hR h5
     refine qo ?_
     refine qd ?_
     refine qb [.p] ?_
     refine st rfl rfl (qc rfl rfl) rfl ?_
     refine qe ?_
     refine qr ?_
     subst hR
     exact zb rfl (rv_g rfl)
def s176_l1  : List Int → Nat → Int
 | [], k2 => 0
 | y3 :: t4, k2 => (bif decide (y3 ≠ 0) then y3 else s176_l1  t4 (k2 + 1))
def s176 (a0 : List Int) : Int :=
 s176_l1 a0 0
theorem c176 {g : List (Nat × List Value)} (a0 : List Int)    : Con (EG g) 176 [G.sl 1 (List.map cInt a0)] (G.int (s176 a0)) := by
 generalize hR : s176 a0 = R
 unfold s176 at hR
 refine qp Tryz.func176 rfl rfl fun w0 M0 => ?_
 refine zc (f := cInt) (l := a0) 0 rfl fun hla0 => ?_
 refine qd ?_
 refine qb [.p] ?_
 refine st rfl rfl (qc rfl rfl) rfl ?_
 refine qe ?_
 refine qd ?_
 refine qb [.p] ?_
 refine st rfl rfl (qc rfl rfl) rfl ?_
 refine qe ?_
 refine qd ?_
 refine qd ?_
 refine qb [.p, .p, .p] ?_
 refine st rfl rfl (qa rfl rfl) rfl ?_
 refine st rfl rfl (q9 (f := cInt) (l := a0) rfl Tryz.underlying82 rfl) rfl ?_
 refine st rfl rfl (qa rfl rfl) rfl ?_
 refine qe ?_
 refine qn ?_
 refine qx (γ := Nat × (List Int)) (fun g => ([(3, .g (G.int 0)), (6, .g (G.sl 1 (List.map cInt a0))), (7, .g (G.int (List.length a0 : Int))), (8, .g (G.int ((g.1 : Nat) : Int)))], [])) (fun g => a0.drop g.1 = g.2 ∧ s176_l1  g.2 g.1 = R) (fun g => List.length g.2) ⟨rfl, (0, a0), ⟨rfl, rfl, rfl, rfl, trivial⟩, trivial, rfl, ⟨rfl, hR⟩, trivial⟩ ?_
 ·rintro ⟨k2, t4⟩ ⟨hd, hR⟩
  replace hd : a0.drop k2 = t4 := hd
  replace hR : s176_l1  t4 k2 = R := hR
  refine qd ?_
  refine qb [.p] ?_
  refine st rfl rfl (ze rfl rfl rfl) rfl ?_
  refine qe ?_
  refine zc (f := cInt) (l := a0) 6 rfl fun hlz1 => ?_
  refine qd ?_
  refine qm _ rfl (fun h1 => ?_) (fun h1 => ?_)
  ·replace h1 : (decide (((k2 : Nat) : Int) < (List.length a0 : Int))) = true := h1
   obtain ⟨y3, t4, rfl, hx1, hd⟩ := zh hd (decT h1)
   replace h1 := decT h1
   rw [s176_l1] at hR
   try dsimp only at hR
   refine qo ?_
   refine qd ?_
   refine qn ?_
   refine qd ?_
   refine qb [.p, .p, .p] ?_
   refine st rfl rfl (zi (f := cInt) (l := a0) (a := y3) rfl Tryz.underlying82 ty3 rfl rfl (Int.natCast_nonneg _) hx1) rfl ?_
   refine st rfl rfl (qi rfl ty3 rfl) rfl ?_
   refine st rfl rfl (qc rfl rfl) rfl ?_
   refine qe ?_
   refine qd ?_
   refine qb [.p, .p, .p] ?_
   refine st rfl rfl (qa rfl rfl) rfl ?_
   refine st rfl rfl (qa rfl rfl) rfl ?_
   refine st rfl rfl (zz rfl rfl rfl) rfl ?_
   refine qe ?_
   refine qm _ rfl (fun h3 => ?_) (fun h3 => ?_)
   ·replace h3 : (decide (y3 ≠ 0)) = true := h3
    replace hR := zk hR h3
    refine qd ?_
    refine qb [.p, .p] ?_
    refine st rfl rfl (qa rfl rfl) rfl ?_
    refine st rfl rfl (qc rfl rfl) rfl ?_
    refine qe ?_
    refine qr ?_
    subst hR
    exact zb rfl (rv_g rfl)
   ·replace h3 : (decide (y3 ≠ 0)) = false := h3
    replace hR := zl hR h3
    try simp only [decide_eq_false_iff_not] at h3
    refine qo ?_
    refine qb [.p, .p] ?_
    refine st rfl rfl (zj rfl rfl rfl (by unfold I64; omega)) rfl ?_
    refine st rfl rfl (qa rfl rfl) rfl ?_
    refine qe ?_
    exact ⟨rfl, (k2 + 1, t4), ⟨rfl, rfl, rfl, rfl, trivial⟩, trivial, rfl, ⟨hd, hR⟩, by simp⟩
  ·replace h1 : (decide (((k2 : Nat) : Int) < (List.length a0 : Int))) = false := h1
   obtain rfl := zm hd (decF h1)
   rw [s176_l1] at hR
   refine zg ?_
   refine qd ?_
   refine qb [.p, .p] ?_
   refine st rfl rfl (qa rfl rfl) rfl ?_
   refine st rfl rfl (qc rfl rfl) rfl ?_
   refine qe ?_
   refine qr ?_
   subst hR
   exact zb rfl (rv_g rfl)
def s172 (a0 : S104) : Bool :=
 decide (a0.Kind = (⟨#[102, 108, 121]⟩))
theorem c172 {g : List (Nat × List Value)} (a0 : S104)    : Con (EG g) 172 [G.agg [G.str a0.Kind, G.str a0.Name, G.int a0.Moment, G.str a0.Move, G.int a0.fFrom, G.int a0.fTo, G.str a0.Cause, G.int a0.Told]] (G.bool (s172 a0)) := by
 generalize hR : s172 a0 = R
 unfold s172 at hR
 refine qp Tryz.func172 rfl rfl fun w0 M0 => ?_
 refine qd ?_
 refine qb [.p, .p] ?_
 refine st rfl rfl (zd rfl rfl) rfl ?_
 refine st rfl rfl (qc rfl rfl) rfl ?_
 refine qe ?_
 refine qd ?_
 refine qb [.p, .p, .p, .p] ?_
 refine st rfl rfl (qf rfl qbu rfl) rfl ?_
 refine st rfl rfl (qi rfl ty9 rfl) rfl ?_
 refine st rfl rfl (ju rfl rfl rfl) rfl ?_
 refine st rfl rfl (qc rfl rfl) rfl ?_
 refine qe ?_
 refine qr ?_
 subst hR
 exact zb rfl (rv_g rfl)
def s173 (a0 : S104) : S151 :=
 (S151.mk a0.Name a0.Moment a0.Move)
theorem c173 {g : List (Nat × List Value)} (a0 : S104)    : Con (EG g) 173 [G.agg [G.str a0.Kind, G.str a0.Name, G.int a0.Moment, G.str a0.Move, G.int a0.fFrom, G.int a0.fTo, G.str a0.Cause, G.int a0.Told]] (G.agg [G.str ((s173 a0).Name), G.int ((s173 a0).Moment), G.str ((s173 a0).Kind)]) := by
 generalize hR : s173 a0 = R
 unfold s173 at hR
 refine qp Tryz.func173 rfl rfl fun w0 M0 => ?_
 refine qd ?_
 refine qb [.p, .w] ?_
 refine st rfl rfl (zd rfl rfl) rfl ?_
 refine st_w rfl rfl (jm 2 rfl z152 rfl rfl) rfl ?_
 refine qe ?_
 refine qd ?_
 refine qb [.p, .p, .p, .p, .p, .p, .p, .w] ?_
 refine st rfl rfl (qf rfl qc8 rfl) rfl ?_
 refine st rfl rfl (qi rfl ty9 rfl) rfl ?_
 refine st rfl rfl (qf rfl qiq rfl) rfl ?_
 refine st rfl rfl (qi rfl ty3 rfl) rfl ?_
 refine st rfl rfl (qf rfl qir rfl) rfl ?_
 refine st rfl rfl (qi rfl ty9 rfl) rfl ?_
 refine st rfl rfl (vk rfl z152 rfl quf (j9 rfl (j9 rfl (j9 rfl qaz))) rfl) rfl ?_
 refine j8 rfl rfl (zt (tv := .g (G.agg [G.str a0.Name, G.int a0.Moment, G.str a0.Move])) rfl ko rfl rfl rfl rfl rfl) ?_
 refine qe ?_
 refine qr ?_
 subst hR
 exact zb rfl (qh4 rfl rfl ko rfl rfl)
def s175 (a0 : S151) (a1 : S151) : Int :=
 (s176 [(s167 a0.Moment a1.Moment), (s133 a0.Name a1.Name), (s133 a0.Kind a1.Kind)])
theorem c175 {g : List (Nat × List Value)} (a0 : S151) (a1 : S151)    : Con (EG g) 175 [G.agg [G.str a0.Name, G.int a0.Moment, G.str a0.Kind], G.agg [G.str a1.Name, G.int a1.Moment, G.str a1.Kind]] (G.int (s175 a0 a1)) := by
 generalize hR : s175 a0 a1 = R
 unfold s175 at hR
 refine qp Tryz.func175 rfl rfl fun w0 M0 => ?_
 refine qd ?_
 refine qb [.p, .p, .p] ?_
 refine st rfl rfl (zd rfl rfl) rfl ?_
 refine st rfl rfl (zd rfl rfl) rfl ?_
 refine st rfl rfl (qc rfl rfl) rfl ?_
 refine qe ?_
 refine qd ?_
 refine zw [.p, .p, .p, .p, .p, .p, .p, .p, .p, .p, .p, .p, .p, .p, .p, .p, .p, .p] (by kernel_rfl) ?_
 refine st rfl rfl (qf rfl vw rfl) rfl ?_
 refine st rfl rfl (qi rfl ty3 rfl) rfl ?_
 refine st rfl rfl (qf rfl vw rfl) rfl ?_
 refine st rfl rfl (qi rfl ty3 rfl) rfl ?_
 refine st rfl rfl (qj rfl K167 rfl (c167 a0.Moment a1.Moment) (qh rfl (qh rfl qk))) rfl ?_
 refine st rfl rfl (qf rfl w4 rfl) rfl ?_
 refine st rfl rfl (qi rfl ty9 rfl) rfl ?_
 refine st rfl rfl (qf rfl w4 rfl) rfl ?_
 refine st rfl rfl (qi rfl ty9 rfl) rfl ?_
 refine st rfl rfl (qj rfl K133 rfl (c133 a0.Name a1.Name) (qh rfl (qh rfl qk))) rfl ?_
 refine st rfl rfl (qf rfl qe8 rfl) rfl ?_
 refine st rfl rfl (qi rfl ty9 rfl) rfl ?_
 refine st rfl rfl (qf rfl qe8 rfl) rfl ?_
 refine st rfl rfl (qi rfl ty9 rfl) rfl ?_
 refine st rfl rfl (qj rfl K133 rfl (c133 a0.Kind a1.Kind) (qh rfl (qh rfl qk))) rfl ?_
 refine st rfl rfl (qu rfl Tryz.underlying82 ty3 z3 rfl (qw rfl (qw rfl (qw rfl z4))) rfl (by simp []) (by decide)) rfl ?_
 refine st rfl rfl (qj rfl K176 rfl (c176 [(s167 a0.Moment a1.Moment), (s133 a0.Name a1.Name), (s133 a0.Kind a1.Kind)]) (qh rfl qk)) rfl ?_
 refine st rfl rfl (qc rfl rfl) rfl ?_
 refine qe ?_
 refine qr ?_
 subst hR
 exact zb rfl (rv_g rfl)
def s208 (a0 : S104) (a1 : Int) : Bool :=
 (decide (a0.fFrom ≤ a1)) && (decide (a1 ≤ a0.fTo))
theorem c208 {g : List (Nat × List Value)} (a0 : S104) (a1 : Int)    : Con (EG g) 208 [G.agg [G.str a0.Kind, G.str a0.Name, G.int a0.Moment, G.str a0.Move, G.int a0.fFrom, G.int a0.fTo, G.str a0.Cause, G.int a0.Told], G.int a1] (G.bool (s208 a0 a1)) := by
 generalize hR : s208 a0 a1 = R
 unfold s208 at hR
 refine qp Tryz.func208 rfl rfl fun w0 M0 => ?_
 refine qd ?_
 refine qb [.p, .p] ?_
 refine st rfl rfl (zd rfl rfl) rfl ?_
 refine st rfl rfl (qc rfl rfl) rfl ?_
 refine qe ?_
 refine qd ?_
 refine qb [.p, .p, .p, .p, .p, .p, .p, .p, .p, .p, .p] ?_
 refine st rfl rfl (qf rfl qfa rfl) rfl ?_
 refine st rfl rfl (qi rfl ty3 rfl) rfl ?_
 refine st rfl rfl (qa rfl rfl) rfl ?_
 refine st rfl rfl (kg rfl rfl rfl) rfl ?_
 refine st rfl rfl (qa rfl rfl) rfl ?_
 refine st_g rfl rfl rfl (qg _ _) (fun h => qa rfl rfl) rfl ?_
 refine st_g rfl rfl rfl (qg _ _) (fun h => qf rfl qfb rfl) rfl ?_
 refine st_g rfl rfl rfl (qg _ _) (fun h => qi rfl ty3 (gd h rfl)) rfl ?_
 refine st_g rfl rfl rfl (qg _ _) (fun h => kg rfl (gd h rfl) (gd h rfl)) rfl ?_
 refine st rfl rfl (zf rfl rfl rfl rfl) rfl ?_
 refine st rfl rfl (qc rfl rfl) rfl ?_
 refine qe ?_
 refine qr ?_
 subst hR
 exact zb rfl (rv_g rfl)
def s207 (a0 : S104) (a1 : S151) (a2 : Int) (a3 : S23) : Bool :=
 (((decide (a0.Kind = (⟨#[98, 97, 99, 107]⟩))) && (decide (a0.Name = a1.Name))) && (s208 a0 a2)) && (decide (IntKind.i64.wrap (a0.Told + a3.Notice) ≤ a2))
theorem c207 {g : List (Nat × List Value)} (a0 : S104) (a1 : S151) (a2 : Int) (a3 : S23)    : Con (EG g) 207 [G.agg [G.str a0.Kind, G.str a0.Name, G.int a0.Moment, G.str a0.Move, G.int a0.fFrom, G.int a0.fTo, G.str a0.Cause, G.int a0.Told], G.ref [G.str a1.Name, G.int a1.Moment, G.str a1.Kind], G.ref [G.int a2], G.ref [G.int a3.Before, G.int a3.After, G.int a3.Notice, G.int a3.Share, G.sl 1 (List.map cStr a3.Causes), G.int a3.Off, G.int a3.Run]] (G.bool (s207 a0 a1 a2 a3)) := by
 generalize hR : s207 a0 a1 a2 a3 = R
 unfold s207 at hR
 refine qp Tryz.func207 rfl rfl fun w0 M0 => ?_
 refine qd ?_
 refine qb [.p, .p] ?_
 refine st rfl rfl (zd rfl rfl) rfl ?_
 refine st rfl rfl (qc rfl rfl) rfl ?_
 refine qe ?_
 refine qd ?_
 refine qb [.p, .p, .p, .p, .p, .p, .p, .p, .p, .p, .p, .p, .p, .p, .p, .p, .p, .p, .p, .p, .p, .p, .p, .p, .p] ?_
 refine st rfl rfl (qf rfl qbu rfl) rfl ?_
 refine st rfl rfl (qi rfl ty9 rfl) rfl ?_
 refine st rfl rfl (ju rfl rfl rfl) rfl ?_
 refine st rfl rfl (qa rfl rfl) rfl ?_
 refine st_g rfl rfl rfl (qg _ _) (fun h => qf rfl qc8 rfl) rfl ?_
 refine st_g rfl rfl rfl (qg _ _) (fun h => qi rfl ty9 (gd h rfl)) rfl ?_
 refine st_g rfl rfl rfl (qg _ _) (fun h => qf rfl w4 rfl) rfl ?_
 refine st_g rfl rfl rfl (qg _ _) (fun h => qi rfl ty9 (gd h rfl)) rfl ?_
 refine st_g rfl rfl rfl (qg _ _) (fun h => ju rfl (gd h rfl) (gd h rfl)) rfl ?_
 refine st rfl rfl (zf rfl rfl rfl rfl) rfl ?_
 refine st rfl rfl (qa rfl rfl) rfl ?_
 refine st_g rfl rfl rfl (qg _ _) (fun h => qt rfl xx rfl rfl rfl) rfl ?_
 refine st_g rfl rfl rfl (qg _ _) (fun h => qi rfl ty3 rfl) rfl ?_
 refine st_g rfl rfl rfl (qg _ _) (fun h => qj rfl K208 rfl (c208 a0 a2) (qh (gd h rfl) (qh (gd h rfl) qk))) rfl ?_
 refine st rfl rfl (zf rfl rfl rfl rfl) rfl ?_
 refine st rfl rfl (qa rfl rfl) rfl ?_
 refine st_g rfl rfl rfl (qg _ _) (fun h => qf rfl qit rfl) rfl ?_
 refine st_g rfl rfl rfl (qg _ _) (fun h => qi rfl ty3 (gd h rfl)) rfl ?_
 refine st_g rfl rfl rfl (qg _ _) (fun h => qf rfl qqf rfl) rfl ?_
 refine st_g rfl rfl rfl (qg _ _) (fun h => qi rfl ty3 (gd h rfl)) rfl ?_
 refine st_g rfl rfl rfl (qg _ _) (fun h => j6 rfl (gd h rfl) (gd h rfl)) rfl ?_
 refine st_g rfl rfl rfl (qg _ _) (fun h => qi rfl ty3 rfl) rfl ?_
 refine st_g rfl rfl rfl (qg _ _) (fun h => kg rfl (gd h rfl) (gd h rfl)) rfl ?_
 refine st rfl rfl (zf rfl rfl rfl rfl) rfl ?_
 refine st rfl rfl (qc rfl rfl) rfl ?_
 refine qe ?_
 refine qr ?_
 subst hR
 exact zb rfl (rv_g rfl)
def s209 (a0 : S104) (a1 : Int) (a2 : S151) (a3 : S23) : Bool :=
 (s208 a0 a1) && ((decide (a0.Kind = (⟨#[119, 101, 97, 116, 104, 101, 114]⟩))) || (((decide (a0.Kind = (⟨#[99, 97, 110, 99, 101, 108]⟩))) && (decide (a0.Name = a2.Name))) && (s88 a3.Causes a0.Cause)))
theorem c209 {g : List (Nat × List Value)} (a0 : S104) (a1 : Int) (a2 : S151) (a3 : S23)    : Con (EG g) 209 [G.agg [G.str a0.Kind, G.str a0.Name, G.int a0.Moment, G.str a0.Move, G.int a0.fFrom, G.int a0.fTo, G.str a0.Cause, G.int a0.Told], G.ref [G.int a1], G.ref [G.str a2.Name, G.int a2.Moment, G.str a2.Kind], G.ref [G.int a3.Before, G.int a3.After, G.int a3.Notice, G.int a3.Share, G.sl 1 (List.map cStr a3.Causes), G.int a3.Off, G.int a3.Run]] (G.bool (s209 a0 a1 a2 a3)) := by
 generalize hR : s209 a0 a1 a2 a3 = R
 unfold s209 at hR
 refine qp Tryz.func209 rfl rfl fun w0 M0 => ?_
 refine qd ?_
 refine qb [.p, .p] ?_
 refine st rfl rfl (zd rfl rfl) rfl ?_
 refine st rfl rfl (qc rfl rfl) rfl ?_
 refine qe ?_
 refine qd ?_
 refine qb [.p, .p, .p, .p, .p, .p, .p, .p, .p, .p, .p, .p, .p, .p, .p, .p, .p, .p, .p, .p, .p, .p, .p, .p, .p, .p, .p, .p] ?_
 refine st rfl rfl (qt rfl xx rfl rfl rfl) rfl ?_
 refine st rfl rfl (qi rfl ty3 rfl) rfl ?_
 refine st rfl rfl (qj rfl K208 rfl (c208 a0 a1) (qh rfl (qh rfl qk))) rfl ?_
 refine st rfl rfl (qa rfl rfl) rfl ?_
 refine st_g rfl rfl rfl (qg _ _) (fun h => qf rfl qbu rfl) rfl ?_
 refine st_g rfl rfl rfl (qg _ _) (fun h => qi rfl ty9 (gd h rfl)) rfl ?_
 refine st_g rfl rfl rfl (qg _ _) (fun h => ju rfl (gd h rfl) rfl) rfl ?_
 refine st_g rfl rfl rfl (qg _ _) (fun h => qa rfl (gd h rfl)) rfl ?_
 refine st_g rfl rfl rfl (zq _ _ _) (fun h => qf rfl qbu rfl) rfl ?_
 refine st_g rfl rfl rfl (zq _ _ _) (fun h => qi rfl ty9 (gd h rfl)) rfl ?_
 refine st_g rfl rfl rfl (zq _ _ _) (fun h => ju rfl (gd h rfl) rfl) rfl ?_
 refine st_g rfl rfl rfl (zq _ _ _) (fun h => qa rfl (gd h rfl)) rfl ?_
 refine st_g rfl rfl rfl (zq _ _ _) (fun h => qf rfl qc8 rfl) rfl ?_
 refine st_g rfl rfl rfl (zq _ _ _) (fun h => qi rfl ty9 (gd h rfl)) rfl ?_
 refine st_g rfl rfl rfl (zq _ _ _) (fun h => qf rfl w4 rfl) rfl ?_
 refine st_g rfl rfl rfl (zq _ _ _) (fun h => qi rfl ty9 (gd h rfl)) rfl ?_
 refine st_g rfl rfl rfl (zq _ _ _) (fun h => ju rfl (gd h rfl) (gd h rfl)) rfl ?_
 refine st_g rfl rfl rfl (zq _ _ _) (fun h => zf rfl (gd h rfl) rfl (gd2 h rfl)) rfl ?_
 refine st_g rfl rfl rfl (zq _ _ _) (fun h => qa rfl (gd h rfl)) rfl ?_
 refine st_g rfl rfl rfl (zq _ _ _) (fun h => qf rfl qj8 rfl) rfl ?_
 refine st_g rfl rfl rfl (zq _ _ _) (fun h => qi rfl ty22 (gd h rfl)) rfl ?_
 refine st_g rfl rfl rfl (zq _ _ _) (fun h => qf rfl qis rfl) rfl ?_
 refine st_g rfl rfl rfl (zq _ _ _) (fun h => qi rfl ty9 (gd h rfl)) rfl ?_
 refine st_g rfl rfl rfl (zq _ _ _) (fun h => qj rfl K88 rfl (c88 a3.Causes a0.Cause) (qh (gd h rfl) (qh (gd h rfl) qk))) rfl ?_
 refine st_g rfl rfl rfl (zq _ _ _) (fun h => zf rfl (gd h rfl) rfl (gd2 h rfl)) rfl ?_
 refine st_g rfl rfl rfl (qg _ _) (fun h => z8 rfl (gd h rfl) rfl (gd2 h rfl)) rfl ?_
 refine st rfl rfl (zf rfl rfl rfl rfl) rfl ?_
 refine st rfl rfl (qc rfl rfl) rfl ?_
 refine qe ?_
 refine qr ?_
 subst hR
 exact zb rfl (rv_g rfl)
end Go.Sim
set_option linter.unusedSimpArgs false
set_option linter.unusedVariables false
set_option maxRecDepth 10000
namespace Go.Sim
open Go.Proofs
def s170_l1 (a1 : S104 → S151) : List S104 → Nat → (List S151) → List S151
 | [], k3, x1 => x1
 | y4 :: t5, k3, x1 => s170_l1 a1 t5 (k3 + 1) (x1 ++ [(a1 y4)])
def s170 (a0 : List S104) (a1 : S104 → S151) : List S151 :=
 s170_l1 a1 a0 0 []
theorem n170 {g : List (Nat × List Value)} (a0 : List S104) (a1 : S104 → S151) {ca1 : G} {ia1 : FuncId} {ka1 : List G} (ha1 : FnIs ca1 ia1 ka1) (Ka1 : Known Tryz.prog ia1) (Ha1 : ∀ (x0 : S104), Con (EG g) ia1 ([G.agg [G.str x0.Kind, G.str x0.Name, G.int x0.Moment, G.str x0.Move, G.int x0.fFrom, G.int x0.fTo, G.str x0.Cause, G.int x0.Told]] ++ ka1) (G.agg [G.str ((a1 x0).Name), G.int ((a1 x0).Moment), G.str ((a1 x0).Kind)])) (hb0 : a0.length ≤ 12)  : ConN (EG g) 170 [G.sl 8 (List.map S104.c a0), ca1] 152 3 (List.map S151.c (s170 a0 a1)) := by
 generalize hR : s170 a0 a1 = R
 unfold s170 at hR
 refine kl Tryz.func170 rfl rfl fun w0 M0 => ?_
 refine zc (f := S104.c) (l := a0) 0 rfl fun hla0 => ?_
 refine qd ?_
 refine qb [.w] ?_
 refine st_w rfl rfl (zu 4 152 3 rfl rfl rfl) rfl ?_
 refine qe ?_
 refine qd ?_
 refine qb [.w] ?_
 refine st_w rfl rfl (zu 5 152 3 rfl rfl rfl) rfl ?_
 refine qe ?_
 refine qd ?_
 refine qd ?_
 refine qb [.p, .p, .p] ?_
 refine st rfl rfl (qa rfl rfl) rfl ?_
 refine st rfl rfl (q9 (f := S104.c) (l := a0) rfl Tryz.underlying26 rfl) rfl ?_
 refine st rfl rfl (qa rfl rfl) rfl ?_
 refine qe ?_
 refine qn ?_
 refine qx (γ := Nat × (List S104) × (List S151)) (fun g => ([(1, .g (ca1)), (5, .osl 5 3 0 (List.length g.2.2)), (8, .g (G.sl 8 (List.map S104.c a0))), (9, .g (G.int (List.length a0 : Int))), (10, .g (G.int ((g.1 : Nat) : Int)))], [(5, .arr 152 3 (List.map S151.c g.2.2))])) (fun g => g.2.2.length ≤ g.1 ∧ a0.drop g.1 = g.2.1 ∧ s170_l1 a1 g.2.1 g.1 g.2.2 = R) (fun g => List.length g.2.1) ⟨rfl, (0, a0, []), ⟨rfl, rfl, rfl, rfl, rfl, trivial⟩, ⟨rfl, trivial⟩, rfl, ⟨(by first | (simp; done) | (simp; omega)), rfl, hR⟩, trivial⟩ ?_
 ·rintro ⟨k3, t5, x1⟩ ⟨iv1_0, hd, hR⟩
  replace hd : a0.drop k3 = t5 := hd
  replace hR : s170_l1 a1 t5 k3 x1 = R := hR
  replace iv1_0 : x1.length ≤ k3 := iv1_0
  refine qd ?_
  refine qb [.p] ?_
  refine st rfl rfl (ze rfl rfl rfl) rfl ?_
  refine qe ?_
  refine zc (f := S104.c) (l := a0) 8 rfl fun hlz1 => ?_
  refine qd ?_
  refine qm _ rfl (fun h1 => ?_) (fun h1 => ?_)
  ·replace h1 : (decide (((k3 : Nat) : Int) < (List.length a0 : Int))) = true := h1
   obtain ⟨y4, t5, rfl, hx1, hd⟩ := zh hd (decT h1)
   replace h1 := decT h1
   rw [s170_l1] at hR
   try dsimp only at hR
   refine qo ?_
   refine qd ?_
   refine qn ?_
   refine qd ?_
   refine qb [.p, .p, .w, .w] ?_
   refine st rfl rfl (zi (f := S104.c) (l := a0) (a := y4) rfl Tryz.underlying26 xx rfl rfl (Int.natCast_nonneg _) hx1) rfl ?_
   refine st rfl rfl (qt rfl xx rfl rfl rfl) rfl ?_
   refine st_w rfl rfl (jm 7 rfl z105 rfl rfl) rfl ?_
   refine j8 rfl rfl (zt (tv := .g (G.agg [G.str y4.Kind, G.str y4.Name, G.int y4.Moment, G.str y4.Move, G.int y4.fFrom, G.int y4.fTo, G.str y4.Cause, G.int y4.Told])) rfl xx rfl rfl rfl rfl rfl) ?_
   refine qe ?_
   refine qb [.p, .p, .r, .p, .p, .k, .p] ?_
   refine st rfl rfl (qq rfl rfl) rfl ?_
   refine st rfl rfl (qa rfl rfl) rfl ?_
   refine st_r rfl rfl (jo rfl xx rfl rfl rfl rfl) rfl ?_
   refine st rfl rfl (v5 rfl ha1 Ka1 rfl (Ha1 y4) (qh rfl qk)) rfl ?_
   refine st rfl rfl (qu rfl Tryz.underlying25 ko z152 rfl (qw rfl z4) rfl (by simp [S151.c]) (by decide)) rfl ?_
   refine st_k rfl rfl (z5 (f := S151.c) (out := x1) (new := [(a1 y4)]) rfl qui rfl rfl (kc rfl (vc (by decide) (by simp [S151.c]))) (vp rfl) (by simp; omega)) rfl ?_
   refine st rfl rfl (qy rfl rfl) rfl ?_
   refine qe ?_
   refine qb [.p, .p] ?_
   refine st rfl rfl (zj rfl rfl rfl (by unfold I64; omega)) rfl ?_
   refine st rfl rfl (qa rfl rfl) rfl ?_
   refine qe ?_
   exact ⟨rfl, (k3 + 1, t5, x1 ++ [(a1 y4)]), ⟨rfl, rfl, rfl, rfl, rfl, trivial⟩, ⟨rfl, trivial⟩, rfl, ⟨(by first | omega | (dsimp only; omega) | (simp at *; omega)), hd, hR⟩, by simp⟩
  ·replace h1 : (decide (((k3 : Nat) : Int) < (List.length a0 : Int))) = false := h1
   obtain rfl := zm hd (decF h1)
   rw [s170_l1] at hR
   refine zg ?_
   refine qd ?_
   refine qb [.p, .p] ?_
   refine st rfl rfl (qq rfl rfl) rfl ?_
   refine st rfl rfl (qy rfl rfl) rfl ?_
   refine qe ?_
   refine qr ?_
   subst hR
   exact kx rfl rfl rfl ((List.length_map ..).trans rfl)
def s171_j1 (rec1 : Nat → (List S104) → List S104) (k3 : Nat) (x6 : List S104) : List S104 :=
 rec1 (k3 + 1) x6
def s171_l1 (a1 : S104 → Bool) : List S104 → Nat → (List S104) → List S104
 | [], k3, x1 => x1
 | y4 :: t5, k3, x1 => (bif (a1 y4) then s171_j1 (fun k_ z0_ => s171_l1 a1 t5 k_ z0_) k3 (x1 ++ [y4]) else s171_j1 (fun k_ z0_ => s171_l1 a1 t5 k_ z0_) k3 x1)
def s171 (a0 : List S104) (a1 : S104 → Bool) : List S104 :=
 s171_l1 a1 a0 0 []
theorem n171 {g : List (Nat × List Value)} (a0 : List S104) (a1 : S104 → Bool) {ca1 : G} {ia1 : FuncId} {ka1 : List G} (ha1 : FnIs ca1 ia1 ka1) (Ka1 : Known Tryz.prog ia1) (Ha1 : ∀ (x0 : S104), Con (EG g) ia1 ([G.agg [G.str x0.Kind, G.str x0.Name, G.int x0.Moment, G.str x0.Move, G.int x0.fFrom, G.int x0.fTo, G.str x0.Cause, G.int x0.Told]] ++ ka1) (G.bool (a1 x0))) (hb0 : a0.length ≤ 12)  : ConN (EG g) 171 [G.sl 8 (List.map S104.c a0), ca1] 105 8 (List.map S104.c (s171 a0 a1)) := by
 generalize hR : s171 a0 a1 = R
 unfold s171 at hR
 refine kl Tryz.func171 rfl rfl fun w0 M0 => ?_
 refine zc (f := S104.c) (l := a0) 0 rfl fun hla0 => ?_
 refine qd ?_
 refine qb [.w] ?_
 refine st_w rfl rfl (zu 4 105 8 rfl rfl rfl) rfl ?_
 refine qe ?_
 refine qd ?_
 refine qb [.w] ?_
 refine st_w rfl rfl (zu 5 105 8 rfl rfl rfl) rfl ?_
 refine qe ?_
 refine qd ?_
 refine qd ?_
 refine qb [.p, .p, .p] ?_
 refine st rfl rfl (qa rfl rfl) rfl ?_
 refine st rfl rfl (q9 (f := S104.c) (l := a0) rfl Tryz.underlying26 rfl) rfl ?_
 refine st rfl rfl (qa rfl rfl) rfl ?_
 refine qe ?_
 refine qn ?_
 refine qx (γ := Nat × (List S104) × (List S104)) (fun g => ([(1, .g (ca1)), (5, .osl 5 8 0 (List.length g.2.2)), (8, .g (G.sl 8 (List.map S104.c a0))), (9, .g (G.int (List.length a0 : Int))), (10, .g (G.int ((g.1 : Nat) : Int)))], [(5, .arr 105 8 (List.map S104.c g.2.2))])) (fun g => g.2.2.length ≤ g.1 ∧ a0.drop g.1 = g.2.1 ∧ s171_l1 a1 g.2.1 g.1 g.2.2 = R) (fun g => List.length g.2.1) ⟨rfl, (0, a0, []), ⟨rfl, rfl, rfl, rfl, rfl, trivial⟩, ⟨rfl, trivial⟩, rfl, ⟨(by first | (simp; done) | (simp; omega)), rfl, hR⟩, trivial⟩ ?_
 ·rintro ⟨k3, t5, x1⟩ ⟨iv1_0, hd, hR⟩
  replace hd : a0.drop k3 = t5 := hd
  replace hR : s171_l1 a1 t5 k3 x1 = R := hR
  replace iv1_0 : x1.length ≤ k3 := iv1_0
  refine qd ?_
  refine qb [.p] ?_
  refine st rfl rfl (ze rfl rfl rfl) rfl ?_
  refine qe ?_
  refine zc (f := S104.c) (l := a0) 8 rfl fun hlz1 => ?_
  refine qd ?_
  refine qm _ rfl (fun h1 => ?_) (fun h1 => ?_)
  ·replace h1 : (decide (((k3 : Nat) : Int) < (List.length a0 : Int))) = true := h1
   obtain ⟨y4, t5, rfl, hx1, hd⟩ := zh hd (decT h1)
   replace h1 := decT h1
   rw [s171_l1] at hR
   try dsimp only at hR
   refine qo ?_
   refine jt (γ := (List S104)) (fun g => ([(1, .g (ca1)), (5, .osl 5 8 0 (List.length g)), (8, .g (G.sl 8 (List.map S104.c a0))), (9, .g (G.int (List.length a0 : Int))), (10, .g (G.int ((k3 : Nat) : Int)))], [(5, .arr 105 8 (List.map S104.c g))])) (fun g => g.length ≤ k3 + 1 ∧ s171_j1 (fun k_ z0_ => s171_l1 a1 t5 k_ z0_) k3 g = R) ?_ ?_
   ·refine qn ?_
    refine qd ?_
    refine qb [.p, .p, .w, .w] ?_
    refine st rfl rfl (zi (f := S104.c) (l := a0) (a := y4) rfl Tryz.underlying26 xx rfl rfl (Int.natCast_nonneg _) hx1) rfl ?_
    refine st rfl rfl (qt rfl xx rfl rfl rfl) rfl ?_
    refine st_w rfl rfl (jm 7 rfl z105 rfl rfl) rfl ?_
    refine j8 rfl rfl (zt (tv := .g (G.agg [G.str y4.Kind, G.str y4.Name, G.int y4.Moment, G.str y4.Move, G.int y4.fFrom, G.int y4.fTo, G.str y4.Cause, G.int y4.Told])) rfl xx rfl rfl rfl rfl rfl) ?_
    refine qe ?_
    refine qd ?_
    refine qb [.p, .r, .p] ?_
    refine st rfl rfl (qa rfl rfl) rfl ?_
    refine st_r rfl rfl (jo rfl xx rfl rfl rfl rfl) rfl ?_
    refine st rfl rfl (v5 rfl ha1 Ka1 rfl (Ha1 y4) (qh rfl qk)) rfl ?_
    refine qe ?_
    refine qm _ rfl (fun h3 => ?_) (fun h3 => ?_)
    ·replace h3 : ((a1 y4)) = true := h3
     replace hR := zk hR h3
     try simp only [Bool.or_eq_true, Bool.and_eq_true, Bool.or_eq_false_iff, Bool.and_eq_false_iff, Bool.not_eq_true', Bool.not_eq_false', decide_eq_true_eq, decide_eq_false_iff_not] at h3
     refine qb [.p, .r, .p, .k, .p] ?_
     refine st rfl rfl (qq rfl rfl) rfl ?_
     refine st_r rfl rfl (jo rfl xx rfl rfl rfl rfl) rfl ?_
     refine st rfl rfl (qu rfl Tryz.underlying26 xx z105 rfl (qw rfl z4) rfl (by simp [S104.c]) (by decide)) rfl ?_
     refine st_k rfl rfl (z5 (f := S104.c) (out := x1) (new := [y4]) rfl qwl rfl rfl (kc rfl (vc (by decide) (by simp [S104.c]))) (vp rfl) (by simp; omega)) rfl ?_
     refine st rfl rfl (qy rfl rfl) rfl ?_
     refine qe ?_
     exact ⟨rfl, x1 ++ [y4], ⟨rfl, rfl, rfl, rfl, rfl, trivial⟩, ⟨rfl, trivial⟩, rfl, ⟨(by first | omega | (dsimp only; omega) | (simp at *; done) | (simp at *; omega)), hR⟩, trivial⟩
    ·replace h3 : ((a1 y4)) = false := h3
     replace hR := zl hR h3
     try simp only [Bool.or_eq_true, Bool.and_eq_true, Bool.or_eq_false_iff, Bool.and_eq_false_iff, Bool.not_eq_true', Bool.not_eq_false', decide_eq_true_eq, decide_eq_false_iff_not] at h3
     refine qo ?_
     exact ⟨rfl, x1, ⟨rfl, rfl, rfl, rfl, rfl, trivial⟩, ⟨rfl, trivial⟩, rfl, ⟨(by first | omega | (dsimp only; omega) | (simp at *; done) | (simp at *; omega)), hR⟩, trivial⟩
   ·rintro x6 ⟨jv1_0, hR⟩
    replace jv1_0 : x6.length ≤ k3 + 1 := jv1_0
    replace hR : s171_j1 (fun k_ z0_ => s171_l1 a1 t5 k_ z0_) k3 x6 = R := hR
    unfold s171_j1 at hR
    refine qb [.p, .p] ?_
    refine st rfl rfl (zj rfl rfl rfl (by unfold I64; omega)) rfl ?_
    refine st rfl rfl (qa rfl rfl) rfl ?_
    refine qe ?_
    exact ⟨rfl, (k3 + 1, t5, x6), ⟨rfl, rfl, rfl, rfl, rfl, trivial⟩, ⟨rfl, trivial⟩, rfl, ⟨(by first | omega | (dsimp only; omega) | (simp at *; omega)), hd, hR⟩, by simp⟩
  ·replace h1 : (decide (((k3 : Nat) : Int) < (List.length a0 : Int))) = false := h1
   obtain rfl := zm hd (decF h1)
   rw [s171_l1] at hR
   refine zg ?_
   refine qd ?_
   refine qb [.p, .p] ?_
   refine st rfl rfl (qq rfl rfl) rfl ?_
   refine st rfl rfl (qy rfl rfl) rfl ?_
   refine qe ?_
   refine qr ?_
   subst hR
   exact kx rfl rfl rfl ((List.length_map ..).trans rfl)
theorem c171 {g : List (Nat × List Value)} (a0 : List S104) (a1 : S104 → Bool) {ca1 : G} {ia1 : FuncId} {ka1 : List G} (ha1 : FnIs ca1 ia1 ka1) (Ka1 : Known Tryz.prog ia1) (Ha1 : ∀ (x0 : S104), Con (EG g) ia1 ([G.agg [G.str x0.Kind, G.str x0.Name, G.int x0.Moment, G.str x0.Move, G.int x0.fFrom, G.int x0.fTo, G.str x0.Cause, G.int x0.Told]] ++ ka1) (G.bool (a1 x0))) (hb0 : a0.length ≤ 12)  : Con (EG g) 171 [G.sl 8 (List.map S104.c a0), ca1] (G.sl 8 (List.map S104.c (s171 a0 a1))) :=
 ConN.con (by decide) (n171 a0 a1 ha1 Ka1 Ha1 hb0)
def s242_l1 (a1 : S104 → Bool) : List S104 → Nat → Int
 | [], k2 => (-1)
 | y3 :: t4, k2 => (bif (a1 y3) then ((k2 : Nat) : Int) else s242_l1 a1 t4 (k2 + 1))
def s242 (a0 : List S104) (a1 : S104 → Bool) : Int :=
 s242_l1 a1 a0 0
theorem c242 {g : List (Nat × List Value)} (a0 : List S104) (a1 : S104 → Bool) {ca1 : G} {ia1 : FuncId} {ka1 : List G} (ha1 : FnIs ca1 ia1 ka1) (Ka1 : Known Tryz.prog ia1) (Ha1 : ∀ (x0 : S104), Con (EG g) ia1 ([G.agg [G.str x0.Kind, G.str x0.Name, G.int x0.Moment, G.str x0.Move, G.int x0.fFrom, G.int x0.fTo, G.str x0.Cause, G.int x0.Told]] ++ ka1) (G.bool (a1 x0)))   : Con (EG g) 242 [G.sl 8 (List.map S104.c a0), ca1] (G.int (s242 a0 a1)) := by
 generalize hR : s242 a0 a1 = R
 unfold s242 at hR
 refine qp Tryz.func242 rfl rfl fun w0 M0 => ?_
 refine zc (f := S104.c) (l := a0) 0 rfl fun hla0 => ?_
 refine qd ?_
 refine qb [.p] ?_
 refine st rfl rfl (qc rfl rfl) rfl ?_
 refine qe ?_
 refine qd ?_
 refine qd ?_
 refine qb [.p, .p, .p] ?_
 refine st rfl rfl (qa rfl rfl) rfl ?_
 refine st rfl rfl (q9 (f := S104.c) (l := a0) rfl Tryz.underlying26 rfl) rfl ?_
 refine st rfl rfl (qa rfl rfl) rfl ?_
 refine qe ?_
 refine qn ?_
 refine qx (γ := Nat × (List S104)) (fun g => ([(0, .g (G.sl 8 (List.map S104.c a0))), (1, .g (ca1)), (7, .g (G.int (List.length a0 : Int))), (8, .g (G.int ((g.1 : Nat) : Int)))], [])) (fun g => a0.drop g.1 = g.2 ∧ s242_l1 a1 g.2 g.1 = R) (fun g => List.length g.2) ⟨rfl, (0, a0), ⟨rfl, rfl, rfl, rfl, trivial⟩, trivial, rfl, ⟨rfl, hR⟩, trivial⟩ ?_
 ·rintro ⟨k2, t4⟩ ⟨hd, hR⟩
  replace hd : a0.drop k2 = t4 := hd
  replace hR : s242_l1 a1 t4 k2 = R := hR
  refine qd ?_
  refine qb [.p] ?_
  refine st rfl rfl (ze rfl rfl rfl) rfl ?_
  refine qe ?_
  refine zc (f := S104.c) (l := a0) 0 rfl fun hlz1 => ?_
  refine qd ?_
  refine qm _ rfl (fun h1 => ?_) (fun h1 => ?_)
  ·replace h1 : (decide (((k2 : Nat) : Int) < (List.length a0 : Int))) = true := h1
   obtain ⟨y3, t4, rfl, hx1, hd⟩ := zh hd (decT h1)
   replace h1 := decT h1
   rw [s242_l1] at hR
   try dsimp only at hR
   refine qo ?_
   refine qd ?_
   refine qn ?_
   refine qd ?_
   refine qb [.p, .p] ?_
   refine st rfl rfl (qa rfl rfl) rfl ?_
   refine st rfl rfl (qc rfl rfl) rfl ?_
   refine qe ?_
   refine qd ?_
   refine qb [.p, .p, .p, .p, .p, .p] ?_
   refine st rfl rfl (qa rfl rfl) rfl ?_
   refine st rfl rfl (qa rfl rfl) rfl ?_
   refine st rfl rfl (qa rfl rfl) rfl ?_
   refine st rfl rfl (zi (f := S104.c) (l := a0) (a := y3) rfl Tryz.underlying26 xx rfl rfl (Int.natCast_nonneg _) hx1) rfl ?_
   refine st rfl rfl (qt rfl xx rfl rfl rfl) rfl ?_
   refine st rfl rfl (v5 rfl ha1 Ka1 rfl (Ha1 y3) (qh rfl qk)) rfl ?_
   refine qe ?_
   refine qm _ rfl (fun h3 => ?_) (fun h3 => ?_)
   ·replace h3 : ((a1 y3)) = true := h3
    replace hR := zk hR h3
    refine qd ?_
    refine qb [.p, .p] ?_
    refine st rfl rfl (qa rfl rfl) rfl ?_
    refine st rfl rfl (qc rfl rfl) rfl ?_
    refine qe ?_
    refine qr ?_
    subst hR
    exact zb rfl (rv_g rfl)
   ·replace h3 : ((a1 y3)) = false := h3
    replace hR := zl hR h3
    try simp only [Bool.or_eq_true, Bool.and_eq_true, Bool.or_eq_false_iff, Bool.and_eq_false_iff, Bool.not_eq_true', Bool.not_eq_false', decide_eq_true_eq, decide_eq_false_iff_not] at h3
    refine qo ?_
    refine qb [.p, .p] ?_
    refine st rfl rfl (zj rfl rfl rfl (by unfold I64; omega)) rfl ?_
    refine st rfl rfl (qa rfl rfl) rfl ?_
    refine qe ?_
    exact ⟨rfl, (k2 + 1, t4), ⟨rfl, rfl, rfl, rfl, trivial⟩, trivial, rfl, ⟨hd, hR⟩, by simp⟩
  ·replace h1 : (decide (((k2 : Nat) : Int) < (List.length a0 : Int))) = false := h1
   obtain rfl := zm hd (decF h1)
   rw [s242_l1] at hR
   refine zg ?_
   refine qd ?_
   refine qb [.p] ?_
   refine st rfl rfl (qc rfl rfl) rfl ?_
   refine qe ?_
   refine qr ?_
   subst hR
   exact zb rfl (rv_g rfl)
def s206 (a0 : List S104) (a1 : S104 → Bool) : Bool :=
 decide (0 ≤ (s242 a0 a1))
theorem c206 {g : List (Nat × List Value)} (a0 : List S104) (a1 : S104 → Bool) {ca1 : G} {ia1 : FuncId} {ka1 : List G} (ha1 : FnIs ca1 ia1 ka1) (Ka1 : Known Tryz.prog ia1) (Ha1 : ∀ (x0 : S104), Con (EG g) ia1 ([G.agg [G.str x0.Kind, G.str x0.Name, G.int x0.Moment, G.str x0.Move, G.int x0.fFrom, G.int x0.fTo, G.str x0.Cause, G.int x0.Told]] ++ ka1) (G.bool (a1 x0)))   : Con (EG g) 206 [G.sl 8 (List.map S104.c a0), ca1] (G.bool (s206 a0 a1)) := by
 generalize hR : s206 a0 a1 = R
 unfold s206 at hR
 refine qp Tryz.func206 rfl rfl fun w0 M0 => ?_
 refine zc (f := S104.c) (l := a0) 0 rfl fun hla0 => ?_
 refine qd ?_
 refine qb [.p] ?_
 refine st rfl rfl (qc rfl rfl) rfl ?_
 refine qe ?_
 refine qd ?_
 refine qb [.p, .p, .p, .p, .p] ?_
 refine st rfl rfl (qa rfl rfl) rfl ?_
 refine st rfl rfl (qa rfl rfl) rfl ?_
 refine st rfl rfl (qj rfl K242 rfl (c242 a0 a1 ha1 Ka1 Ha1) (qh rfl (qh rfl qk))) rfl ?_
 refine st rfl rfl (vi rfl rfl rfl) rfl ?_
 refine st rfl rfl (qc rfl rfl) rfl ?_
 refine qe ?_
 refine qr ?_
 subst hR
 exact zb rfl (rv_g rfl)
def s177 (a0 : S23) (a1 : S151) (a2 : List S104) : Bool :=
 (s206 a2 (fun x0 => s207 x0 a1 (IntKind.i64.wrap (Int.tdiv a1.Moment 1440)) a0))
theorem c177 {g : List (Nat × List Value)} (a0 : S23) (a1 : S151) (a2 : List S104)    : Con (EG g) 177 [G.agg [G.int a0.Before, G.int a0.After, G.int a0.Notice, G.int a0.Share, G.sl 1 (List.map cStr a0.Causes), G.int a0.Off, G.int a0.Run], G.agg [G.str a1.Name, G.int a1.Moment, G.str a1.Kind], G.sl 8 (List.map S104.c a2)] (G.bool (s177 a0 a1 a2)) := by
 generalize hR : s177 a0 a1 a2 = R
 unfold s177 at hR
 refine qp Tryz.func177 rfl rfl fun w0 M0 => ?_
 refine zc (f := S104.c) (l := a2) 2 rfl fun hla2 => ?_
 refine qd ?_
 refine qb [.p, .p, .p] ?_
 refine st rfl rfl (zd rfl rfl) rfl ?_
 refine st rfl rfl (zd rfl rfl) rfl ?_
 refine st rfl rfl (qc rfl rfl) rfl ?_
 refine qe ?_
 refine qd ?_
 refine qb [.p, .p, .p, .w, .w] ?_
 refine st rfl rfl (qf rfl vw rfl) rfl ?_
 refine st rfl rfl (qi rfl ty3 rfl) rfl ?_
 refine st rfl rfl (we rfl rfl rfl (by decide)) rfl ?_
 refine st_w rfl rfl (jm 7 rfl z3 rfl rfl) rfl ?_
 refine j8 rfl rfl (zt (tv := .g (G.int (IntKind.i64.wrap (Int.tdiv a1.Moment 1440)))) rfl ty3 rfl rfl rfl rfl rfl) ?_
 refine qe ?_
 refine qd ?_
 refine wx (l := [(2, .g (G.sl 8 (List.map S104.c a2))), (3, .g (G.ref [G.int a0.Before, G.int a0.After, G.int a0.Notice, G.int a0.Share, G.sl 1 (List.map cStr a0.Causes), G.int a0.Off, G.int a0.Run])), (4, .g (G.ref [G.str a1.Name, G.int a1.Moment, G.str a1.Kind])), (7, .g (G.ref [G.int (IntKind.i64.wrap (Int.tdiv a1.Moment 1440))]))]) (m := []) 7 rfl ⟨.inl ⟨rfl, rfl⟩, .inl ⟨rfl, rfl⟩, .inl ⟨rfl, rfl⟩, .inr (qev rfl), trivial⟩ trivial rfl rfl ?_
 refine qb [.p, .p, .p, .p] ?_
 refine st rfl rfl (qa rfl rfl) rfl ?_
 refine st rfl rfl (qa0 rfl rfl rfl) rfl ?_
 refine st rfl rfl (qj rfl K206 rfl (c206 a2 (fun x0 => s207 x0 a1 (IntKind.i64.wrap (Int.tdiv a1.Moment 1440)) a0) qh5 K207 (fun x0 => c207 x0 a1 (IntKind.i64.wrap (Int.tdiv a1.Moment 1440)) a0)) (qh rfl (qh rfl qk))) rfl ?_
 refine st rfl rfl (qc rfl rfl) rfl ?_
 refine qe ?_
 refine qr ?_
 subst hR
 exact zb rfl (rv_g rfl)
def s178 (a0 : S23) (a1 : S151) (a2 : List S104) : Bool :=
 (s206 a2 (fun x0 => s209 x0 (IntKind.i64.wrap (Int.tdiv a1.Moment 1440)) a1 a0))
theorem c178 {g : List (Nat × List Value)} (a0 : S23) (a1 : S151) (a2 : List S104)    : Con (EG g) 178 [G.agg [G.int a0.Before, G.int a0.After, G.int a0.Notice, G.int a0.Share, G.sl 1 (List.map cStr a0.Causes), G.int a0.Off, G.int a0.Run], G.agg [G.str a1.Name, G.int a1.Moment, G.str a1.Kind], G.sl 8 (List.map S104.c a2)] (G.bool (s178 a0 a1 a2)) := by
 generalize hR : s178 a0 a1 a2 = R
 unfold s178 at hR
 refine qp Tryz.func178 rfl rfl fun w0 M0 => ?_
 refine zc (f := S104.c) (l := a2) 2 rfl fun hla2 => ?_
 refine qd ?_
 refine qb [.p, .p, .p] ?_
 refine st rfl rfl (zd rfl rfl) rfl ?_
 refine st rfl rfl (zd rfl rfl) rfl ?_
 refine st rfl rfl (qc rfl rfl) rfl ?_
 refine qe ?_
 refine qd ?_
 refine qb [.p, .p, .p, .w, .w] ?_
 refine st rfl rfl (qf rfl vw rfl) rfl ?_
 refine st rfl rfl (qi rfl ty3 rfl) rfl ?_
 refine st rfl rfl (we rfl rfl rfl (by decide)) rfl ?_
 refine st_w rfl rfl (jm 7 rfl z3 rfl rfl) rfl ?_
 refine j8 rfl rfl (zt (tv := .g (G.int (IntKind.i64.wrap (Int.tdiv a1.Moment 1440)))) rfl ty3 rfl rfl rfl rfl rfl) ?_
 refine qe ?_
 refine qd ?_
 refine wx (l := [(2, .g (G.sl 8 (List.map S104.c a2))), (3, .g (G.ref [G.int a0.Before, G.int a0.After, G.int a0.Notice, G.int a0.Share, G.sl 1 (List.map cStr a0.Causes), G.int a0.Off, G.int a0.Run])), (4, .g (G.ref [G.str a1.Name, G.int a1.Moment, G.str a1.Kind])), (7, .g (G.ref [G.int (IntKind.i64.wrap (Int.tdiv a1.Moment 1440))]))]) (m := []) 7 rfl ⟨.inl ⟨rfl, rfl⟩, .inl ⟨rfl, rfl⟩, .inl ⟨rfl, rfl⟩, .inr (qev rfl), trivial⟩ trivial rfl rfl ?_
 refine qb [.p, .p, .p, .p] ?_
 refine st rfl rfl (qa rfl rfl) rfl ?_
 refine st rfl rfl (qa0 rfl rfl rfl) rfl ?_
 refine st rfl rfl (qj rfl K206 rfl (c206 a2 (fun x0 => s209 x0 (IntKind.i64.wrap (Int.tdiv a1.Moment 1440)) a1 a0) qh5 K209 (fun x0 => c209 x0 (IntKind.i64.wrap (Int.tdiv a1.Moment 1440)) a1 a0)) (qh rfl (qh rfl qk))) rfl ?_
 refine st rfl rfl (qc rfl rfl) rfl ?_
 refine qe ?_
 refine qr ?_
 subst hR
 exact zb rfl (rv_g rfl)
def s126_j1 (a0 : S55) (a1 : Int) (x1 : Int) : S55 :=
 (bif (decide (a1 = 1)) || (decide (a1 = 2)) then (S55.mk (IntKind.i64.wrap (a0.Flown + 1)) x1) else (S55.mk a0.Flown x1))
def s126 (a0 : S55) (a1 : Int) : S55 :=
 (bif decide (a1 ≠ 0) then s126_j1 a0 a1 (IntKind.i64.wrap (a0.Due + 1)) else s126_j1 a0 a1 a0.Due)
theorem c126 {g : List (Nat × List Value)} (a0 : S55) (a1 : Int)    : ConB (EG g) 126 [.ptr 0 0, .g (G.int a1)] [(0, .box [.g (G.int a0.Flown), .g (G.int a0.Due)])] (G.tup []) [(0, .box [.g (G.int ((s126 a0 a1).Flown)), .g (G.int ((s126 a0 a1).Due))])] := by
 generalize hR : s126 a0 a1 = R
 unfold s126 at hR
 refine kh Tryz.func126 rfl rfl rfl fun w0 M0 x => ?_
 refine jt (γ := Int) (fun g => ([(0, .ptr 0 0), (1, .g (G.int a1))], [(0, .box [.g (G.int a0.Flown), .g (G.int g)])])) (fun g => s126_j1 a0 a1 g = R) ?_ ?_
 ·refine qd ?_
  refine qb [.p, .p] ?_
  refine st rfl rfl (qa rfl rfl) rfl ?_
  refine st rfl rfl (zz rfl rfl rfl) rfl ?_
  refine qe ?_
  refine qm _ rfl (fun h2 => ?_) (fun h2 => ?_)
  ·replace h2 : (decide (a1 ≠ 0)) = true := h2
   replace hR := zk hR h2
   refine qb [.p, .p, .p, .r, .p, .p, .p, .w] ?_
   refine st rfl rfl (qgd rfl rfl) rfl ?_
   refine st rfl rfl (qb6 rfl rfl) rfl ?_
   refine st rfl rfl (jd rfl qbc rfl) rfl ?_
   refine st_r rfl rfl (wt rfl ty3 rfl rfl rfl) rfl ?_
   refine st rfl rfl (j6 rfl rfl rfl) rfl ?_
   refine st rfl rfl (qb6 rfl rfl) rfl ?_
   refine st rfl rfl (jd rfl qbc rfl) rfl ?_
   refine j8 rfl rfl (zt (tv := .g (G.int (IntKind.i64.wrap (a0.Due + 1)))) rfl ty3 rfl rfl rfl rfl rfl) ?_
   refine qe ?_
   exact ⟨rfl, IntKind.i64.wrap (a0.Due + 1), ⟨rfl, rfl, trivial⟩, ⟨rfl, trivial⟩, rfl, hR, trivial⟩
  ·replace h2 : (decide (a1 ≠ 0)) = false := h2
   replace hR := zl hR h2
   refine qo ?_
   exact ⟨rfl, a0.Due, ⟨rfl, rfl, trivial⟩, ⟨rfl, trivial⟩, rfl, hR, trivial⟩
 ·rintro x1 hR
  replace hR : s126_j1 a0 a1 x1 = R := hR
  unfold s126_j1 at hR
  refine qd ?_
  refine qb [.p, .p, .p, .p, .p, .p] ?_
  refine st rfl rfl (qa rfl rfl) rfl ?_
  refine st rfl rfl (jq rfl rfl rfl) rfl ?_
  refine st rfl rfl (qa rfl rfl) rfl ?_
  refine st_g rfl rfl rfl (qg _ _) (fun h => qa rfl rfl) rfl ?_
  refine st_g rfl rfl rfl (qg _ _) (fun h => jq rfl (gd h rfl) rfl) rfl ?_
  refine st rfl rfl (z8 rfl rfl rfl rfl) rfl ?_
  refine qe ?_
  refine qm _ rfl (fun h1 => ?_) (fun h1 => ?_)
  ·replace h1 : ((decide (a1 = 1)) || (decide (a1 = 2))) = true := h1
   replace hR := zk hR h1
   refine qb [.p, .p, .p, .r, .p, .p, .p, .w] ?_
   refine st rfl rfl (qgd rfl rfl) rfl ?_
   refine st rfl rfl (qb6 rfl rfl) rfl ?_
   refine st rfl rfl (jd rfl qby rfl) rfl ?_
   refine st_r rfl rfl (wt rfl ty3 rfl rfl rfl) rfl ?_
   refine st rfl rfl (j6 rfl rfl rfl) rfl ?_
   refine st rfl rfl (qb6 rfl rfl) rfl ?_
   refine st rfl rfl (jd rfl qby rfl) rfl ?_
   refine j8 rfl rfl (zt (tv := .g (G.int (IntKind.i64.wrap (a0.Flown + 1)))) rfl ty3 rfl rfl rfl rfl rfl) ?_
   refine qe ?_
   subst hR
   show ResOk _ _ _ _ ∧ MemL _ _
   exact ⟨res0 rfl, ⟨rfl, trivial⟩⟩
  ·replace h1 : ((decide (a1 = 1)) || (decide (a1 = 2))) = false := h1
   replace hR := zl hR h1
   refine qo ?_
   subst hR
   show ResOk _ _ _ _ ∧ MemL _ _
   exact ⟨res0 rfl, ⟨rfl, trivial⟩⟩
end Go.Sim
set_option linter.unusedSimpArgs false
set_option linter.unusedVariables false
set_option maxRecDepth 10000
namespace Go.Sim
open Go.Proofs
def s40 (a0 : S45) : Int :=
 (bif (decide ((s109 a0.fFrom) ≠ 0)) || (decide ((s109 a0.fTo) ≠ 0)) then 3 else (bif decide (a0.fTo < a0.fFrom) then 11 else (bif decide (400 < IntKind.i64.wrap (a0.fTo - a0.fFrom)) then 4 else (s90 a0.Days 1 127))))
theorem c40 {g : List (Nat × List Value)} (a0 : S45)    : Con (EG g) 40 [G.agg [G.int a0.fFrom, G.int a0.fTo, G.int a0.Days]] (G.int (s40 a0)) := by
 generalize hR : s40 a0 = R
 unfold s40 at hR
 refine qp Tryz.func40 rfl rfl fun w0 M0 => ?_
 refine qd ?_
 refine qb [.p, .p] ?_
 refine st rfl rfl (zd rfl rfl) rfl ?_
 refine st rfl rfl (qc rfl rfl) rfl ?_
 refine qe ?_
 refine qd ?_
 refine qd ?_
 refine qb [.p, .p, .p, .p, .p, .p, .p, .p, .p, .p] ?_
 refine st rfl rfl (qf rfl qbz rfl) rfl ?_
 refine st rfl rfl (qi rfl ty3 rfl) rfl ?_
 refine st rfl rfl (qj rfl K109 rfl (c109 a0.fFrom) (qh rfl qk)) rfl ?_
 refine st rfl rfl (zz rfl rfl rfl) rfl ?_
 refine st rfl rfl (qa rfl rfl) rfl ?_
 refine st_g rfl rfl rfl (qg _ _) (fun h => qf rfl qb0 rfl) rfl ?_
 refine st_g rfl rfl rfl (qg _ _) (fun h => qi rfl ty3 (gd h rfl)) rfl ?_
 refine st_g rfl rfl rfl (qg _ _) (fun h => qj rfl K109 rfl (c109 a0.fTo) (qh (gd h rfl) qk)) rfl ?_
 refine st_g rfl rfl rfl (qg _ _) (fun h => zz rfl (gd h rfl) rfl) rfl ?_
 refine st rfl rfl (z8 rfl rfl rfl rfl) rfl ?_
 refine qe ?_
 refine qm _ rfl (fun h1 => ?_) (fun h1 => ?_)
 ·replace h1 : ((decide ((s109 a0.fFrom) ≠ 0)) || (decide ((s109 a0.fTo) ≠ 0))) = true := h1
  replace hR := zk hR h1
  refine qd ?_
  refine qb [.p] ?_
  refine st rfl rfl (qc rfl rfl) rfl ?_
  refine qe ?_
  refine qr ?_
  subst hR
  exact zb rfl (rv_g rfl)
 ·replace h1 : ((decide ((s109 a0.fFrom) ≠ 0)) || (decide ((s109 a0.fTo) ≠ 0))) = false := h1
  replace hR := zl hR h1
  refine qo ?_
  refine qd ?_
  refine qd ?_
  refine qb [.p, .p, .p, .p, .p] ?_
  refine st rfl rfl (qf rfl qb0 rfl) rfl ?_
  refine st rfl rfl (qi rfl ty3 rfl) rfl ?_
  refine st rfl rfl (qf rfl qbz rfl) rfl ?_
  refine st rfl rfl (qi rfl ty3 rfl) rfl ?_
  refine st rfl rfl (ze rfl rfl rfl) rfl ?_
  refine qe ?_
  refine qm _ rfl (fun h2 => ?_) (fun h2 => ?_)
  ·replace h2 : (decide (a0.fTo < a0.fFrom)) = true := h2
   replace hR := zk hR h2
   refine qd ?_
   refine qb [.p] ?_
   refine st rfl rfl (qc rfl rfl) rfl ?_
   refine qe ?_
   refine qr ?_
   subst hR
   exact zb rfl (rv_g rfl)
  ·replace h2 : (decide (a0.fTo < a0.fFrom)) = false := h2
   replace hR := zl hR h2
   refine qo ?_
   refine qd ?_
   refine qd ?_
   refine qb [.p, .p, .p, .p, .p, .p] ?_
   refine st rfl rfl (qf rfl qb0 rfl) rfl ?_
   refine st rfl rfl (qi rfl ty3 rfl) rfl ?_
   refine st rfl rfl (qf rfl qbz rfl) rfl ?_
   refine st rfl rfl (qi rfl ty3 rfl) rfl ?_
   refine st rfl rfl (qaw rfl rfl rfl) rfl ?_
   refine st rfl rfl (zy rfl rfl rfl) rfl ?_
   refine qe ?_
   refine qm _ rfl (fun h3 => ?_) (fun h3 => ?_)
   ·replace h3 : (decide (400 < IntKind.i64.wrap (a0.fTo - a0.fFrom))) = true := h3
    replace hR := zk hR h3
    refine qd ?_
    refine qb [.p] ?_
    refine st rfl rfl (qc rfl rfl) rfl ?_
    refine qe ?_
    refine qr ?_
    subst hR
    exact zb rfl (rv_g rfl)
   ·replace h3 : (decide (400 < IntKind.i64.wrap (a0.fTo - a0.fFrom))) = false := h3
    replace hR := zl hR h3
    refine qo ?_
    refine qd ?_
    refine qb [.p, .p, .p, .p] ?_
    refine st rfl rfl (qf rfl qnn rfl) rfl ?_
    refine st rfl rfl (qi rfl ty3 rfl) rfl ?_
    refine st rfl rfl (qj rfl K90 rfl (c90 a0.Days 1 127) (qh rfl (qh rfl (qh rfl qk)))) rfl ?_
    refine st rfl rfl (qc rfl rfl) rfl ?_
    refine qe ?_
    refine qr ?_
    subst hR
    exact zb rfl (rv_g rfl)
def s180 (a0 : Int) : Int :=
 Int.tmod (IntKind.i64.wrap (a0 + 5)) 7
theorem c180 {g : List (Nat × List Value)} (a0 : Int)    : Con (EG g) 180 [G.int a0] (G.int (s180 a0)) := by
 generalize hR : s180 a0 = R
 unfold s180 at hR
 refine qp Tryz.func180 rfl rfl fun w0 M0 => ?_
 refine qd ?_
 refine qb [.p] ?_
 refine st rfl rfl (qc rfl rfl) rfl ?_
 refine qe ?_
 refine qd ?_
 refine qb [.p, .p, .p, .p] ?_
 refine st rfl rfl (qa rfl rfl) rfl ?_
 refine st rfl rfl (j6 rfl rfl rfl) rfl ?_
 refine st rfl rfl (qem rfl rfl rfl (by decide)) rfl ?_
 refine st rfl rfl (qc rfl rfl) rfl ?_
 refine qe ?_
 refine qr ?_
 subst hR
 exact zb rfl (rv_g rfl)
end Go.Sim
namespace Go.Sim
theorem qtj (x : Int) : s180 x ≤ 7 := by
 unfold s180
 generalize IntKind.i64.wrap (x + 5) = y
 have := Int.tmod_lt_of_pos y (show (0 : Int) < 7 by decide)
 omega
end Go.Sim
set_option linter.unusedSimpArgs false
set_option linter.unusedVariables false
set_option maxRecDepth 10000
namespace Go.Sim
open Go.Proofs
def s192_l1  : Nat → Int → Int → Bool
 | 0, x1, x2 => decide (Int.tmod x1 2 = 1)
 | k4 + 1, x1, x2 => s192_l1 k4 (IntKind.i64.wrap (Int.tdiv x1 2)) (x2 + 1)
def s192 (a0 : Int) (a1 : Int) : Bool :=
 s192_l1 ((a1 - 0).toNat) a0 0
theorem c192 {g : List (Nat × List Value)} (a0 : Int) (a1 : Int)  (hw : a1 ≤ 7)  : Con (EG g) 192 [G.int a0, G.int a1] (G.bool (s192 a0 a1)) := by
 generalize hR : s192 a0 a1 = R
 unfold s192 at hR
 refine qp Tryz.func192 rfl rfl fun w0 M0 => ?_
 refine qd ?_
 refine qb [.p] ?_
 refine st rfl rfl (qc rfl rfl) rfl ?_
 refine qe ?_
 refine qd ?_
 refine qd ?_
 refine qb [.p] ?_
 refine st rfl rfl (qc rfl rfl) rfl ?_
 refine qe ?_
 refine qn ?_
 refine qx (γ := Nat × Int × Int) (fun g => ([(0, .g (G.int g.2.1)), (1, .g (G.int a1)), (5, .g (G.int g.2.2))], [])) (fun g => g.1 = (a1 - g.2.2).toNat ∧ 0 ≤ g.2.2 ∧ s192_l1 g.1 g.2.1 g.2.2 = R) (fun g => g.1) ⟨rfl, ((a1 - 0).toNat, a0, 0), ⟨rfl, rfl, rfl, trivial⟩, trivial, rfl, ⟨rfl, (by first | omega | (dsimp only; omega) | simp), hR⟩, trivial⟩ ?_
 ·rintro ⟨k4, x1, x2⟩ ⟨hk1, iv1_0, hR⟩
  replace hk1 : k4 = (a1 - x2).toNat := hk1
  replace hR : s192_l1 k4 x1 x2 = R := hR
  replace iv1_0 : 0 ≤ x2 := iv1_0
  refine qd ?_
  refine qd ?_
  refine qb [.p, .p, .p] ?_
  refine st rfl rfl (qa rfl rfl) rfl ?_
  refine st rfl rfl (qa rfl rfl) rfl ?_
  refine st rfl rfl (ze rfl rfl rfl) rfl ?_
  refine qe ?_
  refine qm _ rfl (fun h1 => ?_) (fun h1 => ?_)
  ·replace h1 : (decide (x2 < a1)) = true := h1
   replace h1 := decT h1
   obtain ⟨k4, rfl⟩ : ∃ m, k4 = m + 1 := ⟨k4 - 1, by omega⟩
   rw [s192_l1] at hR
   try dsimp only at hR
   refine qo ?_
   refine qd ?_
   refine qn ?_
   refine qb [.p, .p, .p] ?_
   refine st rfl rfl (qa rfl rfl) rfl ?_
   refine st rfl rfl (we rfl rfl rfl (by decide)) rfl ?_
   refine st rfl rfl (qc rfl rfl) rfl ?_
   refine qe ?_
   refine qb [.p, .p, .p] ?_
   refine st rfl rfl (qa rfl rfl) rfl ?_
   refine st rfl rfl (zj rfl rfl rfl (by (try dsimp only); unfold I64; omega)) rfl ?_
   refine st rfl rfl (qc rfl rfl) rfl ?_
   refine qe ?_
   exact ⟨rfl, (k4, IntKind.i64.wrap (Int.tdiv x1 2), x2 + 1), ⟨rfl, rfl, rfl, trivial⟩, trivial, rfl, ⟨(by first | omega | (dsimp only; omega) | (simp at *; omega)), (by first | omega | (dsimp only; omega) | (simp at *; omega)), hR⟩, by simp⟩
  ·replace h1 : (decide (x2 < a1)) = false := h1
   replace h1 := decF h1
   obtain rfl : k4 = 0 := by omega
   rw [s192_l1] at hR
   refine zg ?_
   refine qd ?_
   refine qb [.p, .p, .p, .p] ?_
   refine st rfl rfl (qa rfl rfl) rfl ?_
   refine st rfl rfl (qem rfl rfl rfl (by decide)) rfl ?_
   refine st rfl rfl (jq rfl rfl rfl) rfl ?_
   refine st rfl rfl (qc rfl rfl) rfl ?_
   refine qe ?_
   refine qr ?_
   subst hR
   exact zb rfl (rv_g rfl)
def s157 (a0 : S45) (a1 : Int) : Bool :=
 ((decide (a0.fFrom ≤ a1)) && (decide (a1 ≤ a0.fTo))) && (s192 a0.Days (s180 a1))
theorem c157 {g : List (Nat × List Value)} (a0 : S45) (a1 : Int)    : Con (EG g) 157 [G.agg [G.int a0.fFrom, G.int a0.fTo, G.int a0.Days], G.int a1] (G.bool (s157 a0 a1)) := by
 generalize hR : s157 a0 a1 = R
 unfold s157 at hR
 refine qp Tryz.func157 rfl rfl fun w0 M0 => ?_
 refine qd ?_
 refine qb [.p, .p] ?_
 refine st rfl rfl (zd rfl rfl) rfl ?_
 refine st rfl rfl (qc rfl rfl) rfl ?_
 refine qe ?_
 refine qd ?_
 refine zw [.p, .p, .p, .p, .p, .p, .p, .p, .p, .p, .p, .p, .p, .p, .p, .p, .p, .p] (by kernel_rfl) ?_
 refine st rfl rfl (qa rfl rfl) rfl ?_
 refine st rfl rfl (qf rfl qbz rfl) rfl ?_
 refine st rfl rfl (qi rfl ty3 rfl) rfl ?_
 refine st rfl rfl (vi rfl rfl rfl) rfl ?_
 refine st rfl rfl (qa rfl rfl) rfl ?_
 refine st_g rfl rfl rfl (qg _ _) (fun h => qa rfl rfl) rfl ?_
 refine st_g rfl rfl rfl (qg _ _) (fun h => qf rfl qb0 rfl) rfl ?_
 refine st_g rfl rfl rfl (qg _ _) (fun h => qi rfl ty3 (gd h rfl)) rfl ?_
 refine st_g rfl rfl rfl (qg _ _) (fun h => kg rfl (gd h rfl) (gd h rfl)) rfl ?_
 refine st rfl rfl (zf rfl rfl rfl rfl) rfl ?_
 refine st rfl rfl (qa rfl rfl) rfl ?_
 refine st_g rfl rfl rfl (qg _ _) (fun h => qf rfl qnn rfl) rfl ?_
 refine st_g rfl rfl rfl (qg _ _) (fun h => qi rfl ty3 (gd h rfl)) rfl ?_
 refine st_g rfl rfl rfl (qg _ _) (fun h => qa rfl rfl) rfl ?_
 refine st_g rfl rfl rfl (qg _ _) (fun h => qj rfl K180 rfl (c180 a1) (qh (gd h rfl) qk)) rfl ?_
 refine st_g rfl rfl rfl (qg _ _) (fun h => qj rfl K192 rfl (c192 a0.Days (s180 a1) (qtj _)) (qh (gd h rfl) (qh (gd h rfl) qk))) rfl ?_
 refine st rfl rfl (zf rfl rfl rfl rfl) rfl ?_
 refine st rfl rfl (qc rfl rfl) rfl ?_
 refine qe ?_
 refine qr ?_
 subst hR
 exact zb rfl (rv_g rfl)
def s104_j1 (rec1 : (List Int) → Int → List Int) (x2 : Int) (x4 : List Int) : List Int :=
 rec1 x4 (x2 + 1)
def s104_l1 (a0 : S45) : Nat → (List Int) → Int → List Int
 | 0, x1, x2 => x1
 | k3 + 1, x1, x2 => (bif (s157 a0 x2) then s104_j1 (fun z0_ z1_ => s104_l1 a0 k3 z0_ z1_) x2 (x1 ++ [x2]) else s104_j1 (fun z0_ z1_ => s104_l1 a0 k3 z0_ z1_) x2 x1)
def s104 (a0 : S45) : List Int :=
 s104_l1 a0 (((a0.fTo + 1) - a0.fFrom).toNat) [] a0.fFrom
theorem c104 {g : List (Nat × List Value)} (a0 : S45)  (hp0 : 0 ≤ a0.fFrom) (hp1 : a0.fTo ≤ 1000000)  : Con (EG g) 104 [G.agg [G.int a0.fFrom, G.int a0.fTo, G.int a0.Days]] (G.sl 1 (List.map cInt (s104 a0))) := by
 generalize hR : s104 a0 = R
 unfold s104 at hR
 refine qp Tryz.func104 rfl rfl fun w0 M0 => ?_
 refine qd ?_
 refine qb [.p, .w] ?_
 refine st rfl rfl (zd rfl rfl) rfl ?_
 refine st_w rfl rfl (zu 2 3 1 rfl rfl rfl) rfl ?_
 refine qe ?_
 refine qd ?_
 refine qb [.w] ?_
 refine st_w rfl rfl (zu 3 3 1 rfl rfl rfl) rfl ?_
 refine qe ?_
 refine qd ?_
 refine qd ?_
 refine qb [.p, .p, .p] ?_
 refine st rfl rfl (qf rfl qbz rfl) rfl ?_
 refine st rfl rfl (qi rfl ty3 rfl) rfl ?_
 refine st rfl rfl (qc rfl rfl) rfl ?_
 refine qe ?_
 refine qn ?_
 refine qx (γ := Nat × (List Int) × Int) (fun g => ([(1, .g (G.ref [G.int a0.fFrom, G.int a0.fTo, G.int a0.Days])), (3, .osl 3 1 0 (List.length g.2.1)), (4, .g (G.int g.2.2))], [(3, .arr 3 1 (List.map cInt g.2.1))])) (fun g => g.1 = ((a0.fTo + 1) - g.2.2).toNat ∧ a0.fFrom ≤ g.2.2 ∧ g.2.1.length ≤ (g.2.2 - a0.fFrom).toNat ∧ s104_l1 a0 g.1 g.2.1 g.2.2 = R) (fun g => g.1) ⟨rfl, (((a0.fTo + 1) - a0.fFrom).toNat, [], a0.fFrom), ⟨rfl, rfl, rfl, trivial⟩, ⟨rfl, trivial⟩, rfl, ⟨rfl, (by first | omega | (dsimp only; omega) | simp), (by first | omega | (dsimp only; omega) | simp), hR⟩, trivial⟩ ?_
 ·rintro ⟨k3, x1, x2⟩ ⟨hk1, iv1_0, iv1_1, hR⟩
  replace hk1 : k3 = ((a0.fTo + 1) - x2).toNat := hk1
  replace hR : s104_l1 a0 k3 x1 x2 = R := hR
  replace iv1_0 : a0.fFrom ≤ x2 := iv1_0
  replace iv1_1 : x1.length ≤ (x2 - a0.fFrom).toNat := iv1_1
  refine qd ?_
  refine qd ?_
  refine qb [.p, .p, .p, .p] ?_
  refine st rfl rfl (qa rfl rfl) rfl ?_
  refine st rfl rfl (qf rfl qb0 rfl) rfl ?_
  refine st rfl rfl (qi rfl ty3 rfl) rfl ?_
  refine st rfl rfl (kg rfl rfl rfl) rfl ?_
  refine qe ?_
  refine qm _ rfl (fun h1 => ?_) (fun h1 => ?_)
  ·replace h1 : (decide (x2 ≤ a0.fTo)) = true := h1
   replace h1 := decT h1
   obtain ⟨k3, rfl⟩ : ∃ m, k3 = m + 1 := ⟨k3 - 1, by omega⟩
   rw [s104_l1] at hR
   try dsimp only at hR
   refine qo ?_
   refine jt (γ := (List Int)) (fun g => ([(1, .g (G.ref [G.int a0.fFrom, G.int a0.fTo, G.int a0.Days])), (3, .osl 3 1 0 (List.length g)), (4, .g (G.int x2))], [(3, .arr 3 1 (List.map cInt g))])) (fun g => g.length ≤ (x2 + 1 - a0.fFrom).toNat ∧ s104_j1 (fun z0_ z1_ => s104_l1 a0 k3 z0_ z1_) x2 g = R) ?_ ?_
   ·refine qn ?_
    refine qd ?_
    refine qb [.p, .p, .p] ?_
    refine st rfl rfl (qt rfl ty46 rfl rfl rfl) rfl ?_
    refine st rfl rfl (qa rfl rfl) rfl ?_
    refine st rfl rfl (qj rfl K157 rfl (c157 a0 x2) (qh rfl (qh rfl qk))) rfl ?_
    refine qe ?_
    refine qm _ rfl (fun h3 => ?_) (fun h3 => ?_)
    ·replace h3 : ((s157 a0 x2)) = true := h3
     replace hR := zk hR h3
     try simp only [Bool.or_eq_true, Bool.and_eq_true, Bool.or_eq_false_iff, Bool.and_eq_false_iff, Bool.not_eq_true', Bool.not_eq_false', decide_eq_true_eq, decide_eq_false_iff_not] at h3
     refine qb [.p, .p, .p, .k, .p] ?_
     refine st rfl rfl (qq rfl rfl) rfl ?_
     refine st rfl rfl (qa rfl rfl) rfl ?_
     refine st rfl rfl (qu rfl Tryz.underlying82 ty3 z3 rfl (qw rfl z4) rfl (by simp []) (by decide)) rfl ?_
     refine st_k rfl rfl (z5 (f := cInt) (out := x1) (new := [x2]) rfl qie rfl rfl (kc rfl (vc (by decide) (by simp []))) (vp rfl) (by simp; omega)) rfl ?_
     refine st rfl rfl (qy rfl rfl) rfl ?_
     refine qe ?_
     exact ⟨rfl, x1 ++ [x2], ⟨rfl, rfl, rfl, trivial⟩, ⟨rfl, trivial⟩, rfl, ⟨(by first | omega | (dsimp only; omega) | (simp at *; omega)), hR⟩, trivial⟩
    ·replace h3 : ((s157 a0 x2)) = false := h3
     replace hR := zl hR h3
     try simp only [Bool.or_eq_true, Bool.and_eq_true, Bool.or_eq_false_iff, Bool.and_eq_false_iff, Bool.not_eq_true', Bool.not_eq_false', decide_eq_true_eq, decide_eq_false_iff_not] at h3
     refine qo ?_
     exact ⟨rfl, x1, ⟨rfl, rfl, rfl, trivial⟩, ⟨rfl, trivial⟩, rfl, ⟨(by first | omega | (dsimp only; omega) | (simp at *; omega)), hR⟩, trivial⟩
   ·rintro x4 ⟨jv1_0, hR⟩
    replace jv1_0 : x4.length ≤ (x2 + 1 - a0.fFrom).toNat := jv1_0
    replace hR : s104_j1 (fun z0_ z1_ => s104_l1 a0 k3 z0_ z1_) x2 x4 = R := hR
    unfold s104_j1 at hR
    refine qb [.p, .p, .p] ?_
    refine st rfl rfl (qa rfl rfl) rfl ?_
    refine st rfl rfl (zj rfl rfl rfl (by (try dsimp only); unfold I64; omega)) rfl ?_
    refine st rfl rfl (qc rfl rfl) rfl ?_
    refine qe ?_
    exact ⟨rfl, (k3, x4, x2 + 1), ⟨rfl, rfl, rfl, trivial⟩, ⟨rfl, trivial⟩, rfl, ⟨(by first | omega | (dsimp only; omega) | (simp at *; omega)), (by first | omega | (dsimp only; omega) | (simp at *; omega)), (by first | omega | (dsimp only; omega) | (simp at *; omega)), hR⟩, by simp⟩
  ·replace h1 : (decide (x2 ≤ a0.fTo)) = false := h1
   replace h1 := decF h1
   obtain rfl : k3 = 0 := by omega
   rw [s104_l1] at hR
   refine zg ?_
   refine qd ?_
   refine qb [.p, .p] ?_
   refine st rfl rfl (qq rfl rfl) rfl ?_
   refine st rfl rfl (qy rfl rfl) rfl ?_
   refine qe ?_
   refine qr ?_
   subst hR
   exact zb rfl (wd rfl rfl)
def s32_l1 (a1 : List S151) : List S151 → Nat → Option Bool
 | [], k2 => some true
 | y3 :: t4, k2 => bindO (ixO a1 ((k2 : Nat) : Int)) fun y5 => (bif !(eqAnd [decide (y3.Name = y5.Name), decide (y3.Moment = y5.Moment), decide (y3.Kind = y5.Kind)]) then some false else s32_l1 a1 t4 (k2 + 1))
def s32 (a0 : List S151) (a1 : List S151) : Option Bool :=
 (bif decide ((List.length a0 : Int) ≠ (List.length a1 : Int)) then some false else s32_l1 a1 a0 0)
theorem c32 {g : List (Nat × List Value)} (a0 : List S151) (a1 : List S151) {R : Bool}   (hR : s32 a0 a1 = some R) : Con (EG g) 32 [G.sl 3 (List.map S151.c a0), G.sl 3 (List.map S151.c a1)] (G.bool R) := by
 unfold s32 at hR
 refine qp Tryz.func32 rfl rfl fun w0 M0 => ?_
 refine zc (f := S151.c) (l := a0) 0 rfl fun hla0 => ?_
 refine zc (f := S151.c) (l := a1) 1 rfl fun hla1 => ?_
 refine qd ?_
 refine qb [.p] ?_
 refine st rfl rfl (qc rfl rfl) rfl ?_
 refine qe ?_
 refine qd ?_
 refine qd ?_
 refine qb [.p, .p, .p, .p, .p] ?_
 refine st rfl rfl (qa rfl rfl) rfl ?_
 refine st rfl rfl (q9 (f := S151.c) (l := a0) rfl Tryz.underlying32 rfl) rfl ?_
 refine st rfl rfl (qa rfl rfl) rfl ?_
 refine st rfl rfl (q9 (f := S151.c) (l := a1) rfl Tryz.underlying32 rfl) rfl ?_
 refine st rfl rfl (zz rfl rfl rfl) rfl ?_
 refine qe ?_
 refine qm _ rfl (fun h1 => ?_) (fun h1 => ?_)
 ·replace h1 : (decide ((List.length a0 : Int) ≠ (List.length a1 : Int))) = true := h1
  replace hR := zk hR h1
  refine qd ?_
  refine qb [.p] ?_
  refine st rfl rfl (qc rfl rfl) rfl ?_
  refine qe ?_
  refine qr ?_
  obtain rfl := Option.some.inj hR
  exact zb rfl (rv_g rfl)
 ·replace h1 : (decide ((List.length a0 : Int) ≠ (List.length a1 : Int))) = false := h1
  replace hR := zl hR h1
  try simp only [decide_eq_false_iff_not] at h1
  refine qo ?_
  refine qd ?_
  refine qd ?_
  refine qb [.p] ?_
  refine st rfl rfl (qc rfl rfl) rfl ?_
  refine qe ?_
  refine qn ?_
  refine qx (γ := Nat × (List S151)) (fun g => ([(0, .g (G.sl 3 (List.map S151.c a0))), (1, .g (G.sl 3 (List.map S151.c a1))), (5, .g (G.int ((g.1 : Nat) : Int)))], [])) (fun g => a0.drop g.1 = g.2 ∧ s32_l1 a1 g.2 g.1 = some R) (fun g => List.length g.2) ⟨rfl, (0, a0), ⟨rfl, rfl, rfl, trivial⟩, trivial, rfl, ⟨rfl, hR⟩, trivial⟩ ?_
  ·rintro ⟨k2, t4⟩ ⟨hd, hR⟩
   replace hd : a0.drop k2 = t4 := hd
   replace hR : s32_l1 a1 t4 k2 = some R := hR
   refine qd ?_
   refine qd ?_
   refine qb [.p, .p, .p, .p] ?_
   refine st rfl rfl (qa rfl rfl) rfl ?_
   refine st rfl rfl (qa rfl rfl) rfl ?_
   refine st rfl rfl (q9 (f := S151.c) (l := a0) rfl Tryz.underlying32 rfl) rfl ?_
   refine st rfl rfl (ze rfl rfl rfl) rfl ?_
   refine qe ?_
   refine zc (f := S151.c) (l := a0) 0 rfl fun hlz1 => ?_
   refine qm _ rfl (fun h2 => ?_) (fun h2 => ?_)
   ·replace h2 : (decide (((k2 : Nat) : Int) < (List.length a0 : Int))) = true := h2
    obtain ⟨y3, t4, rfl, hx1, hd⟩ := zh hd (decT h2)
    replace h2 := decT h2
    rw [s32_l1] at hR
    try dsimp only at hR
    refine qo ?_
    refine qd ?_
    refine qn ?_
    refine qd ?_
    obtain ⟨y5, by5, hR⟩ := ql hR
    refine zw [.p, .p, .p, .p, .p, .p, .p, .p, .p] (by kernel_rfl) ?_
    refine st rfl rfl (qa rfl rfl) rfl ?_
    refine st rfl rfl (qa rfl rfl) rfl ?_
    refine st rfl rfl (zi (f := S151.c) (l := a0) (a := y3) rfl Tryz.underlying32 km rfl rfl (Int.natCast_nonneg _) hx1) rfl ?_
    refine st rfl rfl (qt rfl km rfl rfl rfl) rfl ?_
    refine st rfl rfl (qa rfl rfl) rfl ?_
    refine st rfl rfl (qa rfl rfl) rfl ?_
    refine st rfl rfl (zi (f := S151.c) (l := a1) (a := y5) rfl Tryz.underlying32 km rfl rfl (z7 by5) (za by5)) rfl ?_
    refine st rfl rfl (qt rfl km rfl rfl rfl) rfl ?_
    refine st rfl rfl (qes [.string y3.Name, .int .i64 y3.Moment, .string y3.Kind] [.string y5.Name, .int .i64 y5.Moment, .string y5.Kind] rfl qsg rfl rfl rfl rfl rfl) rfl ?_
    refine qe ?_
    refine qm _ rfl (fun h4 => ?_) (fun h4 => ?_)
    ·replace h4 : (!(eqAnd [decide (y3.Name = y5.Name), decide (y3.Moment = y5.Moment), decide (y3.Kind = y5.Kind)])) = true := h4
     replace hR := zk hR h4
     refine qd ?_
     refine qb [.p] ?_
     refine st rfl rfl (qc rfl rfl) rfl ?_
     refine qe ?_
     refine qr ?_
     obtain rfl := Option.some.inj hR
     exact zb rfl (rv_g rfl)
    ·replace h4 : (!(eqAnd [decide (y3.Name = y5.Name), decide (y3.Moment = y5.Moment), decide (y3.Kind = y5.Kind)])) = false := h4
     replace hR := zl hR h4
     try simp only [Bool.or_eq_true, Bool.and_eq_true, Bool.or_eq_false_iff, Bool.and_eq_false_iff, Bool.not_eq_true', Bool.not_eq_false', decide_eq_true_eq, decide_eq_false_iff_not] at h4
     refine qo ?_
     refine qb [.p, .p, .p] ?_
     refine st rfl rfl (qa rfl rfl) rfl ?_
     refine st rfl rfl (zj rfl rfl rfl (by unfold I64; omega)) rfl ?_
     refine st rfl rfl (qc rfl rfl) rfl ?_
     refine qe ?_
     exact ⟨rfl, (k2 + 1, t4), ⟨rfl, rfl, rfl, trivial⟩, trivial, rfl, ⟨hd, hR⟩, by simp⟩
   ·replace h2 : (decide (((k2 : Nat) : Int) < (List.length a0 : Int))) = false := h2
    obtain rfl := zm hd (decF h2)
    rw [s32_l1] at hR
    refine zg ?_
    refine qd ?_
    refine qb [.p] ?_
    refine st rfl rfl (qc rfl rfl) rfl ?_
    refine qe ?_
    refine qr ?_
    obtain rfl := Option.some.inj hR
    exact zb rfl (rv_g rfl)
def s30 (a0 : ByteArray) (a1 : ByteArray) (a2 : S45) (a3 : Int) : Int :=
 (s89 [(s95 a0), (s97 a1), (s40 a2), (s90 a3 0 1439)])
theorem c30 {g : List (Nat × List Value)} (a0 : ByteArray) (a1 : ByteArray) (a2 : S45) (a3 : Int)    : Con (EG g) 30 [G.str a0, G.str a1, G.agg [G.int a2.fFrom, G.int a2.fTo, G.int a2.Days], G.int a3] (G.int (s30 a0 a1 a2 a3)) := by
 generalize hR : s30 a0 a1 a2 a3 = R
 unfold s30 at hR
 refine qp Tryz.func30 rfl rfl fun w0 M0 => ?_
 refine qd ?_
 refine qb [.p, .p] ?_
 refine st rfl rfl (zd rfl rfl) rfl ?_
 refine st rfl rfl (qc rfl rfl) rfl ?_
 refine qe ?_
 refine qd ?_
 refine zw [.p, .p, .p, .p, .p, .p, .p, .p, .p, .p, .p] (by kernel_rfl) ?_
 refine st rfl rfl (qa rfl rfl) rfl ?_
 refine st rfl rfl (qj rfl K95 rfl (c95 a0) (qh rfl qk)) rfl ?_
 refine st rfl rfl (qa rfl rfl) rfl ?_
 refine st rfl rfl (qj rfl K97 rfl (c97 a1) (qh rfl qk)) rfl ?_
 refine st rfl rfl (qt rfl ty46 rfl rfl rfl) rfl ?_
 refine st rfl rfl (qj rfl K40 rfl (c40 a2) (qh rfl qk)) rfl ?_
 refine st rfl rfl (qa rfl rfl) rfl ?_
 refine st rfl rfl (qj rfl K90 rfl (c90 a3 0 1439) (qh rfl (qh rfl (qh rfl qk)))) rfl ?_
 refine st rfl rfl (qu rfl Tryz.underlying82 ty3 z3 rfl (qw rfl (qw rfl (qw rfl (qw rfl z4)))) rfl (by simp []) (by decide)) rfl ?_
 refine st rfl rfl (qj rfl K89 rfl (c89 [(s95 a0), (s97 a1), (s40 a2), (s90 a3 0 1439)]) (qh rfl qk)) rfl ?_
 refine st rfl rfl (qc rfl rfl) rfl ?_
 refine qe ?_
 refine qr ?_
 subst hR
 exact zb rfl (rv_g rfl)
def s31_l1 (a0 : ByteArray) (a1 : ByteArray) (a3 : Int) : List Int → Nat → (List S151) → List S151
 | [], k3, x1 => x1
 | y4 :: t5, k3, x1 => s31_l1 a0 a1 a3 t5 (k3 + 1) (x1 ++ [(S151.mk a0 (IntKind.i64.wrap ((IntKind.i64.wrap (1440 * y4)) + a3)) a1)])
def s31 (a0 : ByteArray) (a1 : ByteArray) (a2 : S45) (a3 : Int) : List S151 :=
 s31_l1 a0 a1 a3 (s104 a2) 0 []
theorem c31 {g : List (Nat × List Value)} (a0 : ByteArray) (a1 : ByteArray) (a2 : S45) (a3 : Int)  (hp0 : 0 ≤ a2.fFrom) (hp1 : a2.fTo ≤ 1000000) (hm0 : (s104 a2).length ≤ 1000001)  : Con (EG g) 31 [G.str a0, G.str a1, G.agg [G.int a2.fFrom, G.int a2.fTo, G.int a2.Days], G.int a3] (G.sl 3 (List.map S151.c (s31 a0 a1 a2 a3))) := by
 generalize hR : s31 a0 a1 a2 a3 = R
 unfold s31 at hR
 refine qp Tryz.func31 rfl rfl fun w0 M0 => ?_
 refine qd ?_
 refine qb [.p, .w] ?_
 refine st rfl rfl (zd rfl rfl) rfl ?_
 refine st_w rfl rfl (zu 8 160 3 rfl rfl rfl) rfl ?_
 refine qe ?_
 refine qd ?_
 refine qb [.w] ?_
 refine st_w rfl rfl (zu 9 160 3 rfl rfl rfl) rfl ?_
 refine qe ?_
 refine qd ?_
 refine qb [.p, .p, .p] ?_
 refine st rfl rfl (qt rfl ty46 rfl rfl rfl) rfl ?_
 refine st rfl rfl (qj rfl K104 rfl (c104 a2 (by first | assumption | omega | (simp [qv]; omega)) (by first | assumption | omega | (simp [qv]; omega))) (qh rfl qk)) rfl ?_
 refine st rfl rfl (qc rfl rfl) rfl ?_
 refine qe ?_
 refine qd ?_
 refine qd ?_
 refine qb [.p] ?_
 refine st rfl rfl (qc rfl rfl) rfl ?_
 refine qe ?_
 refine qn ?_
 refine qx (γ := Nat × (List Int) × (List S151)) (fun g => ([(0, .g (G.str a0)), (1, .g (G.str a1)), (3, .g (G.int a3)), (9, .osl 9 3 0 (List.length g.2.2)), (10, .g (G.sl 1 (List.map cInt (s104 a2)))), (11, .g (G.int ((g.1 : Nat) : Int)))], [(9, .arr 160 3 (List.map S151.c g.2.2))])) (fun g => g.2.2.length ≤ g.1 ∧ (s104 a2).drop g.1 = g.2.1 ∧ s31_l1 a0 a1 a3 g.2.1 g.1 g.2.2 = R) (fun g => List.length g.2.1) ⟨rfl, (0, (s104 a2), []), ⟨rfl, rfl, rfl, rfl, rfl, rfl, trivial⟩, ⟨rfl, trivial⟩, rfl, ⟨(by first | (simp; done) | (simp; omega)), rfl, hR⟩, trivial⟩ ?_
 ·rintro ⟨k3, t5, x1⟩ ⟨iv1_0, hd, hR⟩
  replace hd : (s104 a2).drop k3 = t5 := hd
  replace hR : s31_l1 a0 a1 a3 t5 k3 x1 = R := hR
  replace iv1_0 : x1.length ≤ k3 := iv1_0
  refine qd ?_
  refine qd ?_
  refine qb [.p, .p, .p, .p] ?_
  refine st rfl rfl (qa rfl rfl) rfl ?_
  refine st rfl rfl (qa rfl rfl) rfl ?_
  refine st rfl rfl (q9 (f := cInt) (l := (s104 a2)) rfl Tryz.underlying82 rfl) rfl ?_
  refine st rfl rfl (ze rfl rfl rfl) rfl ?_
  refine qe ?_
  refine zc (f := cInt) (l := (s104 a2)) 10 rfl fun hlz1 => ?_
  refine qm _ rfl (fun h1 => ?_) (fun h1 => ?_)
  ·replace h1 : (decide (((k3 : Nat) : Int) < (List.length (s104 a2) : Int))) = true := h1
   obtain ⟨y4, t5, rfl, hx1, hd⟩ := zh hd (decT h1)
   replace h1 := decT h1
   rw [s31_l1] at hR
   try dsimp only at hR
   refine qo ?_
   refine qd ?_
   refine qn ?_
   refine qb [.p, .p, .p, .p, .p, .p, .p, .p, .p, .p, .p, .p, .k, .p] ?_
   refine st rfl rfl (qq rfl rfl) rfl ?_
   refine st rfl rfl (qa rfl rfl) rfl ?_
   refine st rfl rfl (qa rfl rfl) rfl ?_
   refine st rfl rfl (qa rfl rfl) rfl ?_
   refine st rfl rfl (zi (f := cInt) (l := (s104 a2)) (a := y4) rfl Tryz.underlying82 ty3 rfl rfl (Int.natCast_nonneg _) hx1) rfl ?_
   refine st rfl rfl (qi rfl ty3 rfl) rfl ?_
   refine st rfl rfl (v8 rfl rfl rfl) rfl ?_
   refine st rfl rfl (qa rfl rfl) rfl ?_
   refine st rfl rfl (j6 rfl rfl rfl) rfl ?_
   refine st rfl rfl (qa rfl rfl) rfl ?_
   refine st rfl rfl (vk rfl z160 rfl qt0 (j9 rfl (j9 rfl (j9 rfl qaz))) rfl) rfl ?_
   refine st rfl rfl (qu rfl Tryz.underlying32 km z160 rfl (qw rfl z4) rfl (by simp only [List.mem_singleton, forall_eq]; rfl) (by decide)) rfl ?_
   refine st_k rfl rfl (z5 (f := S151.c) (out := x1) (new := [(S151.mk a0 (IntKind.i64.wrap ((IntKind.i64.wrap (1440 * y4)) + a3)) a1)]) rfl qla rfl rfl (kc rfl (vc (by decide) (by simp [S151.c]))) (vp rfl) (by simp; omega)) rfl ?_
   refine st rfl rfl (qy rfl rfl) rfl ?_
   refine qe ?_
   refine qb [.p, .p, .p] ?_
   refine st rfl rfl (qa rfl rfl) rfl ?_
   refine st rfl rfl (zj rfl rfl rfl (by unfold I64; omega)) rfl ?_
   refine st rfl rfl (qc rfl rfl) rfl ?_
   refine qe ?_
   exact ⟨rfl, (k3 + 1, t5, x1 ++ [(S151.mk a0 (IntKind.i64.wrap ((IntKind.i64.wrap (1440 * y4)) + a3)) a1)]), ⟨rfl, rfl, rfl, rfl, rfl, rfl, trivial⟩, ⟨rfl, trivial⟩, rfl, ⟨(by first | omega | (dsimp only; omega) | (simp at *; omega)), hd, hR⟩, by simp⟩
  ·replace h1 : (decide (((k3 : Nat) : Int) < (List.length (s104 a2) : Int))) = false := h1
   obtain rfl := zm hd (decF h1)
   rw [s31_l1] at hR
   refine zg ?_
   refine qd ?_
   refine qb [.p, .p] ?_
   refine st rfl rfl (qq rfl rfl) rfl ?_
   refine st rfl rfl (qy rfl rfl) rfl ?_
   refine qe ?_
   refine qr ?_
   subst hR
   exact zb rfl (wd rfl rfl)
end Go.Sim
namespace Go.Sim
theorem qf0 {l : List Int} (h : s84 l = 0) : ∀ x ∈ l, x = 0 := by
 have key : ∀ (l : List Int) (k : Nat), s84_l1 l k = 0 → ∀ x ∈ l, x = 0 := by
  intro l
  induction l with
  | nil => intro k _ x hx; cases hx
  | cons y l ih =>
   intro k h x hx
   rw [s84_l1] at h
   by_cases hy : y = 0
   ·subst hy
    simp at h
    rcases List.mem_cons.1 hx with rfl | hx
    ·rfl
    ·exact ih _ h x hx
   ·simp [hy] at h
 exact key l 0 h
theorem qkm {a b c : Int} (h : s85 a b c = 0) : b ≤ a ∧ a ≤ c := by
 unfold s85 s86 at h
 by_cases h1 : a < b
 ·simp [h1] at h
 ·by_cases h2 : c < a
  ·simp [h2] at h
  ·omega
theorem qdf (a0 a1 : ByteArray) (a2 : S45) (a3 : Int) (h : s84 [s87 a0, s101 a1, s102 a2, s85 a3 0 1439] = 0) : s102 a2 = 0 ∧ 0 ≤ a3 ∧ a3 ≤ 1439 := by
 have h1 := qf0 h (s102 a2) (by simp)
 have h2 := qkm (qf0 h (s85 a3 0 1439) (by simp))
 exact ⟨h1, h2⟩
end Go.Sim
set_option linter.unusedSimpArgs false
set_option linter.unusedVariables false
set_option maxRecDepth 10000
namespace Go.Sim
open Go.Proofs
def s29 (a0 : ByteArray) (a1 : ByteArray) (a2 : S45) (a3 : Int) : (List S151) × Int :=
 (bif decide ((s84 [(s87 a0), (s101 a1), (s102 a2), (s85 a3 0 1439)]) ≠ 0) then ([], (s84 [(s87 a0), (s101 a1), (s102 a2), (s85 a3 0 1439)])) else (slotsL a0 a1 (momL a3 (dayL a2.Days (a2.fTo + 1 - a2.fFrom).toNat a2.fFrom)), 0))
theorem c29 {g : List (Nat × List Value)} (a0 : ByteArray) (a1 : ByteArray) (a2 : S45) (a3 : Int)    : Con (EG g) 29 [G.str a0, G.str a1, G.agg [G.int a2.fFrom, G.int a2.fTo, G.int a2.Days], G.int a3] (G.tup [G.slX 3 (List.map S151.c ((s29 a0 a1 a2 a3)).1), G.int ((s29 a0 a1 a2 a3)).2]) := by
 generalize hR : s29 a0 a1 a2 a3 = R
 unfold s29 at hR
 refine qp Tryz.func29 rfl rfl fun w0 M0 => ?_
 refine qd ?_
 refine qb [.p, .p, .p] ?_
 refine st rfl rfl (zd rfl rfl) rfl ?_
 refine st rfl rfl (qc rfl rfl) rfl ?_
 refine st rfl rfl (qc rfl rfl) rfl ?_
 refine qe ?_
 refine qd ?_
 refine qd ?_
 refine zw [.p, .p, .p, .p, .p, .p, .p, .p, .p, .p, .p] (by kernel_rfl) ?_
 refine st rfl rfl (qa rfl rfl) rfl ?_
 refine st rfl rfl (qj rfl K87 rfl (c87 a0) (qh rfl qk)) rfl ?_
 refine st rfl rfl (qa rfl rfl) rfl ?_
 refine st rfl rfl (qj rfl K101 rfl (c101 a1) (qh rfl qk)) rfl ?_
 refine st rfl rfl (qt rfl ty46 rfl rfl rfl) rfl ?_
 refine st rfl rfl (qj rfl K102 rfl (c102 a2) (qh rfl qk)) rfl ?_
 refine st rfl rfl (qa rfl rfl) rfl ?_
 refine st rfl rfl (qj rfl K85 rfl (c85 a3 0 1439) (qh rfl (qh rfl (qh rfl qk)))) rfl ?_
 refine st rfl rfl (qu rfl Tryz.underlying170 ty37 z37 rfl (qw rfl (qw rfl (qw rfl (qw rfl z4)))) rfl (by simp []) (by decide)) rfl ?_
 refine st rfl rfl (qj rfl K84 rfl (c84 [(s87 a0), (s101 a1), (s102 a2), (s85 a3 0 1439)]) (qh rfl qk)) rfl ?_
 refine st rfl rfl (qc rfl rfl) rfl ?_
 refine qe ?_
 refine qd ?_
 refine qb [.p, .p] ?_
 refine st rfl rfl (qa rfl rfl) rfl ?_
 refine st rfl rfl (zz rfl rfl rfl) rfl ?_
 refine qe ?_
 refine qm _ rfl (fun h1 => ?_) (fun h1 => ?_)
 ·replace h1 : (decide ((s84 [(s87 a0), (s101 a1), (s102 a2), (s85 a3 0 1439)]) ≠ 0)) = true := h1
  replace hR := zk hR h1
  try simp only [decide_eq_true_eq] at h1
  refine qd ?_
  refine qb [.p, .p, .p] ?_
  refine st rfl rfl (qa rfl rfl) rfl ?_
  refine st rfl rfl (qc rfl rfl) rfl ?_
  refine st rfl rfl (qc rfl rfl) rfl ?_
  refine qe ?_
  refine qr ?_
  subst hR
  exact resN rfl ⟨qh7 rfl (qnu _), rv_g rfl, trivial⟩ (by simp)
 ·replace h1 : (decide ((s84 [(s87 a0), (s101 a1), (s102 a2), (s85 a3 0 1439)]) ≠ 0)) = false := h1
  replace hR := zl hR h1
  try simp only [decide_eq_false_iff_not] at h1
  have hp := qdf a0 a1 a2 a3 (by simpa using h1)
  refine qo ?_
  refine qd ?_
  refine qb [.p, .p, .p, .p, .p, .p, .p] ?_
  refine st rfl rfl (qa rfl rfl) rfl ?_
  refine st rfl rfl (qa rfl rfl) rfl ?_
  refine st rfl rfl (qt rfl ty46 rfl rfl rfl) rfl ?_
  refine st rfl rfl (qa rfl rfl) rfl ?_
  refine st rfl rfl (qj rfl K103 rfl (c103X a0 a1 a2 a3 hp.1 hp.2.1 (by omega)) (qh rfl (qh rfl (qh rfl (qh rfl qk))))) rfl ?_
  refine st rfl rfl (qc rfl rfl) rfl ?_
  refine st rfl rfl (qc rfl rfl) rfl ?_
  refine qe ?_
  refine qr ?_
  subst hR
  exact resN rfl ⟨rv_g rfl, rv_g rfl, trivial⟩ (by simp)
end Go.Sim
namespace Go.Sim
open Go.Proofs
theorem c29' {g : List (Nat × List Value)} (a0 a1 : ByteArray) (a2 : S45) (a3 : Int) : Con (EG g) 29 [G.str a0, G.str a1, G.agg [G.int a2.fFrom, G.int a2.fTo, G.int a2.Days], G.int a3] (G.tup [G.sl 3 (List.map S151.c ((s29 a0 a1 a2 a3)).1), G.int ((s29 a0 a1 a2 a3)).2]) := by
 intro w M vs hM hgl hv
 refine (c29 a0 a1 a2 a3 w M vs hM hgl hv).mono ?_
 rintro e w' ⟨v, h1, h2, us, h3, h4⟩
 refine ⟨v, h1, h2, us, h3, ?_⟩
 match us, h4 with
 | [u1, u2], ⟨k1, k2, k3⟩ => exact ⟨qvc k1, k2, k3⟩
theorem c32n {g : List (Nat × List Value)} (a0 : List S151) {R : Bool} (hR : s32 a0 [] = some R) : Con (EG g) 32 [G.sl 3 (List.map S151.c a0), G.lit (.slice none 0 0)] (G.bool R) := by
 intro w M vs hM hgl hv
 match vs, hv with
 | [v1, v2], ⟨h1, h2, _⟩ =>
  have h2 : v2 = .slice none 0 0 := h2
  subst h2
  exact c32 a0 [] hR w M _ hM hgl ⟨h1, qpw 3 w M, trivial⟩
theorem qob (a0 a1 : ByteArray) (a2 : S45) (a3 : Int) : (s29 a0 a1 a2 a3).1.length * 40 ≤ 140737488351232 := by
 unfold s29
 by_cases h : s84 [(s87 a0), (s101 a1), (s102 a2), (s85 a3 0 1439)] = 0
 ·rw [decide_eq_false (by simpa using h), cond_false]
  obtain ⟨h1, _, _⟩ := qdf a0 a1 a2 a3 h
  obtain ⟨q1, q2, q3, q4, _, _⟩ := period_ok a2 h1
  have := qbf a2.Days (a2.fTo + 1 - a2.fFrom).toNat a2.fFrom
  simp only [slotsL, momL, List.length_map]
  omega
 ·rw [decide_eq_true (by simpa using h), cond_true]
  show (0 : Nat) * 40 ≤ 140737488351232
  decide
theorem qoc (p : S45) : s102 p = s40 p := by
 unfold s102 s40
 have e : ∀ l, s152 l = s89 l := fun l => by
  unfold s152 s89
  generalize 0 = k
  induction l generalizing k with
  | nil => rfl
  | cons x l ih => rw [s152_l1, s89_l1, ih]
 simp only [e, qac, wz, s153, s155, s109, s90, s154]
 by_cases h1 : p.fFrom < 0 <;> by_cases h1' : 99999 < p.fFrom <;> by_cases h2 : p.fTo < 0 <;> by_cases h2' : 99999 < p.fTo <;> simp only [h1, h1', h2, h2', decide_true, decide_false, Bool.or_true, Bool.true_or, Bool.or_false, cond_true, cond_false] <;> try rfl
 by_cases h3 : p.fTo < p.fFrom <;> by_cases h4 : 400 < IntKind.i64.wrap (p.fTo - p.fFrom) <;> by_cases h5 : p.Days < 1 <;> by_cases h6 : 127 < p.Days <;> simp [h3, h4, h5, h6]
theorem qpr (a0 a1 : ByteArray) (a2 : S45) (a3 : Int) : s84 [s87 a0, s101 a1, s102 a2, s85 a3 0 1439] = s30 a0 a1 a2 a3 := by
 unfold s30
 rw [xo, qe5, qj0, qoc]; rfl
set_option maxRecDepth 100000 in
theorem qps : ∀ m : Fin 128, ∀ w : Fin 7, s192 (m.1 : Int) (w.1 : Int) = decide (andI (shrI (m.1 : Int) (w.1 : Int)) 1 = 1) := by decide +kernel
theorem qtk {m d : Int} (h1 : 1 ≤ m) (h2 : m ≤ 127) (h3 : 0 ≤ d) (h4 : d ≤ 1000000) : s192 m (s180 d) = inM m d := by
 have hw : s180 d = (d + 5) % 7 := by
  unfold s180
  rw [wrap_i64 (by unfold I64; omega), Int.tmod_eq_emod_of_nonneg (by omega)]
 rw [hw]
 have := qps ⟨m.toNat, by omega⟩ ⟨((d + 5) % 7).toNat, by omega⟩
 simp only at this
 rw [Int.toNat_of_nonneg (by omega), Int.toNat_of_nonneg (by omega)] at this
 exact this
theorem qht (p : S45) (h1 : 1 ≤ p.Days) (h2 : p.Days ≤ 127) (h3 : 0 ≤ p.fFrom) (h4 : p.fTo ≤ 99999) : ∀ (n : Nat) (x : List Int) (d : Int), p.fFrom ≤ d → n = (p.fTo + 1 - d).toNat → s104_l1 p n x d = x ++ dayL p.Days n d
 | 0, x, d, _, _ => by simp [s104_l1, dayL]
 | n + 1, x, d, hd, hn => by
  rw [s104_l1, dayL]
  have hs : s157 p d = inM p.Days d := by
   unfold s157
   rw [qtk h1 h2 (by omega) (by omega), decide_eq_true (by omega), decide_eq_true (by omega)]
   simp
  rw [hs]
  unfold s104_j1
  have ih := fun x => qht p h1 h2 h3 h4 n x (d + 1) (by omega) (by omega)
  show (bif inM p.Days d then s104_l1 p n (x ++ [d]) (d + 1) else s104_l1 p n x (d + 1)) = _
  rw [ih, ih]
  cases inM p.Days d <;> simp
theorem qtl (p : S45) (h : s102 p = 0) : s104 p = dayL p.Days (p.fTo + 1 - p.fFrom).toNat p.fFrom := by
 obtain ⟨q1, q2, q3, q4, q5, q6⟩ := period_ok p h
 unfold s104
 rw [qht p q5 q6 q1 q3 _ _ _ (Int.le_refl _) rfl]; rfl
theorem qvw (a0 a1 : ByteArray) (a2 : S45) (a3 : Int) (h : s30 a0 a1 a2 a3 = 0) : 0 ≤ a2.fFrom ∧ a2.fTo ≤ 1000000 ∧ (s104 a2).length ≤ 1000001 := by
 rw [← qpr] at h
 obtain ⟨h1, _, _⟩ := qdf a0 a1 a2 a3 h
 obtain ⟨q1, q2, q3, q4, _, _⟩ := period_ok a2 h1
 have := qbf a2.Days (a2.fTo + 1 - a2.fFrom).toNat a2.fFrom
 rw [qtl a2 h1]
 omega
end Go.Sim
set_option linter.unusedSimpArgs false
set_option linter.unusedVariables false
set_option maxRecDepth 10000
namespace Go.Sim
open Go.Proofs
noncomputable def s4 (a0 : S47) : Option Bool :=
 (bif ((!s16) || (decide (60 < (ByteArray.size a0.Name : Int)))) || (decide (60 < (ByteArray.size a0.Kind : Int))) then some s16 else (bif decide ((s30 a0.Name a0.Kind (S45.mk a0.Period.fFrom a0.Period.fTo a0.Period.Days) a0.Minute) = 0) then bindO (s32 (s20 ((s29 a0.Name a0.Kind (S45.mk a0.Period.fFrom a0.Period.fTo a0.Period.Days) a0.Minute).1)) (s31 a0.Name a0.Kind (S45.mk a0.Period.fFrom a0.Period.fTo a0.Period.Days) a0.Minute)) fun r1 => some (r1 && (decide ((s29 a0.Name a0.Kind (S45.mk a0.Period.fFrom a0.Period.fTo a0.Period.Days) a0.Minute).2 = (s30 a0.Name a0.Kind (S45.mk a0.Period.fFrom a0.Period.fTo a0.Period.Days) a0.Minute)))) else bindO (s32 (s20 ((s29 a0.Name a0.Kind (S45.mk a0.Period.fFrom a0.Period.fTo a0.Period.Days) a0.Minute).1)) []) fun r2 => some (r2 && (decide ((s29 a0.Name a0.Kind (S45.mk a0.Period.fFrom a0.Period.fTo a0.Period.Days) a0.Minute).2 = (s30 a0.Name a0.Kind (S45.mk a0.Period.fFrom a0.Period.fTo a0.Period.Days) a0.Minute))))))
theorem c4 (a0 : S47) {R : Bool}   (hR : s4 a0 = some R) : Con (EG glT) 4 [G.agg [G.str a0.Name, G.str a0.Kind, G.int a0.Period.fFrom, G.int a0.Period.fTo, G.int a0.Period.Days, G.int a0.Minute]] (G.bool R) := by
 unfold s4 at hR
 refine qp Tryz.func4 rfl rfl fun w0 M0 => ?_
 refine qd ?_
 refine qb [.p, .p] ?_
 refine st rfl rfl (zd rfl rfl) rfl ?_
 refine st rfl rfl (qc rfl rfl) rfl ?_
 refine qe ?_
 refine qd ?_
 refine qd ?_
 refine qb [.p, .p, .p, .p, .p, .p, .p, .p, .p, .p, .p, .p, .p, .p] ?_
 refine st rfl rfl (qj rfl K16 rfl (c16) qk) rfl ?_
 refine st rfl rfl (jx rfl rfl) rfl ?_
 refine st rfl rfl (qa rfl rfl) rfl ?_
 refine st_g rfl rfl rfl (qg _ _) (fun h => qf rfl qj9 rfl) rfl ?_
 refine st_g rfl rfl rfl (qg _ _) (fun h => qi rfl ty9 (gd h rfl)) rfl ?_
 refine st_g rfl rfl rfl (qg _ _) (fun h => kr rfl Tryz.underlying9 (gd h rfl)) rfl ?_
 refine st_g rfl rfl rfl (qg _ _) (fun h => zy rfl (gd h rfl) rfl) rfl ?_
 refine st rfl rfl (z8 rfl rfl rfl rfl) rfl ?_
 refine st rfl rfl (qa rfl rfl) rfl ?_
 refine st_g rfl rfl rfl (qg _ _) (fun h => qf rfl qka rfl) rfl ?_
 refine st_g rfl rfl rfl (qg _ _) (fun h => qi rfl ty9 (gd h rfl)) rfl ?_
 refine st_g rfl rfl rfl (qg _ _) (fun h => kr rfl Tryz.underlying9 (gd h rfl)) rfl ?_
 refine st_g rfl rfl rfl (qg _ _) (fun h => zy rfl (gd h rfl) rfl) rfl ?_
 refine st rfl rfl (z8 rfl rfl rfl rfl) rfl ?_
 refine qe ?_
 refine qm _ rfl (fun h1 => ?_) (fun h1 => ?_)
 ·replace h1 : (((!s16) || (decide (60 < (ByteArray.size a0.Name : Int)))) || (decide (60 < (ByteArray.size a0.Kind : Int)))) = true := h1
  replace hR := zk hR h1
  refine qd ?_
  refine qb [.p, .p] ?_
  refine st rfl rfl (qj rfl K16 rfl (c16) qk) rfl ?_
  refine st rfl rfl (qc rfl rfl) rfl ?_
  refine qe ?_
  refine qr ?_
  obtain rfl := Option.some.inj hR
  exact zb rfl (rv_g rfl)
 ·replace h1 : (((!s16) || (decide (60 < (ByteArray.size a0.Name : Int)))) || (decide (60 < (ByteArray.size a0.Kind : Int)))) = false := h1
  replace hR := zl hR h1
  try simp only [Bool.or_eq_true, Bool.and_eq_true, Bool.or_eq_false_iff, Bool.and_eq_false_iff, Bool.not_eq_true', Bool.not_eq_false', decide_eq_true_eq, decide_eq_false_iff_not] at h1
  refine qo ?_
  refine qd ?_
  refine qb [.p, .p, .p, .p, .p, .p, .p, .p, .p, .p, .p, .p, .p, .p] ?_
  refine st rfl rfl (qf rfl qj9 rfl) rfl ?_
  refine st rfl rfl (qi rfl ty9 rfl) rfl ?_
  refine st rfl rfl (qf rfl qka rfl) rfl ?_
  refine st rfl rfl (qi rfl ty9 rfl) rfl ?_
  refine st rfl rfl (qf rfl qno rfl) rfl ?_
  refine st rfl rfl (qt rfl ty46 rfl rfl rfl) rfl ?_
  refine st rfl rfl (qf rfl qnp rfl) rfl ?_
  refine st rfl rfl (qi rfl ty3 rfl) rfl ?_
  refine st rfl rfl (qj rfl K29 rfl (c29' a0.Name a0.Kind (S45.mk a0.Period.fFrom a0.Period.fTo a0.Period.Days) a0.Minute) (qh rfl (qh rfl (qh rfl (qh rfl qk))))) rfl ?_
  refine st rfl rfl (qa rfl rfl) rfl ?_
  refine st rfl rfl (zp rfl rfl rfl) rfl ?_
  refine st rfl rfl (zp rfl rfl rfl) rfl ?_
  refine st rfl rfl (qc rfl rfl) rfl ?_
  refine st rfl rfl (qc rfl rfl) rfl ?_
  refine qe ?_
  refine qd ?_
  refine qb [.p, .p, .p, .p, .p, .p, .p, .p, .p, .p] ?_
  refine st rfl rfl (qf rfl qj9 rfl) rfl ?_
  refine st rfl rfl (qi rfl ty9 rfl) rfl ?_
  refine st rfl rfl (qf rfl qka rfl) rfl ?_
  refine st rfl rfl (qi rfl ty9 rfl) rfl ?_
  refine st rfl rfl (qf rfl qno rfl) rfl ?_
  refine st rfl rfl (qt rfl ty46 rfl rfl rfl) rfl ?_
  refine st rfl rfl (qf rfl qnp rfl) rfl ?_
  refine st rfl rfl (qi rfl ty3 rfl) rfl ?_
  refine st rfl rfl (qj rfl K30 rfl (c30 a0.Name a0.Kind (S45.mk a0.Period.fFrom a0.Period.fTo a0.Period.Days) a0.Minute) (qh rfl (qh rfl (qh rfl (qh rfl qk))))) rfl ?_
  refine st rfl rfl (qc rfl rfl) rfl ?_
  refine qe ?_
  refine qd ?_
  refine qb [.p] ?_
  refine st rfl rfl (qc rfl rfl) rfl ?_
  refine qe ?_
  refine qd ?_
  refine qd ?_
  refine qb [.p, .p] ?_
  refine st rfl rfl (qa rfl rfl) rfl ?_
  refine st rfl rfl (jq rfl rfl rfl) rfl ?_
  refine qe ?_
  refine qm _ rfl (fun h2 => ?_) (fun h2 => ?_)
  ·replace h2 : (decide ((s30 a0.Name a0.Kind (S45.mk a0.Period.fFrom a0.Period.fTo a0.Period.Days) a0.Minute) = 0)) = true := h2
   replace hR := zk hR h2
   try simp only [decide_eq_true_eq] at h2
   obtain ⟨hq0, hq1, hq2⟩ := qvw _ _ _ _ h2
   refine qb [.p, .p, .p, .p, .p, .p, .p, .p, .p, .p] ?_
   refine st rfl rfl (qf rfl qj9 rfl) rfl ?_
   refine st rfl rfl (qi rfl ty9 rfl) rfl ?_
   refine st rfl rfl (qf rfl qka rfl) rfl ?_
   refine st rfl rfl (qi rfl ty9 rfl) rfl ?_
   refine st rfl rfl (qf rfl qno rfl) rfl ?_
   refine st rfl rfl (qt rfl ty46 rfl rfl rfl) rfl ?_
   refine st rfl rfl (qf rfl qnp rfl) rfl ?_
   refine st rfl rfl (qi rfl ty3 rfl) rfl ?_
   refine st rfl rfl (qj rfl K31 rfl (c31 a0.Name a0.Kind (S45.mk a0.Period.fFrom a0.Period.fTo a0.Period.Days) a0.Minute (by first | assumption | omega | (simp [qv]; omega)) (by first | assumption | omega | (simp [qv]; omega)) (by first | assumption | omega | (simp [qv]; omega))) (qh rfl (qh rfl (qh rfl (qh rfl qk))))) rfl ?_
   refine st rfl rfl (qc rfl rfl) rfl ?_
   refine qe ?_
   refine qd ?_
   obtain ⟨r1, br1, hR⟩ := ql hR
   refine qb [.p, .p, .p, .p, .p, .p, .p, .p, .p, .p] ?_
   refine st rfl rfl (qa rfl rfl) rfl ?_
   refine st rfl rfl (qj rfl K20 rfl (c20 ((s29 a0.Name a0.Kind (S45.mk a0.Period.fFrom a0.Period.fTo a0.Period.Days) a0.Minute).1) (qob _ _ _ _)) (qh rfl qk)) rfl ?_
   refine st rfl rfl (qa rfl rfl) rfl ?_
   refine st rfl rfl (qj rfl K32 rfl (c32 (s20 ((s29 a0.Name a0.Kind (S45.mk a0.Period.fFrom a0.Period.fTo a0.Period.Days) a0.Minute).1)) (s31 a0.Name a0.Kind (S45.mk a0.Period.fFrom a0.Period.fTo a0.Period.Days) a0.Minute) br1) (qh rfl (qh rfl qk))) rfl ?_
   refine st rfl rfl (qa rfl rfl) rfl ?_
   refine st_g rfl rfl rfl (qg _ _) (fun h => qa rfl rfl) rfl ?_
   refine st_g rfl rfl rfl (qg _ _) (fun h => qa rfl rfl) rfl ?_
   refine st_g rfl rfl rfl (qg _ _) (fun h => jq rfl (gd h rfl) (gd h rfl)) rfl ?_
   refine st rfl rfl (zf rfl rfl rfl rfl) rfl ?_
   refine st rfl rfl (qc rfl rfl) rfl ?_
   refine qe ?_
   refine qr ?_
   obtain rfl := Option.some.inj hR
   exact zb rfl (rv_g rfl)
  ·replace h2 : (decide ((s30 a0.Name a0.Kind (S45.mk a0.Period.fFrom a0.Period.fTo a0.Period.Days) a0.Minute) = 0)) = false := h2
   replace hR := zl hR h2
   refine qo ?_
   refine qd ?_
   obtain ⟨r2, br2, hR⟩ := ql hR
   refine qb [.p, .p, .p, .p, .p, .p, .p, .p, .p, .p] ?_
   refine st rfl rfl (qa rfl rfl) rfl ?_
   refine st rfl rfl (qj rfl K20 rfl (c20 ((s29 a0.Name a0.Kind (S45.mk a0.Period.fFrom a0.Period.fTo a0.Period.Days) a0.Minute).1) (qob _ _ _ _)) (qh rfl qk)) rfl ?_
   refine st rfl rfl (qa rfl rfl) rfl ?_
   refine st rfl rfl (qj rfl K32 rfl (c32n (s20 ((s29 a0.Name a0.Kind (S45.mk a0.Period.fFrom a0.Period.fTo a0.Period.Days) a0.Minute).1)) br2) (qh rfl (qh rfl qk))) rfl ?_
   refine st rfl rfl (qa rfl rfl) rfl ?_
   refine st_g rfl rfl rfl (qg _ _) (fun h => qa rfl rfl) rfl ?_
   refine st_g rfl rfl rfl (qg _ _) (fun h => qa rfl rfl) rfl ?_
   refine st_g rfl rfl rfl (qg _ _) (fun h => jq rfl (gd h rfl) (gd h rfl)) rfl ?_
   refine st rfl rfl (zf rfl rfl rfl rfl) rfl ?_
   refine st rfl rfl (qc rfl rfl) rfl ?_
   refine qe ?_
   refine qr ?_
   obtain rfl := Option.some.inj hR
   exact zb rfl (rv_g rfl)
end Go.Sim
namespace Go.Sim
def statL : List ByteArray := [⟨#[114, 101, 116, 117, 114, 110, 101, 100]⟩, ⟨#[102, 108, 111, 119, 110]⟩, ⟨#[101, 120, 99, 117, 115, 101, 100]⟩, ⟨#[109, 105, 115, 115, 101, 100]⟩]
end Go.Sim
namespace Go.Sim
theorem qvx (f : S104 → S151) (l : List S104) (k : Nat) (x : List S151) : s170_l1 f l k x = x ++ l.map f := by
 induction l generalizing k x with
 | nil => simp [s170_l1]
 | cons y l ih => rw [s170_l1, ih]; simp
theorem qn0 (l : List S104) (f : S104 → S151) : s170 l f = l.map f := by unfold s170; rw [qvx]; rfl
theorem qvy (f : S104 → Bool) (l : List S104) (k : Nat) (x : List S104) : s171_l1 f l k x = x ++ l.filter f := by
 induction l generalizing k x with
 | nil => simp [s171_l1]
 | cons y l ih =>
  rw [s171_l1]
  cases h : f y
  ·simp only [cond_false, s171_j1, ih]
   rw [List.filter_cons, if_neg (by simp [h])]
  ·simp only [cond_true, s171_j1, ih]
   rw [List.filter_cons, if_pos h]; simp
theorem qnz (l : List S104) (f : S104 → Bool) : s171 l f = l.filter f := by unfold s171; rw [qvy]; rfl
theorem qqp (l : List S104) (f : S104 → S151) : (s170 l f).length = l.length := by rw [qn0, List.length_map]
theorem qqq (l : List S104) (f : S104 → Bool) : (s171 l f).length ≤ l.length := by rw [qnz]; exact List.length_filter_le _ _
end Go.Sim
set_option linter.unusedSimpArgs false
set_option linter.unusedVariables false
set_option maxRecDepth 10000
namespace Go.Sim
open Go.Proofs
def s121 (a0 : List S104) : Option (List S151) :=
 bindO (s174 (s170 (s171 a0 s172) s173) (fun x0_ x1_ => some (s175 x0_ x1_))) fun r1 => some r1
theorem n121 (a0 : List S104) {R : List S151}  (hb0 : a0.length ≤ 12) (hR : s121 a0 = some R) : ConN (EG glT) 121 [G.sl 8 (List.map S104.c a0)] 152 3 (List.map S151.c R) := by
 unfold s121 at hR
 refine kl Tryz.func121 rfl rfl fun w0 M0 => ?_
 refine zc (f := S104.c) (l := a0) 0 rfl fun hla0 => ?_
 have hq1 := qqq a0 s172
 have hq2 := qqp (s171 a0 s172) s173
 refine qd ?_
 refine qb [.w] ?_
 refine st_w rfl rfl (zu 2 152 3 rfl rfl rfl) rfl ?_
 refine qe ?_
 refine qd ?_
 refine qb [.p, .p, .w, .p] ?_
 refine st rfl rfl (qa rfl rfl) rfl ?_
 refine st rfl rfl (qj rfl K171 rfl (c171 a0 s172 qaa K172 (fun x0 => c172 x0) (by first | assumption | omega | (simp [qv]; omega))) (qh rfl (qh rfl qk))) rfl ?_
 refine st_w rfl rfl (qk3 (f0 := S151.c) (l := s170 (s171 a0 s172) s173) 6 rfl K170 rfl (n170 (s171 a0 s172) s173 qaa K173 (fun x0 => c173 x0) (by first | assumption | omega | (simp [qv]; omega))) (qh rfl (qh rfl qk)) rfl) rfl ?_
 refine st rfl rfl (qy rfl rfl) rfl ?_
 refine qe ?_
 refine qd ?_
 obtain ⟨r1, br1, hR⟩ := ql hR
 refine qb [.p, .w] ?_
 refine st rfl rfl (qq rfl rfl) rfl ?_
 refine st_w rfl rfl (kq 0 6 rfl K174 rfl (c174 (s170 (s171 a0 s172) s173) (fun x0_ x1_ => some (s175 x0_ x1_)) rfl qaa K175 (fun x0_ x1_ r_ h_ => Option.some.inj h_ ▸ (fun x0 x1 => c175 x0 x1) x0_ x1_) (by first | assumption | omega | (simp [qv]; omega)) br1) (jb rfl rfl (jb rfl rfl ww)) rfl rfl rfl) rfl ?_
 refine qe ?_
 refine qd ?_
 refine qb [.p, .p] ?_
 refine st rfl rfl (qq rfl rfl) rfl ?_
 refine st rfl rfl (qy rfl rfl) rfl ?_
 refine qe ?_
 refine qr ?_
 obtain rfl := Option.some.inj hR
 exact kx rfl rfl rfl ((List.length_map ..).trans ((qqn br1).trans rfl))
theorem c121 (a0 : List S104) {R : List S151}  (hb0 : a0.length ≤ 12) (hR : s121 a0 = some R) : Con (EG glT) 121 [G.sl 8 (List.map S104.c a0)] (G.sl 3 (List.map S151.c R)) :=
 ConN.con (by decide) (n121 a0 hb0 hR)
def s122 (a0 : S23) (a1 : List S151) (a2 : List S104) : Int :=
 (s84 [(s23 a0), (s25 a1), (s27 a2)])
theorem c122 {g : List (Nat × List Value)} (a0 : S23) (a1 : List S151) (a2 : List S104)  (hb1 : a1.length * 40 ≤ 140737488351232) (hb2 : a2.length * 96 ≤ 140737488351232)  : Con (EG g) 122 [G.agg [G.int a0.Before, G.int a0.After, G.int a0.Notice, G.int a0.Share, G.sl 1 (List.map cStr a0.Causes), G.int a0.Off, G.int a0.Run], G.sl 3 (List.map S151.c a1), G.sl 8 (List.map S104.c a2)] (G.int (s122 a0 a1 a2)) := by
 generalize hR : s122 a0 a1 a2 = R
 unfold s122 at hR
 refine qp Tryz.func122 rfl rfl fun w0 M0 => ?_
 refine zc (f := S151.c) (l := a1) 1 rfl fun hla1 => ?_
 refine zc (f := S104.c) (l := a2) 2 rfl fun hla2 => ?_
 refine qd ?_
 refine qb [.p, .p] ?_
 refine st rfl rfl (zd rfl rfl) rfl ?_
 refine st rfl rfl (qc rfl rfl) rfl ?_
 refine qe ?_
 refine qd ?_
 refine qb [.p, .p, .p, .p, .p, .p, .p, .p, .p] ?_
 refine st rfl rfl (qt rfl ty24 rfl rfl rfl) rfl ?_
 refine st rfl rfl (qj rfl K23 rfl (c23 a0) (qh rfl qk)) rfl ?_
 refine st rfl rfl (qa rfl rfl) rfl ?_
 refine st rfl rfl (qj rfl K25 rfl (c25 a1) (qh rfl qk)) rfl ?_
 refine st rfl rfl (qa rfl rfl) rfl ?_
 refine st rfl rfl (qj rfl K27 rfl (c27 a2) (qh rfl qk)) rfl ?_
 refine st rfl rfl (qu rfl Tryz.underlying170 ty37 z37 rfl (qw rfl (qw rfl (qw rfl z4))) rfl (by simp []) (by decide)) rfl ?_
 refine st rfl rfl (qj rfl K84 rfl (c84 [(s23 a0), (s25 a1), (s27 a2)]) (qh rfl qk)) rfl ?_
 refine st rfl rfl (qc rfl rfl) rfl ?_
 refine qe ?_
 refine qr ?_
 subst hR
 exact zb rfl (rv_g rfl)
end Go.Sim
namespace Go.Sim
theorem qvz {a : List S104} {r : List S151} (h : s121 a = some r) : r.length ≤ a.length := by
 unfold s121 at h
 obtain ⟨y, h1, h⟩ := ql h
 cases h
 have g1 := qqn h1
 have g2 := qqp (s171 a s172) s173
 have g3 := qqq a s172
 omega
end Go.Sim
set_option linter.unusedSimpArgs false
set_option linter.unusedVariables false
set_option maxRecDepth 10000
namespace Go.Sim
open Go.Proofs
def s124_l2 (x2 : List Int) : List S154 → Nat → (List Int) → Option (List Int)
 | [], k14, x12 => some x12
 | y15 :: t16, k14, x12 => bindO (ixO x2 y15.Slot) fun y17 => bindO (ixO x12 y17) fun y18 => s124_l2 x2 t16 (k14 + 1) (List.set x12 (Int.toNat y17) 1)
def s124_j1 (rec1 : Nat → (List S151) → (List Int) → (List Int) → Option (List Int)) (k6 : Nat) (x19 : List S151) (x20 : List Int) (x21 : List Int) : Option (List Int) :=
 rec1 (k6 + 1) x19 x20 x21
def s124_j2 (rec1 : Nat → (List S151) → (List Int) → (List Int) → Option (List Int)) (x1 : List S151) (x2 : List Int) (k6 : Nat) (y7 : S151) (x23 : List Int) : Option (List Int) :=
 s124_j1 rec1 k6 (x1 ++ [y7]) (x2 ++ [((k6 : Nat) : Int)]) x23
def s124_l1 (a0 : S23) (a2 : List S104) : List S151 → Nat → (List S151) → (List Int) → (List Int) → Option (List Int)
 | [], k6, x1, x2, x4 => bindO (s121 a2) fun r9 => bindO (s115 a0 x1 r9) fun r10 => s124_l2 x2 r10 0 x4
 | y7 :: t8, k6, x1, x2, x4 => (bif (s177 a0 y7 a2) then bindO (ixO x4 ((k6 : Nat) : Int)) fun y25 => s124_j1 (fun k_ z0_ z1_ z2_ => s124_l1 a0 a2 t8 k_ z0_ z1_ z2_) k6 x1 x2 (List.set x4 (Int.toNat ((k6 : Nat) : Int)) 0) else (bif (s178 a0 y7 a2) then bindO (ixO x4 ((k6 : Nat) : Int)) fun y26 => s124_j2 (fun k_ z0_ z1_ z2_ => s124_l1 a0 a2 t8 k_ z0_ z1_ z2_) x1 x2 k6 y7 (List.set x4 (Int.toNat ((k6 : Nat) : Int)) 2) else bindO (ixO x4 ((k6 : Nat) : Int)) fun y27 => s124_j2 (fun k_ z0_ z1_ z2_ => s124_l1 a0 a2 t8 k_ z0_ z1_ z2_) x1 x2 k6 y7 (List.set x4 (Int.toNat ((k6 : Nat) : Int)) 3)))
def s124 (a0 : S23) (a1 : List S151) (a2 : List S104) : Option (List Int) :=
 s124_l1 a0 a2 a1 0 [] [] (List.replicate (List.length a1) 0)
theorem n124 (a0 : S23) (a1 : List S151) (a2 : List S104) {R : List Int}  (hb1 : a1.length ≤ 12) (hb2 : a2.length ≤ 12) (hR : s124 a0 a1 a2 = some R) : ConN (EG glT) 124 [G.agg [G.int a0.Before, G.int a0.After, G.int a0.Notice, G.int a0.Share, G.sl 1 (List.map cStr a0.Causes), G.int a0.Off, G.int a0.Run], G.sl 3 (List.map S151.c a1), G.sl 8 (List.map S104.c a2)] 3 1 (List.map cInt R) := by
 unfold s124 at hR
 refine kl Tryz.func124 rfl rfl fun w0 M0 => ?_
 refine zc (f := S151.c) (l := a1) 1 rfl fun hla1 => ?_
 refine zc (f := S104.c) (l := a2) 2 rfl fun hla2 => ?_
 refine qd ?_
 refine qb [.p, .w] ?_
 refine st rfl rfl (zd rfl rfl) rfl ?_
 refine st_w rfl rfl (zu 6 3 1 rfl rfl rfl) rfl ?_
 refine qe ?_
 refine qd ?_
 refine qb [.p, .p, .w, .p] ?_
 refine st rfl rfl (qa rfl rfl) rfl ?_
 refine st rfl rfl (q9 (f := S151.c) (l := a1) rfl Tryz.underlying25 rfl) rfl ?_
 refine st_w rfl rfl (qgo (f := cInt) (z := 0) 16 rfl mk82 rfl rfl rfl (by first | exact Int.le_refl _ | omega) (by first | decide | omega) rfl rfl rfl) rfl ?_
 refine st rfl rfl (qy rfl rfl) rfl ?_
 refine qe ?_
 refine qd ?_
 refine qb [.w] ?_
 refine st_w rfl rfl (zu 8 152 3 rfl rfl rfl) rfl ?_
 refine qe ?_
 refine qd ?_
 refine qb [.w] ?_
 refine st_w rfl rfl (zu 9 3 1 rfl rfl rfl) rfl ?_
 refine qe ?_
 refine qd ?_
 refine qd ?_
 refine qb [.p, .p, .p] ?_
 refine st rfl rfl (qa rfl rfl) rfl ?_
 refine st rfl rfl (q9 (f := S151.c) (l := a1) rfl Tryz.underlying25 rfl) rfl ?_
 refine st rfl rfl (qa rfl rfl) rfl ?_
 refine qe ?_
 refine qn ?_
 refine qx (γ := Nat × (List S151) × (List S151) × (List Int) × (List Int)) (fun g => ([(2, .g (G.sl 8 (List.map S104.c a2))), (3, .g (G.ref [G.int a0.Before, G.int a0.After, G.int a0.Notice, G.int a0.Share, G.sl 1 (List.map cStr a0.Causes), G.int a0.Off, G.int a0.Run])), (7, .osl 16 1 0 (List.length a1)), (8, .osl 8 3 0 (List.length g.2.2.1)), (9, .osl 9 1 0 (List.length g.2.2.2.1)), (17, .g (G.sl 3 (List.map S151.c a1))), (18, .g (G.int (List.length a1 : Int))), (19, .g (G.int ((g.1 : Nat) : Int)))], [(8, .arr 152 3 (List.map S151.c g.2.2.1)), (9, .arr 3 1 (List.map cInt g.2.2.2.1)), (16, .arr 3 1 (List.map cInt g.2.2.2.2))])) (fun g => g.2.2.1.length ≤ g.1 ∧ g.2.2.2.1.length ≤ g.1 ∧ g.1 ≤ a1.length ∧ List.length g.2.2.2.2 = List.length a1 ∧ a1.drop g.1 = g.2.1 ∧ s124_l1 a0 a2 g.2.1 g.1 g.2.2.1 g.2.2.2.1 g.2.2.2.2 = some R) (fun g => List.length g.2.1) ⟨rfl, (0, a1, [], [], List.replicate (List.length a1) 0), ⟨rfl, rfl, rfl, rfl, rfl, rfl, rfl, rfl, trivial⟩, ⟨rfl, rfl, rfl, trivial⟩, rfl, ⟨(by first | (simp; done) | (simp; omega)), (by first | (simp; done) | (simp; omega)), (by first | (simp; done) | (simp; omega)), List.length_replicate, rfl, hR⟩, trivial⟩ ?_
 ·rintro ⟨k6, t8, x1, x2, x4⟩ ⟨iv1_0, iv1_1, iv1_2, ln5, hd, hR⟩
  replace hd : a1.drop k6 = t8 := hd
  replace hR : s124_l1 a0 a2 t8 k6 x1 x2 x4 = some R := hR
  replace iv1_0 : x1.length ≤ k6 := iv1_0
  replace iv1_1 : x2.length ≤ k6 := iv1_1
  replace iv1_2 : k6 ≤ a1.length := iv1_2
  replace ln5 : List.length x4 = List.length a1 := ln5
  refine qd ?_
  refine qb [.p] ?_
  refine st rfl rfl (ze rfl rfl rfl) rfl ?_
  refine qe ?_
  refine zc (f := S151.c) (l := a1) 17 rfl fun hlz1 => ?_
  refine qd ?_
  refine qm _ rfl (fun h1 => ?_) (fun h1 => ?_)
  ·replace h1 : (decide (((k6 : Nat) : Int) < (List.length a1 : Int))) = true := h1
   obtain ⟨y7, t8, rfl, hx1, hd⟩ := zh hd (decT h1)
   replace h1 := decT h1
   rw [s124_l1] at hR
   try dsimp only at hR
   refine qo ?_
   refine jt (γ := (List S151) × (List Int) × (List Int)) (fun g => ([(2, .g (G.sl 8 (List.map S104.c a2))), (3, .g (G.ref [G.int a0.Before, G.int a0.After, G.int a0.Notice, G.int a0.Share, G.sl 1 (List.map cStr a0.Causes), G.int a0.Off, G.int a0.Run])), (7, .osl 16 1 0 (List.length a1)), (8, .osl 8 3 0 (List.length g.1)), (9, .osl 9 1 0 (List.length g.2.1)), (17, .g (G.sl 3 (List.map S151.c a1))), (18, .g (G.int (List.length a1 : Int))), (19, .g (G.int ((k6 : Nat) : Int)))], [(8, .arr 152 3 (List.map S151.c g.1)), (9, .arr 3 1 (List.map cInt g.2.1)), (16, .arr 3 1 (List.map cInt g.2.2))])) (fun g => g.1.length ≤ k6 + 1 ∧ g.2.1.length ≤ k6 + 1 ∧ List.length g.2.2 = List.length a1 ∧ s124_j1 (fun k_ z0_ z1_ z2_ => s124_l1 a0 a2 t8 k_ z0_ z1_ z2_) k6 g.1 g.2.1 g.2.2 = some R) ?_ ?_
   ·refine qn ?_
    refine qd ?_
    refine qb [.p, .p, .p, .w, .p, .w] ?_
    refine st rfl rfl (qa rfl rfl) rfl ?_
    refine st rfl rfl (zi (f := S151.c) (l := a1) (a := y7) rfl Tryz.underlying25 ko rfl rfl (Int.natCast_nonneg _) hx1) rfl ?_
    refine st rfl rfl (qt rfl ko rfl rfl rfl) rfl ?_
    refine st_w rfl rfl (jm 11 rfl z152 rfl rfl) rfl ?_
    refine st rfl rfl (qc rfl rfl) rfl ?_
    refine j8 rfl rfl (zt (tv := .g (G.agg [G.str y7.Name, G.int y7.Moment, G.str y7.Kind])) rfl ko rfl rfl rfl rfl rfl) ?_
    refine qe ?_
    refine jt (γ := (List Int)) (fun g => ([(2, .g (G.sl 8 (List.map S104.c a2))), (3, .g (G.ref [G.int a0.Before, G.int a0.After, G.int a0.Notice, G.int a0.Share, G.sl 1 (List.map cStr a0.Causes), G.int a0.Off, G.int a0.Run])), (7, .osl 16 1 0 (List.length a1)), (8, .osl 8 3 0 (List.length x1)), (9, .osl 9 1 0 (List.length x2)), (10, .g (G.int ((k6 : Nat) : Int))), (11, .ptr 11 0), (17, .g (G.sl 3 (List.map S151.c a1))), (18, .g (G.int (List.length a1 : Int))), (19, .g (G.int ((k6 : Nat) : Int)))], [(8, .arr 152 3 (List.map S151.c x1)), (9, .arr 3 1 (List.map cInt x2)), (11, .box [.g (G.str y7.Name), .g (G.int y7.Moment), .g (G.str y7.Kind)]), (16, .arr 3 1 (List.map cInt g))])) (fun g => List.length g = List.length a1 ∧ s124_j2 (fun k_ z0_ z1_ z2_ => s124_l1 a0 a2 t8 k_ z0_ z1_ z2_) x1 x2 k6 y7 g = some R) ?_ ?_
    ·refine qn ?_
     refine qd ?_
     refine qb [.p, .r, .p, .p, .p] ?_
     refine st rfl rfl (qt rfl ty24 rfl rfl rfl) rfl ?_
     refine st_r rfl rfl (jo rfl ko rfl rfl rfl rfl) rfl ?_
     refine st rfl rfl (qa rfl rfl) rfl ?_
     refine st rfl rfl (qj rfl K177 rfl (c177 a0 y7 a2) (qh rfl (qh rfl (qh rfl qk)))) rfl ?_
     refine st rfl rfl (qc rfl rfl) rfl ?_
     refine qe ?_
     refine qm _ rfl (fun h5 => ?_) (fun h5 => ?_)
     ·replace h5 : ((s177 a0 y7 a2)) = true := h5
      replace hR := zk hR h5
      try simp only [Bool.or_eq_true, Bool.and_eq_true, Bool.or_eq_false_iff, Bool.and_eq_false_iff, Bool.not_eq_true', Bool.not_eq_false', decide_eq_true_eq, decide_eq_false_iff_not] at h5
      refine qd ?_
      obtain ⟨y25, by25, hR⟩ := ql hR
      refine qb [.p, .p, .p, .w] ?_
      refine st rfl rfl (qq rfl rfl) rfl ?_
      refine st rfl rfl (qa rfl rfl) rfl ?_
      refine st rfl rfl (ji rfl Tryz.underlying82 ty3 rfl rfl (z7 by25) (Nat.lt_of_lt_of_eq (jf (za by25)) ln5)) rfl ?_
      refine j8 rfl rfl (vg (f := cInt) (l := x4) (a' := 0) rfl ty3 rfl rfl rfl (Nat.lt_of_lt_of_eq (Nat.lt_of_lt_of_eq (jf (za by25)) ln5) (Eq.symm ln5)) rfl (fun _ => rfl)) ?_
      refine qe ?_
      refine zg ?_
      exact ⟨rfl, (x1, x2, List.set x4 (Int.toNat ((k6 : Nat) : Int)) 0), ⟨rfl, rfl, rfl, rfl, rfl, rfl, rfl, rfl, trivial⟩, ⟨rfl, rfl, rfl, trivial⟩, rfl, ⟨(by first | omega | (dsimp only; omega) | (simp at *; done) | (simp at *; omega)), (by first | omega | (dsimp only; omega) | (simp at *; done) | (simp at *; omega)), ((List.length_set ..).trans ln5), hR⟩, trivial⟩
     ·replace h5 : ((s177 a0 y7 a2)) = false := h5
      replace hR := zl hR h5
      refine qd ?_
      refine qb [.p, .r, .p, .p, .p] ?_
      refine st rfl rfl (qt rfl ty24 rfl rfl rfl) rfl ?_
      refine st_r rfl rfl (jo rfl ko rfl rfl rfl rfl) rfl ?_
      refine st rfl rfl (qa rfl rfl) rfl ?_
      refine st rfl rfl (qj rfl K178 rfl (c178 a0 y7 a2) (qh rfl (qh rfl (qh rfl qk)))) rfl ?_
      refine st rfl rfl (qc rfl rfl) rfl ?_
      refine qe ?_
      refine qm _ rfl (fun h6 => ?_) (fun h6 => ?_)
      ·replace h6 : ((s178 a0 y7 a2)) = true := h6
       replace hR := zk hR h6
       obtain ⟨y26, by26, hR⟩ := ql hR
       refine qb [.p, .p, .p, .w] ?_
       refine st rfl rfl (qq rfl rfl) rfl ?_
       refine st rfl rfl (qa rfl rfl) rfl ?_
       refine st rfl rfl (ji rfl Tryz.underlying82 ty3 rfl rfl (z7 by26) (Nat.lt_of_lt_of_eq (jf (za by26)) ln5)) rfl ?_
       refine j8 rfl rfl (vg (f := cInt) (l := x4) (a' := 2) rfl ty3 rfl rfl rfl (Nat.lt_of_lt_of_eq (Nat.lt_of_lt_of_eq (jf (za by26)) ln5) (Eq.symm ln5)) rfl (fun _ => rfl)) ?_
       refine qe ?_
       exact ⟨rfl, List.set x4 (Int.toNat ((k6 : Nat) : Int)) 2, ⟨rfl, rfl, rfl, rfl, rfl, rfl, rfl, rfl, rfl, rfl, trivial⟩, ⟨rfl, rfl, rfl, rfl, trivial⟩, rfl, ⟨((List.length_set ..).trans ln5), hR⟩, trivial⟩
      ·replace h6 : ((s178 a0 y7 a2)) = false := h6
       replace hR := zl hR h6
       obtain ⟨y27, by27, hR⟩ := ql hR
       refine qb [.p, .p, .p, .w] ?_
       refine st rfl rfl (qq rfl rfl) rfl ?_
       refine st rfl rfl (qa rfl rfl) rfl ?_
       refine st rfl rfl (ji rfl Tryz.underlying82 ty3 rfl rfl (z7 by27) (Nat.lt_of_lt_of_eq (jf (za by27)) ln5)) rfl ?_
       refine j8 rfl rfl (vg (f := cInt) (l := x4) (a' := 3) rfl ty3 rfl rfl rfl (Nat.lt_of_lt_of_eq (Nat.lt_of_lt_of_eq (jf (za by27)) ln5) (Eq.symm ln5)) rfl (fun _ => rfl)) ?_
       refine qe ?_
       exact ⟨rfl, List.set x4 (Int.toNat ((k6 : Nat) : Int)) 3, ⟨rfl, rfl, rfl, rfl, rfl, rfl, rfl, rfl, rfl, rfl, trivial⟩, ⟨rfl, rfl, rfl, rfl, trivial⟩, rfl, ⟨((List.length_set ..).trans ln5), hR⟩, trivial⟩
    ·rintro x23 ⟨ln24, hR⟩
     replace ln24 : List.length x23 = List.length a1 := ln24
     replace hR : s124_j2 (fun k_ z0_ z1_ z2_ => s124_l1 a0 a2 t8 k_ z0_ z1_ z2_) x1 x2 k6 y7 x23 = some R := hR
     unfold s124_j2 at hR
     refine qb [.p, .r, .p, .k, .p, .p, .p, .k, .p, .p] ?_
     refine st rfl rfl (qq rfl rfl) rfl ?_
     refine st_r rfl rfl (jo rfl ko rfl rfl rfl rfl) rfl ?_
     refine st rfl rfl (qu rfl Tryz.underlying25 ko z152 rfl (qw rfl z4) rfl (by simp [S151.c]) (by decide)) rfl ?_
     refine st_k rfl rfl (z5 (f := S151.c) (out := x1) (new := [y7]) rfl qui rfl rfl (kc rfl (vc (by decide) (by simp [S151.c]))) (vp rfl) (by simp; omega)) rfl ?_
     refine st rfl rfl (qq rfl rfl) rfl ?_
     refine st rfl rfl (qa rfl rfl) rfl ?_
     refine st rfl rfl (qu rfl Tryz.underlying82 ty3 z3 rfl (qw rfl z4) rfl (by simp []) (by decide)) rfl ?_
     refine st_k rfl rfl (z5 (f := cInt) (out := x2) (new := [((k6 : Nat) : Int)]) rfl qie rfl rfl (kc rfl (vc (by decide) (by simp []))) (vp rfl) (by simp; omega)) rfl ?_
     refine st rfl rfl (qy rfl rfl) rfl ?_
     refine st rfl rfl (qy rfl rfl) rfl ?_
     refine qe ?_
     exact ⟨rfl, (x1 ++ [y7], x2 ++ [((k6 : Nat) : Int)], x23), ⟨rfl, rfl, rfl, rfl, rfl, rfl, rfl, rfl, trivial⟩, ⟨rfl, rfl, rfl, trivial⟩, rfl, ⟨(by first | omega | (dsimp only; omega) | (simp at *; done) | (simp at *; omega)), (by first | omega | (dsimp only; omega) | (simp at *; done) | (simp at *; omega)), ln24, hR⟩, trivial⟩
   ·rintro ⟨x19, x20, x21⟩ ⟨jv2_0, jv2_1, ln22, hR⟩
    replace jv2_0 : x19.length ≤ k6 + 1 := jv2_0
    replace jv2_1 : x20.length ≤ k6 + 1 := jv2_1
    replace ln22 : List.length x21 = List.length a1 := ln22
    replace hR : s124_j1 (fun k_ z0_ z1_ z2_ => s124_l1 a0 a2 t8 k_ z0_ z1_ z2_) k6 x19 x20 x21 = some R := hR
    unfold s124_j1 at hR
    refine qb [.p, .p] ?_
    refine st rfl rfl (zj rfl rfl rfl (by unfold I64; omega)) rfl ?_
    refine st rfl rfl (qa rfl rfl) rfl ?_
    refine qe ?_
    exact ⟨rfl, (k6 + 1, t8, x19, x20, x21), ⟨rfl, rfl, rfl, rfl, rfl, rfl, rfl, rfl, trivial⟩, ⟨rfl, rfl, rfl, trivial⟩, rfl, ⟨(by first | omega | (dsimp only; omega) | (simp at *; omega)), (by first | omega | (dsimp only; omega) | (simp at *; omega)), (by first | omega | (dsimp only; omega) | (simp at *; omega)), ln22, hd, hR⟩, by simp⟩
  ·replace h1 : (decide (((k6 : Nat) : Int) < (List.length a1 : Int))) = false := h1
   obtain rfl := zm hd (decF h1)
   rw [s124_l1] at hR
   refine zg ?_
   refine qd ?_
   refine qd ?_
   obtain ⟨r9, br9, hR⟩ := ql hR
   obtain ⟨r10, br10, hR⟩ := ql hR
   have hl9 := qvz br9
   refine zw [.p, .p, .p, .p, .r, .p, .p] (by kernel_rfl) ?_
   refine st rfl rfl (qt rfl ty24 rfl rfl rfl) rfl ?_
   refine st rfl rfl (qq rfl rfl) rfl ?_
   refine st rfl rfl (qa rfl rfl) rfl ?_
   refine st rfl rfl (qj rfl K121 rfl (c121 a2 (by first | assumption | omega | (simp [qv]; omega)) br9) (qh rfl qk)) rfl ?_
   refine st_r rfl rfl (qdx rfl K115 rfl (n115 a0 x1 r9 (by first | assumption | omega | (simp [qv]; omega)) (by first | assumption | omega | (simp [qv]; omega)) br10) (by decide) (qdw fun _ => qab (qab (qgp))) (qa2 rfl (qh9 rfl rfl (qa2 rfl qh8)))) rfl ?_
   refine st rfl rfl (q9 (f := S154.c) (l := r10) rfl Tryz.underlying79 rfl) rfl ?_
   refine st rfl rfl (qa rfl rfl) rfl ?_
   refine qe ?_
   refine qn ?_
   refine qx (γ := Nat × (List S154) × (List Int)) (fun g => ([(7, .osl 16 1 0 (List.length a1)), (9, .osl 9 1 0 (List.length x2)), (56, .g (G.sl 2 (List.map S154.c r10))), (57, .g (G.int (List.length r10 : Int))), (58, .g (G.int ((g.1 : Nat) : Int)))], [(9, .arr 3 1 (List.map cInt x2)), (16, .arr 3 1 (List.map cInt g.2.2))])) (fun g => List.length g.2.2 = List.length a1 ∧ r10.drop g.1 = g.2.1 ∧ s124_l2 x2 g.2.1 g.1 g.2.2 = some R) (fun g => List.length g.2.1) ⟨rfl, (0, r10, x4), ⟨rfl, rfl, rfl, rfl, rfl, trivial⟩, ⟨rfl, rfl, trivial⟩, rfl, ⟨ln5, rfl, hR⟩, trivial⟩ ?_
   ·rintro ⟨k14, t16, x12⟩ ⟨ln13, hd, hR⟩
    replace hd : r10.drop k14 = t16 := hd
    replace hR : s124_l2 x2 t16 k14 x12 = some R := hR
    replace ln13 : List.length x12 = List.length a1 := ln13
    refine qd ?_
    refine qb [.p] ?_
    refine st rfl rfl (ze rfl rfl rfl) rfl ?_
    refine qe ?_
    refine zc (f := S154.c) (l := r10) 56 rfl fun hlz2 => ?_
    refine qd ?_
    refine qm _ rfl (fun h3 => ?_) (fun h3 => ?_)
    ·replace h3 : (decide (((k14 : Nat) : Int) < (List.length r10 : Int))) = true := h3
     obtain ⟨y15, t16, rfl, hx2, hd⟩ := zh hd (decT h3)
     replace h3 := decT h3
     rw [s124_l2] at hR
     try dsimp only at hR
     refine qo ?_
     refine qd ?_
     refine qn ?_
     refine qd ?_
     refine qb [.p, .p, .w, .w] ?_
     refine st rfl rfl (zi (f := S154.c) (l := r10) (a := y15) rfl Tryz.underlying79 qpf rfl rfl (Int.natCast_nonneg _) hx2) rfl ?_
     refine st rfl rfl (qt rfl qpf rfl rfl rfl) rfl ?_
     refine st_w rfl rfl (jm 13 rfl z155 rfl rfl) rfl ?_
     refine j8 rfl rfl (zt (tv := .g (G.agg [G.int y15.Slot, G.int y15.Record])) rfl qpf rfl rfl rfl rfl rfl) ?_
     refine qe ?_
     obtain ⟨y17, by17, hR⟩ := ql hR
     obtain ⟨y18, by18, hR⟩ := ql hR
     refine qb [.p, .p, .p, .r, .p, .r, .p, .w] ?_
     refine st rfl rfl (qq rfl rfl) rfl ?_
     refine st rfl rfl (qq rfl rfl) rfl ?_
     refine st rfl rfl (jd rfl qsf rfl) rfl ?_
     refine st_r rfl rfl (wt rfl ty3 rfl rfl rfl) rfl ?_
     refine st rfl rfl (ji rfl Tryz.underlying82 ty3 rfl rfl (z7 by17) (Nat.lt_of_lt_of_eq (jf (za by17)) rfl)) rfl ?_
     refine st_r rfl rfl (xg (f := cInt) (l := x2) (a := y17) rfl ty3 rfl rfl (za by17) rfl) rfl ?_
     refine st rfl rfl (ji rfl Tryz.underlying82 ty3 rfl rfl (z7 by18) (Nat.lt_of_lt_of_eq (jf (za by18)) ln13)) rfl ?_
     refine j8 rfl rfl (vg (f := cInt) (l := x12) (a' := 1) rfl ty3 rfl rfl rfl (Nat.lt_of_lt_of_eq (Nat.lt_of_lt_of_eq (jf (za by18)) ln13) (Eq.symm ln13)) rfl (fun _ => rfl)) ?_
     refine qe ?_
     refine qb [.p, .p] ?_
     refine st rfl rfl (zj rfl rfl rfl (by unfold I64; omega)) rfl ?_
     refine st rfl rfl (qa rfl rfl) rfl ?_
     refine qe ?_
     exact ⟨rfl, (k14 + 1, t16, List.set x12 (Int.toNat y17) 1), ⟨rfl, rfl, rfl, rfl, rfl, trivial⟩, ⟨rfl, rfl, trivial⟩, rfl, ⟨((List.length_set ..).trans ln13), hd, hR⟩, by simp⟩
    ·replace h3 : (decide (((k14 : Nat) : Int) < (List.length r10 : Int))) = false := h3
     obtain rfl := zm hd (decF h3)
     rw [s124_l2] at hR
     refine zg ?_
     refine qd ?_
     refine qb [.p, .p] ?_
     refine st rfl rfl (qq rfl rfl) rfl ?_
     refine st rfl rfl (qy rfl rfl) rfl ?_
     refine qe ?_
     refine qr ?_
     obtain rfl := Option.some.inj hR
     exact kx rfl rfl rfl ((List.length_map ..).trans ln13)
theorem c124 (a0 : S23) (a1 : List S151) (a2 : List S104) {R : List Int}  (hb1 : a1.length ≤ 12) (hb2 : a2.length ≤ 12) (hR : s124 a0 a1 a2 = some R) : Con (EG glT) 124 [G.agg [G.int a0.Before, G.int a0.After, G.int a0.Notice, G.int a0.Share, G.sl 1 (List.map cStr a0.Causes), G.int a0.Off, G.int a0.Run], G.sl 3 (List.map S151.c a1), G.sl 8 (List.map S104.c a2)] (G.sl 1 (List.map cInt R)) :=
 ConN.con (by decide) (n124 a0 a1 a2 hb1 hb2 hR)
end Go.Sim
namespace Go.Sim
theorem qhu (x2 : List Int) : ∀ (l : List S154) (k : Nat) (x r : List Int), s124_l2 x2 l k x = some r → r.length = x.length
 | [], k, x, r, h => by rw [s124_l2] at h; cases h; rfl
 | y :: l, k, x, r, h => by
  rw [s124_l2] at h
  obtain ⟨y1, h1, h⟩ := ql h
  obtain ⟨y2, h2, h⟩ := ql h
  rw [qhu x2 l _ _ _ h, List.length_set]
theorem qbh (a0 : S23) (a2 : List S104) : ∀ (l : List S151) (k : Nat) (x1 : List S151) (x2 x4 r : List Int), s124_l1 a0 a2 l k x1 x2 x4 = some r → r.length = x4.length
 | [], k, x1, x2, x4, r, h => by
  rw [s124_l1] at h
  obtain ⟨y1, h1, h⟩ := ql h
  obtain ⟨y2, h2, h⟩ := ql h
  exact qhu _ _ _ _ _ h
 | y :: l, k, x1, x2, x4, r, h => by
  rw [s124_l1] at h
  cases hc : s177 a0 y a2
  ·rw [hc, cond_false] at h
   cases hd : s178 a0 y a2
   ·rw [hd, cond_false] at h
    obtain ⟨y1, h1, h⟩ := ql h
    have := qbh a0 a2 l _ _ _ _ _ h
    rwa [List.length_set] at this
   ·rw [hd, cond_true] at h
    obtain ⟨y1, h1, h⟩ := ql h
    have := qbh a0 a2 l _ _ _ _ _ h
    rwa [List.length_set] at this
  ·rw [hc, cond_true] at h
   obtain ⟨y1, h1, h⟩ := ql h
   have := qbh a0 a2 l _ _ _ _ _ h
   rwa [List.length_set] at this
theorem qvv {a0 : S23} {a1 : List S151} {a2 : List S104} {r : List Int} (h : s124 a0 a1 a2 = some r) : r.length = a1.length := by
 rw [qbh _ _ _ _ _ _ _ _ h, List.length_replicate]
end Go.Sim
set_option linter.unusedSimpArgs false
set_option linter.unusedVariables false
set_option maxRecDepth 10000
namespace Go.Sim
open Go.Proofs
end Go.Sim
