/-
  What is proved: the walk of the states: the reference.
-/
import Derived.Test.YtdfgeoefbbkcnaaGreatDoorVsF6
import Derived.Test.YtdfgeoefbbkcnaaGreatDoorVaA4
set_option linter.unusedSectionVars false
set_option linter.unusedSimpArgs false
set_option linter.unusedVariables false
set_option linter.unnecessarySimpa false
set_option linter.deprecated false
namespace Go.Sim
end Go.Sim
set_option linter.unusedSimpArgs false
set_option linter.unusedVariables false
set_option maxRecDepth 10000
namespace Go.Sim
open Go.Proofs
def s127 (a0 : S151) (a1 : S151) : Bool :=
 (bif decide (a0.Moment ≠ a1.Moment) then decide (a0.Moment < a1.Moment) else (bif !decide (a0.Name = a1.Name) then strLt a0.Name a1.Name else strLt a0.Kind a1.Kind || decide (a0.Kind = a1.Kind)))
theorem c127 {g : List (Nat × List Value)} (a0 : S151) (a1 : S151)    : Con (EG g) 127 [G.agg [G.str a0.Name, G.int a0.Moment, G.str a0.Kind], G.agg [G.str a1.Name, G.int a1.Moment, G.str a1.Kind]] (G.bool (s127 a0 a1)) := by
 generalize hR : s127 a0 a1 = R
 unfold s127 at hR
 refine qp Tryz.func127 rfl rfl fun w0 M0 => ?_
 refine qd ?_
 refine qb [.p, .p, .p] ?_
 refine st rfl rfl (zd rfl rfl) rfl ?_
 refine st rfl rfl (zd rfl rfl) rfl ?_
 refine st rfl rfl (qc rfl rfl) rfl ?_
 refine qe ?_
 refine qd ?_
 refine qd ?_
 refine qb [.p, .p, .p, .p, .p] ?_
 refine st rfl rfl (qf rfl vd rfl) rfl ?_
 refine st rfl rfl (qi rfl ty3 rfl) rfl ?_
 refine st rfl rfl (qf rfl vd rfl) rfl ?_
 refine st rfl rfl (qi rfl ty3 rfl) rfl ?_
 refine st rfl rfl (zz rfl rfl rfl) rfl ?_
 refine qe ?_
 refine qm _ rfl (fun h1 => ?_) (fun h1 => ?_)
 ·replace h1 : (decide (a0.Moment ≠ a1.Moment)) = true := h1
  replace hR := zk hR h1
  refine qd ?_
  refine qb [.p, .p, .p, .p, .p, .p] ?_
  refine st rfl rfl (qf rfl vd rfl) rfl ?_
  refine st rfl rfl (qi rfl ty3 rfl) rfl ?_
  refine st rfl rfl (qf rfl vd rfl) rfl ?_
  refine st rfl rfl (qi rfl ty3 rfl) rfl ?_
  refine st rfl rfl (ze rfl rfl rfl) rfl ?_
  refine st rfl rfl (qc rfl rfl) rfl ?_
  refine qe ?_
  refine qr ?_
  subst hR
  exact zb rfl (rv_g rfl)
 ·replace h1 : (decide (a0.Moment ≠ a1.Moment)) = false := h1
  replace hR := zl hR h1
  refine qo ?_
  refine qd ?_
  refine qd ?_
  refine qb [.p, .p, .p, .p, .p] ?_
  refine st rfl rfl (qf rfl xh rfl) rfl ?_
  refine st rfl rfl (qi rfl ty9 rfl) rfl ?_
  refine st rfl rfl (qf rfl xh rfl) rfl ?_
  refine st rfl rfl (qi rfl ty9 rfl) rfl ?_
  refine st rfl rfl (kw rfl rfl rfl) rfl ?_
  refine qe ?_
  refine qm _ rfl (fun h2 => ?_) (fun h2 => ?_)
  ·replace h2 : (!decide (a0.Name = a1.Name)) = true := h2
   replace hR := zk hR h2
   refine qd ?_
   refine qb [.p, .p, .p, .p, .p, .p] ?_
   refine st rfl rfl (qf rfl xh rfl) rfl ?_
   refine st rfl rfl (qi rfl ty9 rfl) rfl ?_
   refine st rfl rfl (qf rfl xh rfl) rfl ?_
   refine st rfl rfl (qi rfl ty9 rfl) rfl ?_
   refine st rfl rfl (qh2 rfl rfl rfl) rfl ?_
   refine st rfl rfl (qc rfl rfl) rfl ?_
   refine qe ?_
   refine qr ?_
   subst hR
   exact zb rfl (rv_g rfl)
  ·replace h2 : (!decide (a0.Name = a1.Name)) = false := h2
   replace hR := zl hR h2
   refine qo ?_
   refine qd ?_
   refine qb [.p, .p, .p, .p, .p, .p] ?_
   refine st rfl rfl (qf rfl qbm rfl) rfl ?_
   refine st rfl rfl (qi rfl ty9 rfl) rfl ?_
   refine st rfl rfl (qf rfl qbm rfl) rfl ?_
   refine st rfl rfl (qi rfl ty9 rfl) rfl ?_
   refine st rfl rfl (qq7 rfl rfl rfl) rfl ?_
   refine st rfl rfl (qc rfl rfl) rfl ?_
   refine qe ?_
   refine qr ?_
   subst hR
   exact zb rfl (rv_g rfl)
def s179 (a0 : S104) (a1 : S151) : Bool :=
 (((decide (a0.Kind = (⟨#[119, 101, 97, 116, 104, 101, 114]⟩))) || (decide (a0.Name = a1.Name))) && (decide (a0.fFrom ≤ IntKind.i64.wrap (Int.tdiv a1.Moment 1440)))) && (decide (IntKind.i64.wrap (Int.tdiv a1.Moment 1440) ≤ a0.fTo))
theorem c179 {g : List (Nat × List Value)} (a0 : S104) (a1 : S151)    : Con (EG g) 179 [G.agg [G.str a0.Kind, G.str a0.Name, G.int a0.Moment, G.str a0.Move, G.int a0.fFrom, G.int a0.fTo, G.str a0.Cause, G.int a0.Told], G.agg [G.str a1.Name, G.int a1.Moment, G.str a1.Kind]] (G.bool (s179 a0 a1)) := by
 generalize hR : s179 a0 a1 = R
 unfold s179 at hR
 refine qp Tryz.func179 rfl rfl fun w0 M0 => ?_
 refine qd ?_
 refine qb [.p, .p, .p] ?_
 refine st rfl rfl (zd rfl rfl) rfl ?_
 refine st rfl rfl (zd rfl rfl) rfl ?_
 refine st rfl rfl (qc rfl rfl) rfl ?_
 refine qe ?_
 refine qd ?_
 refine qb [.p, .p, .p, .p] ?_
 refine st rfl rfl (qf rfl vd rfl) rfl ?_
 refine st rfl rfl (qi rfl ty3 rfl) rfl ?_
 refine st rfl rfl (we rfl rfl rfl (by decide)) rfl ?_
 refine st rfl rfl (qc rfl rfl) rfl ?_
 refine qe ?_
 refine qd ?_
 refine qb [.p, .p, .p, .p, .p, .p, .p, .p, .p, .p, .p, .p, .p, .p, .p, .p, .p, .p, .p, .p, .p, .p, .p] ?_
 refine st rfl rfl (qf rfl xi rfl) rfl ?_
 refine st rfl rfl (qi rfl ty9 rfl) rfl ?_
 refine st rfl rfl (ju rfl rfl rfl) rfl ?_
 refine st rfl rfl (qa rfl rfl) rfl ?_
 refine st_g rfl rfl rfl (qg _ _) (fun h => qf rfl qal rfl) rfl ?_
 refine st_g rfl rfl rfl (qg _ _) (fun h => qi rfl ty9 (gd h rfl)) rfl ?_
 refine st_g rfl rfl rfl (qg _ _) (fun h => qf rfl xh rfl) rfl ?_
 refine st_g rfl rfl rfl (qg _ _) (fun h => qi rfl ty9 (gd h rfl)) rfl ?_
 refine st_g rfl rfl rfl (qg _ _) (fun h => ju rfl (gd h rfl) (gd h rfl)) rfl ?_
 refine st rfl rfl (z8 rfl rfl rfl rfl) rfl ?_
 refine st rfl rfl (qa rfl rfl) rfl ?_
 refine st_g rfl rfl rfl (qg _ _) (fun h => qa rfl rfl) rfl ?_
 refine st_g rfl rfl rfl (qg _ _) (fun h => qf rfl qe0 rfl) rfl ?_
 refine st_g rfl rfl rfl (qg _ _) (fun h => qi rfl ty3 (gd h rfl)) rfl ?_
 refine st_g rfl rfl rfl (qg _ _) (fun h => vi rfl (gd h rfl) (gd h rfl)) rfl ?_
 refine st rfl rfl (zf rfl rfl rfl rfl) rfl ?_
 refine st rfl rfl (qa rfl rfl) rfl ?_
 refine st_g rfl rfl rfl (qg _ _) (fun h => qa rfl rfl) rfl ?_
 refine st_g rfl rfl rfl (qg _ _) (fun h => qf rfl qe1 rfl) rfl ?_
 refine st_g rfl rfl rfl (qg _ _) (fun h => qi rfl ty3 (gd h rfl)) rfl ?_
 refine st_g rfl rfl rfl (qg _ _) (fun h => kg rfl (gd h rfl) (gd h rfl)) rfl ?_
 refine st rfl rfl (zf rfl rfl rfl rfl) rfl ?_
 refine st rfl rfl (qc rfl rfl) rfl ?_
 refine qe ?_
 refine qr ?_
 subst hR
 exact zb rfl (rv_g rfl)
def s128_l1 (a0 : S23) (a1 : S151) : List S104 → Nat → Bool
 | [], k2 => false
 | y3 :: t4, k2 => (bif ((decide (y3.Kind = (⟨#[98, 97, 99, 107]⟩))) && (s179 y3 a1)) && (decide (IntKind.i64.wrap (y3.Told + a0.Notice) ≤ IntKind.i64.wrap (Int.tdiv a1.Moment 1440))) then true else s128_l1 a0 a1 t4 (k2 + 1))
def s128 (a0 : S23) (a1 : S151) (a2 : List S104) : Bool :=
 s128_l1 a0 a1 a2 0
theorem c128 {g : List (Nat × List Value)} (a0 : S23) (a1 : S151) (a2 : List S104)    : Con (EG g) 128 [G.agg [G.int a0.Before, G.int a0.After, G.int a0.Notice, G.int a0.Share, G.sl 1 (List.map cStr a0.Causes), G.int a0.Off, G.int a0.Run], G.agg [G.str a1.Name, G.int a1.Moment, G.str a1.Kind], G.sl 8 (List.map S104.c a2)] (G.bool (s128 a0 a1 a2)) := by
 generalize hR : s128 a0 a1 a2 = R
 unfold s128 at hR
 refine qp Tryz.func128 rfl rfl fun w0 M0 => ?_
 refine zc (f := S104.c) (l := a2) 2 rfl fun hla2 => ?_
 refine qd ?_
 refine qb [.p, .p, .p] ?_
 refine st rfl rfl (zd rfl rfl) rfl ?_
 refine st rfl rfl (zd rfl rfl) rfl ?_
 refine st rfl rfl (qc rfl rfl) rfl ?_
 refine qe ?_
 refine qd ?_
 refine qd ?_
 refine qb [.p] ?_
 refine st rfl rfl (qc rfl rfl) rfl ?_
 refine qe ?_
 refine qn ?_
 refine qx (γ := Nat × (List S104)) (fun g => ([(2, .g (G.sl 8 (List.map S104.c a2))), (3, .g (G.ref [G.int a0.Before, G.int a0.After, G.int a0.Notice, G.int a0.Share, G.sl 1 (List.map cStr a0.Causes), G.int a0.Off, G.int a0.Run])), (4, .g (G.ref [G.str a1.Name, G.int a1.Moment, G.str a1.Kind])), (7, .g (G.int ((g.1 : Nat) : Int)))], [])) (fun g => a2.drop g.1 = g.2 ∧ s128_l1 a0 a1 g.2 g.1 = R) (fun g => List.length g.2) ⟨rfl, (0, a2), ⟨rfl, rfl, rfl, rfl, trivial⟩, trivial, rfl, ⟨rfl, hR⟩, trivial⟩ ?_
 ·rintro ⟨k2, t4⟩ ⟨hd, hR⟩
  replace hd : a2.drop k2 = t4 := hd
  replace hR : s128_l1 a0 a1 t4 k2 = R := hR
  refine qd ?_
  refine qd ?_
  refine qb [.p, .p, .p, .p] ?_
  refine st rfl rfl (qa rfl rfl) rfl ?_
  refine st rfl rfl (qa rfl rfl) rfl ?_
  refine st rfl rfl (q9 (f := S104.c) (l := a2) rfl Tryz.underlying35 rfl) rfl ?_
  refine st rfl rfl (ze rfl rfl rfl) rfl ?_
  refine qe ?_
  refine zc (f := S104.c) (l := a2) 2 rfl fun hlz1 => ?_
  refine qm _ rfl (fun h1 => ?_) (fun h1 => ?_)
  ·replace h1 : (decide (((k2 : Nat) : Int) < (List.length a2 : Int))) = true := h1
   obtain ⟨y3, t4, rfl, hx1, hd⟩ := zh hd (decT h1)
   replace h1 := decT h1
   rw [s128_l1] at hR
   try dsimp only at hR
   refine qo ?_
   refine qd ?_
   refine qn ?_
   refine qd ?_
   refine zw [.p, .p, .p, .p, .p, .p, .p, .p, .p, .p, .p, .p, .p, .p, .p, .p, .p, .p, .p, .p, .p, .p, .p, .p, .p, .p, .p, .p] (by kernel_rfl) ?_
   refine st rfl rfl (qa rfl rfl) rfl ?_
   refine st rfl rfl (qa rfl rfl) rfl ?_
   refine st rfl rfl (zi (f := S104.c) (l := a2) (a := y3) rfl Tryz.underlying35 xj rfl rfl (Int.natCast_nonneg _) hx1) rfl ?_
   refine st rfl rfl (qf rfl xi rfl) rfl ?_
   refine st rfl rfl (qi rfl ty9 rfl) rfl ?_
   refine st rfl rfl (ju rfl rfl rfl) rfl ?_
   refine st rfl rfl (qa rfl rfl) rfl ?_
   refine st_g rfl rfl rfl (qg _ _) (fun h => qa rfl rfl) rfl ?_
   refine st_g rfl rfl rfl (qg _ _) (fun h => qa rfl rfl) rfl ?_
   refine st_g rfl rfl rfl (qg _ _) (fun h => zi (f := S104.c) (l := a2) (a := y3) rfl Tryz.underlying35 xj (gd h rfl) (gd h rfl) (Int.natCast_nonneg _) hx1) rfl ?_
   refine st_g rfl rfl rfl (qg _ _) (fun h => qt rfl xj (gd h rfl) rfl rfl) rfl ?_
   refine st_g rfl rfl rfl (qg _ _) (fun h => qt rfl km rfl rfl rfl) rfl ?_
   refine st_g rfl rfl rfl (qg _ _) (fun h => qj rfl K179 rfl (c179 y3 a1) (qh (gd h rfl) (qh (gd h rfl) qk))) rfl ?_
   refine st rfl rfl (zf rfl rfl rfl rfl) rfl ?_
   refine st rfl rfl (qa rfl rfl) rfl ?_
   refine st_g rfl rfl rfl (qg _ _) (fun h => qa rfl rfl) rfl ?_
   refine st_g rfl rfl rfl (qg _ _) (fun h => qa rfl rfl) rfl ?_
   refine st_g rfl rfl rfl (qg _ _) (fun h => zi (f := S104.c) (l := a2) (a := y3) rfl Tryz.underlying35 xj (gd h rfl) (gd h rfl) (Int.natCast_nonneg _) hx1) rfl ?_
   refine st_g rfl rfl rfl (qg _ _) (fun h => qf rfl qic (gd h rfl)) rfl ?_
   refine st_g rfl rfl rfl (qg _ _) (fun h => qi rfl ty3 (gd h rfl)) rfl ?_
   refine st_g rfl rfl rfl (qg _ _) (fun h => qf rfl qpz rfl) rfl ?_
   refine st_g rfl rfl rfl (qg _ _) (fun h => qi rfl ty3 (gd h rfl)) rfl ?_
   refine st_g rfl rfl rfl (qg _ _) (fun h => j6 rfl (gd h rfl) (gd h rfl)) rfl ?_
   refine st_g rfl rfl rfl (qg _ _) (fun h => qf rfl vd rfl) rfl ?_
   refine st_g rfl rfl rfl (qg _ _) (fun h => qi rfl ty3 (gd h rfl)) rfl ?_
   refine st_g rfl rfl rfl (qg _ _) (fun h => we rfl (gd h rfl) rfl (by decide)) rfl ?_
   refine st_g rfl rfl rfl (qg _ _) (fun h => kg rfl (gd h rfl) (gd h rfl)) rfl ?_
   refine st rfl rfl (zf rfl rfl rfl rfl) rfl ?_
   refine qe ?_
   refine qm _ rfl (fun h3 => ?_) (fun h3 => ?_)
   ·replace h3 : (((decide (y3.Kind = (⟨#[98, 97, 99, 107]⟩))) && (s179 y3 a1)) && (decide (IntKind.i64.wrap (y3.Told + a0.Notice) ≤ IntKind.i64.wrap (Int.tdiv a1.Moment 1440)))) = true := h3
    replace hR := zk hR h3
    refine qd ?_
    refine qb [.p] ?_
    refine st rfl rfl (qc rfl rfl) rfl ?_
    refine qe ?_
    refine qr ?_
    subst hR
    exact zb rfl (rv_g rfl)
   ·replace h3 : (((decide (y3.Kind = (⟨#[98, 97, 99, 107]⟩))) && (s179 y3 a1)) && (decide (IntKind.i64.wrap (y3.Told + a0.Notice) ≤ IntKind.i64.wrap (Int.tdiv a1.Moment 1440)))) = false := h3
    replace hR := zl hR h3
    try simp only [Bool.or_eq_true, Bool.and_eq_true, Bool.or_eq_false_iff, Bool.and_eq_false_iff, Bool.not_eq_true', Bool.not_eq_false', decide_eq_true_eq, decide_eq_false_iff_not] at h3
    refine qo ?_
    refine qb [.p, .p, .p] ?_
    refine st rfl rfl (qa rfl rfl) rfl ?_
    refine st rfl rfl (zj rfl rfl rfl (by unfold I64; omega)) rfl ?_
    refine st rfl rfl (qc rfl rfl) rfl ?_
    refine qe ?_
    exact ⟨rfl, (k2 + 1, t4), ⟨rfl, rfl, rfl, rfl, trivial⟩, trivial, rfl, ⟨hd, hR⟩, by simp⟩
  ·replace h1 : (decide (((k2 : Nat) : Int) < (List.length a2 : Int))) = false := h1
   obtain rfl := zm hd (decF h1)
   rw [s128_l1] at hR
   refine zg ?_
   refine qd ?_
   refine qb [.p] ?_
   refine st rfl rfl (qc rfl rfl) rfl ?_
   refine qe ?_
   refine qr ?_
   subst hR
   exact zb rfl (rv_g rfl)
def s129_l1 (a0 : S23) (a1 : S151) : List S104 → Nat → Bool
 | [], k2 => false
 | y3 :: t4, k2 => (bif (s179 y3 a1) && ((decide (y3.Kind = (⟨#[119, 101, 97, 116, 104, 101, 114]⟩))) || ((decide (y3.Kind = (⟨#[99, 97, 110, 99, 101, 108]⟩))) && (s92 a0.Causes y3.Cause))) then true else s129_l1 a0 a1 t4 (k2 + 1))
def s129 (a0 : S23) (a1 : S151) (a2 : List S104) : Bool :=
 s129_l1 a0 a1 a2 0
theorem c129 {g : List (Nat × List Value)} (a0 : S23) (a1 : S151) (a2 : List S104)    : Con (EG g) 129 [G.agg [G.int a0.Before, G.int a0.After, G.int a0.Notice, G.int a0.Share, G.sl 1 (List.map cStr a0.Causes), G.int a0.Off, G.int a0.Run], G.agg [G.str a1.Name, G.int a1.Moment, G.str a1.Kind], G.sl 8 (List.map S104.c a2)] (G.bool (s129 a0 a1 a2)) := by
 generalize hR : s129 a0 a1 a2 = R
 unfold s129 at hR
 refine qp Tryz.func129 rfl rfl fun w0 M0 => ?_
 refine zc (f := S104.c) (l := a2) 2 rfl fun hla2 => ?_
 refine qd ?_
 refine qb [.p, .p, .p] ?_
 refine st rfl rfl (zd rfl rfl) rfl ?_
 refine st rfl rfl (zd rfl rfl) rfl ?_
 refine st rfl rfl (qc rfl rfl) rfl ?_
 refine qe ?_
 refine qd ?_
 refine qd ?_
 refine qb [.p] ?_
 refine st rfl rfl (qc rfl rfl) rfl ?_
 refine qe ?_
 refine qn ?_
 refine qx (γ := Nat × (List S104)) (fun g => ([(2, .g (G.sl 8 (List.map S104.c a2))), (3, .g (G.ref [G.int a0.Before, G.int a0.After, G.int a0.Notice, G.int a0.Share, G.sl 1 (List.map cStr a0.Causes), G.int a0.Off, G.int a0.Run])), (4, .g (G.ref [G.str a1.Name, G.int a1.Moment, G.str a1.Kind])), (7, .g (G.int ((g.1 : Nat) : Int)))], [])) (fun g => a2.drop g.1 = g.2 ∧ s129_l1 a0 a1 g.2 g.1 = R) (fun g => List.length g.2) ⟨rfl, (0, a2), ⟨rfl, rfl, rfl, rfl, trivial⟩, trivial, rfl, ⟨rfl, hR⟩, trivial⟩ ?_
 ·rintro ⟨k2, t4⟩ ⟨hd, hR⟩
  replace hd : a2.drop k2 = t4 := hd
  replace hR : s129_l1 a0 a1 t4 k2 = R := hR
  refine qd ?_
  refine qd ?_
  refine qb [.p, .p, .p, .p] ?_
  refine st rfl rfl (qa rfl rfl) rfl ?_
  refine st rfl rfl (qa rfl rfl) rfl ?_
  refine st rfl rfl (q9 (f := S104.c) (l := a2) rfl Tryz.underlying35 rfl) rfl ?_
  refine st rfl rfl (ze rfl rfl rfl) rfl ?_
  refine qe ?_
  refine zc (f := S104.c) (l := a2) 2 rfl fun hlz1 => ?_
  refine qm _ rfl (fun h1 => ?_) (fun h1 => ?_)
  ·replace h1 : (decide (((k2 : Nat) : Int) < (List.length a2 : Int))) = true := h1
   obtain ⟨y3, t4, rfl, hx1, hd⟩ := zh hd (decT h1)
   replace h1 := decT h1
   rw [s129_l1] at hR
   try dsimp only at hR
   refine qo ?_
   refine qd ?_
   refine qn ?_
   refine qd ?_
   refine zw [.p, .p, .p, .p, .p, .p, .p, .p, .p, .p, .p, .p, .p, .p, .p, .p, .p, .p, .p, .p, .p, .p, .p, .p, .p, .p, .p, .p, .p, .p, .p, .p] (by kernel_rfl) ?_
   refine st rfl rfl (qa rfl rfl) rfl ?_
   refine st rfl rfl (qa rfl rfl) rfl ?_
   refine st rfl rfl (zi (f := S104.c) (l := a2) (a := y3) rfl Tryz.underlying35 xj rfl rfl (Int.natCast_nonneg _) hx1) rfl ?_
   refine st rfl rfl (qt rfl xj rfl rfl rfl) rfl ?_
   refine st rfl rfl (qt rfl km rfl rfl rfl) rfl ?_
   refine st rfl rfl (qj rfl K179 rfl (c179 y3 a1) (qh rfl (qh rfl qk))) rfl ?_
   refine st rfl rfl (qa rfl rfl) rfl ?_
   refine st_g rfl rfl rfl (qg _ _) (fun h => qa rfl rfl) rfl ?_
   refine st_g rfl rfl rfl (qg _ _) (fun h => qa rfl rfl) rfl ?_
   refine st_g rfl rfl rfl (qg _ _) (fun h => zi (f := S104.c) (l := a2) (a := y3) rfl Tryz.underlying35 xj (gd h rfl) (gd h rfl) (Int.natCast_nonneg _) hx1) rfl ?_
   refine st_g rfl rfl rfl (qg _ _) (fun h => qf rfl xi (gd h rfl)) rfl ?_
   refine st_g rfl rfl rfl (qg _ _) (fun h => qi rfl ty9 (gd h rfl)) rfl ?_
   refine st_g rfl rfl rfl (qg _ _) (fun h => ju rfl (gd h rfl) rfl) rfl ?_
   refine st_g rfl rfl rfl (qg _ _) (fun h => qa rfl (gd h rfl)) rfl ?_
   refine st_g rfl rfl rfl (zq _ _ _) (fun h => qa rfl rfl) rfl ?_
   refine st_g rfl rfl rfl (zq _ _ _) (fun h => qa rfl rfl) rfl ?_
   refine st_g rfl rfl rfl (zq _ _ _) (fun h => zi (f := S104.c) (l := a2) (a := y3) rfl Tryz.underlying35 xj (gd h rfl) (gd h rfl) (Int.natCast_nonneg _) hx1) rfl ?_
   refine st_g rfl rfl rfl (zq _ _ _) (fun h => qf rfl xi (gd h rfl)) rfl ?_
   refine st_g rfl rfl rfl (zq _ _ _) (fun h => qi rfl ty9 (gd h rfl)) rfl ?_
   refine st_g rfl rfl rfl (zq _ _ _) (fun h => ju rfl (gd h rfl) rfl) rfl ?_
   refine st_g rfl rfl rfl (zq _ _ _) (fun h => qa rfl (gd h rfl)) rfl ?_
   refine st_g rfl rfl rfl (zq _ _ _) (fun h => qf rfl wy rfl) rfl ?_
   refine st_g rfl rfl rfl (zq _ _ _) (fun h => qi rfl ty22 (gd h rfl)) rfl ?_
   refine st_g rfl rfl rfl (zq _ _ _) (fun h => qa rfl rfl) rfl ?_
   refine st_g rfl rfl rfl (zq _ _ _) (fun h => qa rfl rfl) rfl ?_
   refine st_g rfl rfl rfl (zq _ _ _) (fun h => zi (f := S104.c) (l := a2) (a := y3) rfl Tryz.underlying35 xj (gd h rfl) (gd h rfl) (Int.natCast_nonneg _) hx1) rfl ?_
   refine st_g rfl rfl rfl (zq _ _ _) (fun h => qf rfl qe2 (gd h rfl)) rfl ?_
   refine st_g rfl rfl rfl (zq _ _ _) (fun h => qi rfl ty9 (gd h rfl)) rfl ?_
   refine st_g rfl rfl rfl (zq _ _ _) (fun h => qj rfl K92 rfl (c92 a0.Causes y3.Cause) (qh (gd h rfl) (qh (gd h rfl) qk))) rfl ?_
   refine st_g rfl rfl rfl (zq _ _ _) (fun h => zf rfl (gd h rfl) rfl (gd2 h rfl)) rfl ?_
   refine st_g rfl rfl rfl (qg _ _) (fun h => z8 rfl (gd h rfl) rfl (gd2 h rfl)) rfl ?_
   refine st rfl rfl (zf rfl rfl rfl rfl) rfl ?_
   refine qe ?_
   refine qm _ rfl (fun h3 => ?_) (fun h3 => ?_)
   ·replace h3 : ((s179 y3 a1) && ((decide (y3.Kind = (⟨#[119, 101, 97, 116, 104, 101, 114]⟩))) || ((decide (y3.Kind = (⟨#[99, 97, 110, 99, 101, 108]⟩))) && (s92 a0.Causes y3.Cause)))) = true := h3
    replace hR := zk hR h3
    refine qd ?_
    refine qb [.p] ?_
    refine st rfl rfl (qc rfl rfl) rfl ?_
    refine qe ?_
    refine qr ?_
    subst hR
    exact zb rfl (rv_g rfl)
   ·replace h3 : ((s179 y3 a1) && ((decide (y3.Kind = (⟨#[119, 101, 97, 116, 104, 101, 114]⟩))) || ((decide (y3.Kind = (⟨#[99, 97, 110, 99, 101, 108]⟩))) && (s92 a0.Causes y3.Cause)))) = false := h3
    replace hR := zl hR h3
    try simp only [Bool.or_eq_true, Bool.and_eq_true, Bool.or_eq_false_iff, Bool.and_eq_false_iff, Bool.not_eq_true', Bool.not_eq_false', decide_eq_true_eq, decide_eq_false_iff_not] at h3
    refine qo ?_
    refine qb [.p, .p, .p] ?_
    refine st rfl rfl (qa rfl rfl) rfl ?_
    refine st rfl rfl (zj rfl rfl rfl (by unfold I64; omega)) rfl ?_
    refine st rfl rfl (qc rfl rfl) rfl ?_
    refine qe ?_
    exact ⟨rfl, (k2 + 1, t4), ⟨rfl, rfl, rfl, rfl, trivial⟩, trivial, rfl, ⟨hd, hR⟩, by simp⟩
  ·replace h1 : (decide (((k2 : Nat) : Int) < (List.length a2 : Int))) = false := h1
   obtain rfl := zm hd (decF h1)
   rw [s129_l1] at hR
   refine zg ?_
   refine qd ?_
   refine qb [.p] ?_
   refine st rfl rfl (qc rfl rfl) rfl ?_
   refine qe ?_
   refine qr ?_
   subst hR
   exact zb rfl (rv_g rfl)
def s130_j1 (rec1 : Nat → Int → Int → Option S55) (k4 : Nat) (x7 : Int) (x8 : Int) : Option S55 :=
 rec1 (k4 + 1) x7 x8
def s130_l1 (a1 : List ByteArray) (a2 : ByteArray) (a3 : Int) : List S151 → Nat → Int → Int → Option S55
 | [], k4, x2, x3 => some (S55.mk x2 x3)
 | y5 :: t6, k4, x2, x3 => bindO (bif !(((!decide (a2 = (⟨#[]⟩))) && (!decide (y5.Name = a2))) || ((decide (0 ≤ a3)) && (decide ((s180 (IntKind.i64.wrap (Int.tdiv y5.Moment 1440))) ≠ a3)))) then ixO a1 ((k4 : Nat) : Int) else some default) fun y9 => (bif (((!decide (a2 = (⟨#[]⟩))) && (!decide (y5.Name = a2))) || ((decide (0 ≤ a3)) && (decide ((s180 (IntKind.i64.wrap (Int.tdiv y5.Moment 1440))) ≠ a3)))) || (decide (y9 = (⟨#[114, 101, 116, 117, 114, 110, 101, 100]⟩))) then s130_j1 (fun k_ z0_ z1_ => s130_l1 a1 a2 a3 t6 k_ z0_ z1_) k4 x2 x3 else bindO (ixO a1 ((k4 : Nat) : Int)) fun y10 => (bif !decide (y10 = (⟨#[109, 105, 115, 115, 101, 100]⟩)) then s130_j1 (fun k_ z0_ z1_ => s130_l1 a1 a2 a3 t6 k_ z0_ z1_) k4 (IntKind.i64.wrap (x2 + 1)) (IntKind.i64.wrap (x3 + 1)) else s130_j1 (fun k_ z0_ z1_ => s130_l1 a1 a2 a3 t6 k_ z0_ z1_) k4 x2 (IntKind.i64.wrap (x3 + 1))))
def s130 (a0 : List S151) (a1 : List ByteArray) (a2 : ByteArray) (a3 : Int) : Option S55 :=
 s130_l1 a1 a2 a3 a0 0 0 0
theorem c130 {g : List (Nat × List Value)} (a0 : List S151) (a1 : List ByteArray) (a2 : ByteArray) (a3 : Int) {R : S55}   (hR : s130 a0 a1 a2 a3 = some R) : Con (EG g) 130 [G.sl 3 (List.map S151.c a0), G.sl 1 (List.map cStr a1), G.str a2, G.int a3] (G.agg [G.int R.Flown, G.int R.Due]) := by
 unfold s130 at hR
 refine qp Tryz.func130 rfl rfl fun w0 M0 => ?_
 refine zc (f := S151.c) (l := a0) 0 rfl fun hla0 => ?_
 refine zc (f := cStr) (l := a1) 1 rfl fun hla1 => ?_
 refine qd ?_
 refine qb [.w] ?_
 refine st_w rfl rfl (jm 8 rfl z63 rfl rfl) rfl ?_
 refine qe ?_
 refine qd ?_
 refine qb [.w] ?_
 refine st_w rfl rfl (jm 9 rfl z63 rfl rfl) rfl ?_
 refine qe ?_
 refine qd ?_
 refine qd ?_
 refine qb [.p] ?_
 refine st rfl rfl (qc rfl rfl) rfl ?_
 refine qe ?_
 refine qn ?_
 refine qx (γ := Nat × (List S151) × Int × Int) (fun g => ([(0, .g (G.sl 3 (List.map S151.c a0))), (1, .g (G.sl 1 (List.map cStr a1))), (2, .g (G.str a2)), (3, .g (G.int a3)), (8, .ptr 8 0), (9, .ptr 9 0), (10, .g (G.int ((g.1 : Nat) : Int)))], [(8, .box [.g (G.int 0), .g (G.int 0)]), (9, .box [.g (G.int g.2.2.1), .g (G.int g.2.2.2)])])) (fun g => a0.drop g.1 = g.2.1 ∧ s130_l1 a1 a2 a3 g.2.1 g.1 g.2.2.1 g.2.2.2 = some R) (fun g => List.length g.2.1) ⟨rfl, (0, a0, 0, 0), ⟨rfl, rfl, rfl, rfl, rfl, rfl, rfl, trivial⟩, ⟨rfl, rfl, trivial⟩, rfl, ⟨rfl, hR⟩, trivial⟩ ?_
 ·rintro ⟨k4, t6, x2, x3⟩ ⟨hd, hR⟩
  replace hd : a0.drop k4 = t6 := hd
  replace hR : s130_l1 a1 a2 a3 t6 k4 x2 x3 = some R := hR
  refine qd ?_
  refine qd ?_
  refine qb [.p, .p, .p, .p] ?_
  refine st rfl rfl (qa rfl rfl) rfl ?_
  refine st rfl rfl (qa rfl rfl) rfl ?_
  refine st rfl rfl (q9 (f := S151.c) (l := a0) rfl Tryz.underlying32 rfl) rfl ?_
  refine st rfl rfl (ze rfl rfl rfl) rfl ?_
  refine qe ?_
  refine zc (f := S151.c) (l := a0) 0 rfl fun hlz1 => ?_
  refine qm _ rfl (fun h1 => ?_) (fun h1 => ?_)
  ·replace h1 : (decide (((k4 : Nat) : Int) < (List.length a0 : Int))) = true := h1
   obtain ⟨y5, t6, rfl, hx1, hd⟩ := zh hd (decT h1)
   replace h1 := decT h1
   rw [s130_l1] at hR
   try dsimp only at hR
   refine qo ?_
   refine jt (γ := Int × Int) (fun g => ([(0, .g (G.sl 3 (List.map S151.c a0))), (1, .g (G.sl 1 (List.map cStr a1))), (2, .g (G.str a2)), (3, .g (G.int a3)), (8, .ptr 8 0), (9, .ptr 9 0), (10, .g (G.int ((k4 : Nat) : Int)))], [(8, .box [.g (G.int 0), .g (G.int 0)]), (9, .box [.g (G.int g.1), .g (G.int g.2)])])) (fun g => s130_j1 (fun k_ z0_ z1_ => s130_l1 a1 a2 a3 t6 k_ z0_ z1_) k4 g.1 g.2 = some R) ?_ ?_
   ·refine qn ?_
    refine qd ?_
    refine qd ?_
    obtain ⟨y9, by9, hR⟩ := ql hR
    refine qb [.p, .p, .p, .p, .p, .p, .p, .p, .p, .p, .p, .p, .p, .p, .p, .p, .p, .p, .p, .p, .p, .p, .p, .p, .p, .p, .p, .p, .p, .p, .p, .p, .p] ?_
    refine st rfl rfl (qa rfl rfl) rfl ?_
    refine st rfl rfl (kw rfl rfl rfl) rfl ?_
    refine st rfl rfl (qa rfl rfl) rfl ?_
    refine st_g rfl rfl rfl (qg _ _) (fun h => qa rfl rfl) rfl ?_
    refine st_g rfl rfl rfl (qg _ _) (fun h => qa rfl rfl) rfl ?_
    refine st_g rfl rfl rfl (qg _ _) (fun h => zi (f := S151.c) (l := a0) (a := y5) rfl Tryz.underlying32 km (gd h rfl) (gd h rfl) (Int.natCast_nonneg _) hx1) rfl ?_
    refine st_g rfl rfl rfl (qg _ _) (fun h => qf rfl xh (gd h rfl)) rfl ?_
    refine st_g rfl rfl rfl (qg _ _) (fun h => qi rfl ty9 (gd h rfl)) rfl ?_
    refine st_g rfl rfl rfl (qg _ _) (fun h => qa rfl rfl) rfl ?_
    refine st_g rfl rfl rfl (qg _ _) (fun h => kw rfl (gd h rfl) (gd h rfl)) rfl ?_
    refine st rfl rfl (zf rfl rfl rfl rfl) rfl ?_
    refine st rfl rfl (qa rfl rfl) rfl ?_
    refine st_g rfl rfl rfl (qg _ _) (fun h => qa rfl rfl) rfl ?_
    refine st_g rfl rfl rfl (qg _ _) (fun h => vi rfl (gd h rfl) rfl) rfl ?_
    refine st_g rfl rfl rfl (qg _ _) (fun h => qa rfl (gd h rfl)) rfl ?_
    refine st_g rfl rfl rfl (zq _ _ _) (fun h => qa rfl rfl) rfl ?_
    refine st_g rfl rfl rfl (zq _ _ _) (fun h => qa rfl rfl) rfl ?_
    refine st_g rfl rfl rfl (zq _ _ _) (fun h => zi (f := S151.c) (l := a0) (a := y5) rfl Tryz.underlying32 km (gd h rfl) (gd h rfl) (Int.natCast_nonneg _) hx1) rfl ?_
    refine st_g rfl rfl rfl (zq _ _ _) (fun h => qf rfl vd (gd h rfl)) rfl ?_
    refine st_g rfl rfl rfl (zq _ _ _) (fun h => qi rfl ty3 (gd h rfl)) rfl ?_
    refine st_g rfl rfl rfl (zq _ _ _) (fun h => we rfl (gd h rfl) rfl (by decide)) rfl ?_
    refine st_g rfl rfl rfl (zq _ _ _) (fun h => qj rfl K180 rfl (c180 (IntKind.i64.wrap (Int.tdiv y5.Moment 1440))) (qh (gd h rfl) qk)) rfl ?_
    refine st_g rfl rfl rfl (zq _ _ _) (fun h => qa rfl rfl) rfl ?_
    refine st_g rfl rfl rfl (zq _ _ _) (fun h => zz rfl (gd h rfl) (gd h rfl)) rfl ?_
    refine st_g rfl rfl rfl (qg _ _) (fun h => zf rfl (gd h rfl) rfl (gd2 h rfl)) rfl ?_
    refine st rfl rfl (z8 rfl rfl rfl rfl) rfl ?_
    refine st rfl rfl (qa rfl rfl) rfl ?_
    refine st_g rfl rfl rfl (qg _ _) (fun h => qa rfl rfl) rfl ?_
    refine st_g rfl rfl rfl (qg _ _) (fun h => qa rfl rfl) rfl ?_
    refine st_g rfl rfl rfl (qg _ _) (fun h => zi (f := cStr) (l := a1) (a := y9) rfl Tryz.underlying22 ty9 (gd h rfl) (gd h rfl) (z7 (qcw by9 h)) (za (qcw by9 h))) rfl ?_
    refine st_g rfl rfl rfl (qg _ _) (fun h => qi rfl ty9 (gd h rfl)) rfl ?_
    refine st_g rfl rfl rfl (qg _ _) (fun h => ju rfl (gd h rfl) rfl) rfl ?_
    refine st rfl rfl (z8 rfl rfl rfl rfl) rfl ?_
    refine qe ?_
    refine qm _ rfl (fun h3 => ?_) (fun h3 => ?_)
    ·replace h3 : ((((!decide (a2 = (⟨#[]⟩))) && (!decide (y5.Name = a2))) || ((decide (0 ≤ a3)) && (decide ((s180 (IntKind.i64.wrap (Int.tdiv y5.Moment 1440))) ≠ a3)))) || (decide (y9 = (⟨#[114, 101, 116, 117, 114, 110, 101, 100]⟩)))) = true := h3
     replace hR := zk hR h3
     refine zg ?_
     exact ⟨rfl, (x2, x3), ⟨rfl, rfl, rfl, rfl, rfl, rfl, rfl, trivial⟩, ⟨rfl, rfl, trivial⟩, rfl, hR, trivial⟩
    ·replace h3 : ((((!decide (a2 = (⟨#[]⟩))) && (!decide (y5.Name = a2))) || ((decide (0 ≤ a3)) && (decide ((s180 (IntKind.i64.wrap (Int.tdiv y5.Moment 1440))) ≠ a3)))) || (decide (y9 = (⟨#[114, 101, 116, 117, 114, 110, 101, 100]⟩)))) = false := h3
     replace hR := zl hR h3
     refine qo ?_
     refine qd ?_
     refine qb [.p, .r, .p, .p, .w] ?_
     refine st rfl rfl (jd rfl qc0 rfl) rfl ?_
     refine st_r rfl rfl (wt rfl ty3 rfl rfl rfl) rfl ?_
     refine st rfl rfl (j6 rfl rfl rfl) rfl ?_
     refine st rfl rfl (jd rfl qc0 rfl) rfl ?_
     refine j8 rfl rfl (zt (tv := .g (G.int (IntKind.i64.wrap (x3 + 1)))) rfl ty3 rfl rfl rfl rfl rfl) ?_
     refine qe ?_
     refine qd ?_
     obtain ⟨y10, by10, hR⟩ := ql hR
     refine qb [.p, .p, .p, .p, .p] ?_
     refine st rfl rfl (qa rfl rfl) rfl ?_
     refine st rfl rfl (qa rfl rfl) rfl ?_
     refine st rfl rfl (zi (f := cStr) (l := a1) (a := y10) rfl Tryz.underlying22 ty9 rfl rfl (z7 by10) (za by10)) rfl ?_
     refine st rfl rfl (qi rfl ty9 rfl) rfl ?_
     refine st rfl rfl (kw rfl rfl rfl) rfl ?_
     refine qe ?_
     refine qm _ rfl (fun h4 => ?_) (fun h4 => ?_)
     ·replace h4 : (!decide (y10 = (⟨#[109, 105, 115, 115, 101, 100]⟩))) = true := h4
      replace hR := zk hR h4
      refine qb [.p, .r, .p, .p, .w] ?_
      refine st rfl rfl (jd rfl qdy rfl) rfl ?_
      refine st_r rfl rfl (wt rfl ty3 rfl rfl rfl) rfl ?_
      refine st rfl rfl (j6 rfl rfl rfl) rfl ?_
      refine st rfl rfl (jd rfl qdy rfl) rfl ?_
      refine j8 rfl rfl (zt (tv := .g (G.int (IntKind.i64.wrap (x2 + 1)))) rfl ty3 rfl rfl rfl rfl rfl) ?_
      refine qe ?_
      exact ⟨rfl, (IntKind.i64.wrap (x2 + 1), IntKind.i64.wrap (x3 + 1)), ⟨rfl, rfl, rfl, rfl, rfl, rfl, rfl, trivial⟩, ⟨rfl, rfl, trivial⟩, rfl, hR, trivial⟩
     ·replace h4 : (!decide (y10 = (⟨#[109, 105, 115, 115, 101, 100]⟩))) = false := h4
      replace hR := zl hR h4
      refine qo ?_
      exact ⟨rfl, (x2, IntKind.i64.wrap (x3 + 1)), ⟨rfl, rfl, rfl, rfl, rfl, rfl, rfl, trivial⟩, ⟨rfl, rfl, trivial⟩, rfl, hR, trivial⟩
   ·rintro ⟨x7, x8⟩ hR
    replace hR : s130_j1 (fun k_ z0_ z1_ => s130_l1 a1 a2 a3 t6 k_ z0_ z1_) k4 x7 x8 = some R := hR
    unfold s130_j1 at hR
    refine qb [.p, .p, .p] ?_
    refine st rfl rfl (qa rfl rfl) rfl ?_
    refine st rfl rfl (zj rfl rfl rfl (by unfold I64; omega)) rfl ?_
    refine st rfl rfl (qc rfl rfl) rfl ?_
    refine qe ?_
    exact ⟨rfl, (k4 + 1, t6, x7, x8), ⟨rfl, rfl, rfl, rfl, rfl, rfl, rfl, trivial⟩, ⟨rfl, rfl, trivial⟩, rfl, ⟨hd, hR⟩, by simp⟩
  ·replace h1 : (decide (((k4 : Nat) : Int) < (List.length a0 : Int))) = false := h1
   obtain rfl := zm hd (decF h1)
   rw [s130_l1] at hR
   refine zg ?_
   refine qd ?_
   refine qb [.r, .w] ?_
   refine st_r rfl rfl (jo rfl ty63 rfl rfl rfl rfl) rfl ?_
   refine j8 rfl rfl (zt (tv := .g (G.agg [G.int x2, G.int x3])) rfl ty63 rfl rfl rfl rfl rfl) ?_
   refine qe ?_
   refine qr ?_
   obtain rfl := Option.some.inj hR
   exact zb rfl (qh4 rfl rfl ty63 rfl rfl)
end Go.Sim
set_option linter.unusedSimpArgs false
set_option linter.unusedVariables false
set_option maxRecDepth 10000
namespace Go.Sim
open Go.Proofs
def s59_j1 (rec1 : Nat → (List S151) → Option (List S151)) (k3 : Nat) (x6 : List S151) : Option (List S151) :=
 rec1 (k3 + 1) x6
def s59_l2 (rec1 : Nat → (List S151) → Option (List S151)) (x1 : List S151) (k3 : Nat) (y4 : S104) : Nat → Int → Option (List S151)
 | 0, _ => none
 | k8 + 1, x7 => bindO (bif decide (x7 < (List.length x1 : Int)) then ixO x1 x7 else some default) fun y9 => (bif (decide (x7 < (List.length x1 : Int))) && (s127 y9 (S151.mk y4.Name y4.Moment y4.Move)) then s59_l2 rec1 x1 k3 y4 k8 (x7 + 1) else s59_j1 rec1 k3 ((([] ++ (List.take (Int.toNat x7) x1)) ++ [(S151.mk y4.Name y4.Moment y4.Move)]) ++ (List.drop (Int.toNat x7) x1)))
def s59_l1  : List S104 → Nat → (List S151) → Option (List S151)
 | [], k3, x1 => some x1
 | y4 :: t5, k3, x1 => (bif !decide (y4.Kind = (⟨#[102, 108, 121]⟩)) then s59_j1 (fun k_ z0_ => s59_l1  t5 k_ z0_) k3 x1 else s59_l2 (fun k_ z0_ => s59_l1  t5 k_ z0_) x1 k3 y4 ((((List.length x1 : Int) - 0).toNat) + 1) 0)
def s59 (a0 : List S104) : Option (List S151) :=
 s59_l1 a0 0 []
theorem n59 {g : List (Nat × List Value)} (a0 : List S104) {R : List S151}  (hb0 : a0.length ≤ 12) (hR : s59 a0 = some R) : ConN (EG g) 59 [G.sl 8 (List.map S104.c a0)] 160 3 (List.map S151.c R) := by
 unfold s59 at hR
 refine kl Tryz.func59 rfl rfl fun w0 M0 => ?_
 refine zc (f := S104.c) (l := a0) 0 rfl fun hla0 => ?_
 refine qd ?_
 refine qb [.w] ?_
 refine st_w rfl rfl (zu 2 160 3 rfl rfl rfl) rfl ?_
 refine qe ?_
 refine qd ?_
 refine qb [.w] ?_
 refine st_w rfl rfl (zu 3 160 3 rfl rfl rfl) rfl ?_
 refine qe ?_
 refine qd ?_
 refine qd ?_
 refine qb [.p] ?_
 refine st rfl rfl (qc rfl rfl) rfl ?_
 refine qe ?_
 refine qn ?_
 refine qx (γ := Nat × (List S104) × (List S151)) (fun g => ([(0, .g (G.sl 8 (List.map S104.c a0))), (3, .osl 3 3 0 (List.length g.2.2)), (4, .g (G.int ((g.1 : Nat) : Int)))], [(3, .arr 160 3 (List.map S151.c g.2.2))])) (fun g => g.2.2.length ≤ g.1 ∧ a0.drop g.1 = g.2.1 ∧ s59_l1  g.2.1 g.1 g.2.2 = some R) (fun g => List.length g.2.1) ⟨rfl, (0, a0, []), ⟨rfl, rfl, rfl, trivial⟩, ⟨rfl, trivial⟩, rfl, ⟨(by first | (simp; done) | (simp; omega)), rfl, hR⟩, trivial⟩ ?_
 ·rintro ⟨k3, t5, x1⟩ ⟨iv1_0, hd, hR⟩
  replace hd : a0.drop k3 = t5 := hd
  replace hR : s59_l1  t5 k3 x1 = some R := hR
  replace iv1_0 : x1.length ≤ k3 := iv1_0
  refine qd ?_
  refine qd ?_
  refine qb [.p, .p, .p, .p] ?_
  refine st rfl rfl (qa rfl rfl) rfl ?_
  refine st rfl rfl (qa rfl rfl) rfl ?_
  refine st rfl rfl (q9 (f := S104.c) (l := a0) rfl Tryz.underlying35 rfl) rfl ?_
  refine st rfl rfl (ze rfl rfl rfl) rfl ?_
  refine qe ?_
  refine zc (f := S104.c) (l := a0) 0 rfl fun hlz1 => ?_
  refine qm _ rfl (fun h1 => ?_) (fun h1 => ?_)
  ·replace h1 : (decide (((k3 : Nat) : Int) < (List.length a0 : Int))) = true := h1
   obtain ⟨y4, t5, rfl, hx1, hd⟩ := zh hd (decT h1)
   replace h1 := decT h1
   rw [s59_l1] at hR
   try dsimp only at hR
   refine qo ?_
   refine jt (γ := (List S151)) (fun g => ([(0, .g (G.sl 8 (List.map S104.c a0))), (3, .osl 3 3 0 (List.length g)), (4, .g (G.int ((k3 : Nat) : Int)))], [(3, .arr 160 3 (List.map S151.c g))])) (fun g => g.length ≤ k3 + 1 ∧ s59_j1 (fun k_ z0_ => s59_l1  t5 k_ z0_) k3 g = some R) ?_ ?_
   ·refine qn ?_
    refine qd ?_
    refine qd ?_
    refine qb [.p, .p, .p, .p, .p, .p] ?_
    refine st rfl rfl (qa rfl rfl) rfl ?_
    refine st rfl rfl (qa rfl rfl) rfl ?_
    refine st rfl rfl (zi (f := S104.c) (l := a0) (a := y4) rfl Tryz.underlying35 xj rfl rfl (Int.natCast_nonneg _) hx1) rfl ?_
    refine st rfl rfl (qf rfl xi rfl) rfl ?_
    refine st rfl rfl (qi rfl ty9 rfl) rfl ?_
    refine st rfl rfl (kw rfl rfl rfl) rfl ?_
    refine qe ?_
    refine qm _ rfl (fun h3 => ?_) (fun h3 => ?_)
    ·replace h3 : (!decide (y4.Kind = (⟨#[102, 108, 121]⟩))) = true := h3
     replace hR := zk hR h3
     try simp only [Bool.or_eq_true, Bool.and_eq_true, Bool.or_eq_false_iff, Bool.and_eq_false_iff, Bool.not_eq_true', Bool.not_eq_false', decide_eq_true_eq, decide_eq_false_iff_not] at h3
     refine zg ?_
     exact ⟨rfl, x1, ⟨rfl, rfl, rfl, trivial⟩, ⟨rfl, trivial⟩, rfl, ⟨(by first | omega | (dsimp only; omega) | (simp at *; done) | (simp at *; omega)), hR⟩, trivial⟩
    ·replace h3 : (!decide (y4.Kind = (⟨#[102, 108, 121]⟩))) = false := h3
     replace hR := zl hR h3
     try simp only [Bool.or_eq_true, Bool.and_eq_true, Bool.or_eq_false_iff, Bool.and_eq_false_iff, Bool.not_eq_true', Bool.not_eq_false', decide_eq_true_eq, decide_eq_false_iff_not] at h3
     refine qo ?_
     refine qd ?_
     refine zw [.p, .p, .p, .p, .p, .p, .p, .p, .p, .p, .p, .p, .p, .p, .p, .p, .w, .w] (by kernel_rfl) ?_
     refine st rfl rfl (qa rfl rfl) rfl ?_
     refine st rfl rfl (qa rfl rfl) rfl ?_
     refine st rfl rfl (zi (f := S104.c) (l := a0) (a := y4) rfl Tryz.underlying35 xj rfl rfl (Int.natCast_nonneg _) hx1) rfl ?_
     refine st rfl rfl (qf rfl qal rfl) rfl ?_
     refine st rfl rfl (qi rfl ty9 rfl) rfl ?_
     refine st rfl rfl (qa rfl rfl) rfl ?_
     refine st rfl rfl (qa rfl rfl) rfl ?_
     refine st rfl rfl (zi (f := S104.c) (l := a0) (a := y4) rfl Tryz.underlying35 xj rfl rfl (Int.natCast_nonneg _) hx1) rfl ?_
     refine st rfl rfl (qf rfl qid rfl) rfl ?_
     refine st rfl rfl (qi rfl ty3 rfl) rfl ?_
     refine st rfl rfl (qa rfl rfl) rfl ?_
     refine st rfl rfl (qa rfl rfl) rfl ?_
     refine st rfl rfl (zi (f := S104.c) (l := a0) (a := y4) rfl Tryz.underlying35 xj rfl rfl (Int.natCast_nonneg _) hx1) rfl ?_
     refine st rfl rfl (qf rfl qe3 rfl) rfl ?_
     refine st rfl rfl (qi rfl ty9 rfl) rfl ?_
     refine st rfl rfl (vk rfl z160 rfl qt0 (j9 rfl (j9 rfl (j9 rfl qaz))) rfl) rfl ?_
     refine st_w rfl rfl (jm 5 rfl z160 rfl rfl) rfl ?_
     refine j8 rfl rfl (zt (tv := .g (G.agg [G.str y4.Name, G.int y4.Moment, G.str y4.Move])) rfl km rfl rfl rfl rfl rfl) ?_
     refine qe ?_
     refine qd ?_
     refine qb [.p] ?_
     refine st rfl rfl (qc rfl rfl) rfl ?_
     refine qe ?_
     refine qd ?_
     refine qn ?_
     refine qx (γ := Nat × Int) (fun g => ([(0, .g (G.sl 8 (List.map S104.c a0))), (3, .osl 3 3 0 (List.length x1)), (4, .g (G.int ((k3 : Nat) : Int))), (5, .ptr 5 0), (6, .g (G.int g.2))], [(3, .arr 160 3 (List.map S151.c x1)), (5, .box [.g (G.str y4.Name), .g (G.int y4.Moment), .g (G.str y4.Move)])])) (fun g => ((List.length x1 : Int) - g.2).toNat < g.1 ∧ 0 ≤ g.2 ∧ g.2 ≤ (List.length x1 : Int) ∧ s59_l2 (fun k_ z0_ => s59_l1  t5 k_ z0_) x1 k3 y4 g.1 g.2 = some R) (fun g => g.1) ⟨rfl, ((((List.length x1 : Int) - 0).toNat) + 1, 0), ⟨rfl, rfl, rfl, rfl, rfl, trivial⟩, ⟨rfl, rfl, trivial⟩, rfl, ⟨Nat.lt_succ_self _, (by first | omega | (dsimp only; omega) | simp), (by first | omega | (dsimp only; omega) | simp), hR⟩, trivial⟩ ?_
     ·rintro ⟨k8, x7⟩ ⟨hk2, iv2_0, iv2_1, hR⟩
      replace hk2 : ((List.length x1 : Int) - x7).toNat < k8 := hk2
      replace hR : s59_l2 (fun k_ z0_ => s59_l1  t5 k_ z0_) x1 k3 y4 k8 x7 = some R := hR
      replace iv2_0 : 0 ≤ x7 := iv2_0
      replace iv2_1 : x7 ≤ (List.length x1 : Int) := iv2_1
      obtain ⟨k8, rfl⟩ : ∃ m, k8 = m + 1 := ⟨k8 - 1, by omega⟩
      rw [s59_l2] at hR
      try dsimp only at hR
      refine qd ?_
      refine qd ?_
      obtain ⟨y9, by9, hR⟩ := ql hR
      refine zw [.p, .p, .p, .p, .p, .p, .p, .p, .r, .r, .p, .p] (by kernel_rfl) ?_
      refine st rfl rfl (qa rfl rfl) rfl ?_
      refine st rfl rfl (qq rfl rfl) rfl ?_
      refine st rfl rfl (qa1 rfl Tryz.underlying32 rfl) rfl ?_
      refine st rfl rfl (ze rfl rfl rfl) rfl ?_
      refine st rfl rfl (qa rfl rfl) rfl ?_
      refine st_g rfl rfl rfl (qg _ _) (fun h => qq rfl rfl) rfl ?_
      refine st_g rfl rfl rfl (qg _ _) (fun h => qa rfl rfl) rfl ?_
      refine st_g rfl rfl rfl (qg _ _) (fun h => ji rfl Tryz.underlying32 km (gd h rfl) (gd h rfl) (z7 (jn by9 h)) (Nat.lt_of_lt_of_eq (jf (za (jn by9 h))) rfl)) rfl ?_
      refine qbj rfl rfl rfl (qg _ _) (fun h => v9 (f := S151.c) (l := x1) (a := y9) rfl km (gd h rfl) rfl (za (jn by9 h))) rfl ?_
      refine qbj rfl rfl rfl (qg _ _) (fun h => jo rfl km rfl rfl rfl rfl) rfl ?_
      refine st_g rfl rfl rfl (qg _ _) (fun h => qj rfl K127 rfl (c127 y9 (S151.mk y4.Name y4.Moment y4.Move)) (qh (gd h rfl) (qh (gd h rfl) qk))) rfl ?_
      refine st rfl rfl (zf rfl rfl rfl rfl) rfl ?_
      refine qe ?_
      refine qm _ rfl (fun h4 => ?_) (fun h4 => ?_)
      ·replace h4 : ((decide (x7 < (List.length x1 : Int))) && (s127 y9 (S151.mk y4.Name y4.Moment y4.Move))) = true := h4
       replace hR := zk hR h4
       try simp only [Bool.or_eq_true, Bool.and_eq_true, Bool.or_eq_false_iff, Bool.and_eq_false_iff, Bool.not_eq_true', Bool.not_eq_false', decide_eq_true_eq, decide_eq_false_iff_not] at h4
       refine qo ?_
       refine qn ?_
       refine qb [.p, .p, .p] ?_
       refine st rfl rfl (qa rfl rfl) rfl ?_
       refine st rfl rfl (zj rfl rfl rfl (by unfold I64; (try dsimp only); omega)) rfl ?_
       refine st rfl rfl (qc rfl rfl) rfl ?_
       refine qe ?_
       exact ⟨rfl, (k8, x7 + 1), ⟨rfl, rfl, rfl, rfl, rfl, trivial⟩, ⟨rfl, rfl, trivial⟩, rfl, ⟨(by first | omega | (dsimp only; omega) | (simp at *; omega)), (by first | omega | (dsimp only; omega) | (simp at *; omega)), (by first | omega | (dsimp only; omega) | (simp at *; omega)), hR⟩, by simp⟩
      ·replace h4 : ((decide (x7 < (List.length x1 : Int))) && (s127 y9 (S151.mk y4.Name y4.Moment y4.Move))) = false := h4
       replace hR := zl hR h4
       try simp only [Bool.or_eq_true, Bool.and_eq_true, Bool.or_eq_false_iff, Bool.and_eq_false_iff, Bool.not_eq_true', Bool.not_eq_false', decide_eq_true_eq, decide_eq_false_iff_not] at h4
       refine zg ?_
       refine wx (l := [(0, .g (G.sl 8 (List.map S104.c a0))), (3, .osl 3 3 0 (List.length x1)), (4, .g (G.int ((k3 : Nat) : Int))), (5, .g (G.ref [G.str y4.Name, G.int y4.Moment, G.str y4.Move])), (6, .g (G.int x7))]) (m := [(3, .arr 160 3 (List.map S151.c x1))]) 5 rfl ⟨.inl ⟨rfl, rfl⟩, .inl ⟨rfl, rfl⟩, .inl ⟨rfl, rfl⟩, .inr (qev rfl), .inl ⟨rfl, rfl⟩, trivial⟩ ⟨rfl, trivial⟩ rfl rfl ?_
       refine qmp ?_
       refine qb8 [.w, .pn 49, .pn 49, .pn 49, .kn 49, .pn 49, .pn 49, .kn 49, .pn 49, .pn 49, .pn 49, .kn 49, .p] (by kernel_rfl) ?_
       refine st_w rfl rfl (qak (xs := List.map S151.c []) 49 rfl Tryz.underlying32 km z160 rfl z4 rfl (by simp [S151.c]) (by decide) rfl) rfl ?_
       refine kz rfl rfl (qq rfl rfl) rfl rfl rfl ?_
       refine kz rfl rfl (qa rfl rfl) rfl rfl rfl ?_
       refine kz rfl rfl (qbl (a := 0) (c := Int.toNat x7) rfl Tryz.underlying32 km rfl xl (xm rfl (by omega)) (by omega) (by omega)) rfl rfl rfl ?_
       refine qdg rfl rfl (z5 (f := S151.c) (out := []) (new := List.take (Int.toNat x7) x1) rfl qla rfl rfl (kc rfl (qex (l := x1) rfl rfl (by simp [S151.c]) (by omega) (by omega))) (vp rfl) (by simp; omega)) rfl ?_
       refine kz rfl rfl (qt rfl km rfl rfl rfl) rfl rfl rfl ?_
       refine kz rfl rfl (qu rfl Tryz.underlying32 km z160 rfl (qw rfl z4) rfl (by exact lens rfl) (by decide)) rfl rfl rfl ?_
       refine qdg rfl rfl (z5 (f := S151.c) (out := [] ++ (List.take (Int.toNat x7) x1)) (new := [(S151.mk y4.Name y4.Moment y4.Move)]) rfl qla rfl rfl (kc rfl (vc (by decide) (by simp [S151.c]))) (vp rfl) (by simp; omega)) rfl ?_
       refine kz rfl rfl (qq rfl rfl) rfl rfl rfl ?_
       refine kz rfl rfl (qa rfl rfl) rfl rfl rfl ?_
       refine kz rfl rfl (qbl (a := Int.toNat x7) (c := List.length x1) rfl Tryz.underlying32 km rfl (xm rfl (by omega)) xl (by omega) (by omega)) rfl rfl rfl ?_
       refine qdg rfl rfl (z5 (f := S151.c) (out := ([] ++ (List.take (Int.toNat x7) x1)) ++ [(S151.mk y4.Name y4.Moment y4.Move)]) (new := List.drop (Int.toNat x7) x1) rfl qla rfl rfl (kc rfl (qey (l := x1) rfl rfl (by simp [S151.c]) (by omega) (by omega))) (vp rfl) (by simp; omega)) rfl ?_
       refine st rfl rfl (qy rfl rfl) rfl ?_
       refine qe ?_
       refine ⟨[(3, 49)], [(0, .g (G.sl 8 (List.map S104.c a0))), (3, .osl 3 3 0 (List.length ((([] ++ (List.take (Int.toNat x7) x1)) ++ [(S151.mk y4.Name y4.Moment y4.Move)]) ++ (List.drop (Int.toNat x7) x1)))), (4, .g (G.int ((k3 : Nat) : Int)))], [(3, .arr 160 3 (List.map S151.c ((([] ++ (List.take (Int.toNat x7) x1)) ++ [(S151.mk y4.Name y4.Moment y4.Move)]) ++ (List.drop (Int.toNat x7) x1))))], ⟨rfl, rfl, rfl, trivial⟩, ⟨rfl, trivial⟩, rfl, rfl, rfl, ?_⟩
       exact ⟨rfl, (([] ++ (List.take (Int.toNat x7) x1)) ++ [(S151.mk y4.Name y4.Moment y4.Move)]) ++ (List.drop (Int.toNat x7) x1), ⟨rfl, rfl, rfl, trivial⟩, ⟨rfl, trivial⟩, rfl, ⟨(by first | omega | (dsimp only; omega) | (simp at *; done) | (simp at *; omega)), hR⟩, trivial⟩
   ·rintro x6 ⟨jv1_0, hR⟩
    replace jv1_0 : x6.length ≤ k3 + 1 := jv1_0
    replace hR : s59_j1 (fun k_ z0_ => s59_l1  t5 k_ z0_) k3 x6 = some R := hR
    unfold s59_j1 at hR
    refine qb [.p, .p, .p] ?_
    refine st rfl rfl (qa rfl rfl) rfl ?_
    refine st rfl rfl (zj rfl rfl rfl (by unfold I64; omega)) rfl ?_
    refine st rfl rfl (qc rfl rfl) rfl ?_
    refine qe ?_
    exact ⟨rfl, (k3 + 1, t5, x6), ⟨rfl, rfl, rfl, trivial⟩, ⟨rfl, trivial⟩, rfl, ⟨(by first | omega | (dsimp only; omega) | (simp at *; omega)), hd, hR⟩, by simp⟩
  ·replace h1 : (decide (((k3 : Nat) : Int) < (List.length a0 : Int))) = false := h1
   obtain rfl := zm hd (decF h1)
   rw [s59_l1] at hR
   refine zg ?_
   refine qd ?_
   refine qb [.p, .p] ?_
   refine st rfl rfl (qq rfl rfl) rfl ?_
   refine st rfl rfl (qy rfl rfl) rfl ?_
   refine qe ?_
   refine qr ?_
   obtain rfl := Option.some.inj hR
   exact kx rfl rfl rfl ((List.length_map ..).trans rfl)
theorem c59 {g : List (Nat × List Value)} (a0 : List S104) {R : List S151}  (hb0 : a0.length ≤ 12) (hR : s59 a0 = some R) : Con (EG g) 59 [G.sl 8 (List.map S104.c a0)] (G.sl 3 (List.map S151.c R)) :=
 ConN.con (by decide) (n59 a0 hb0 hR)
end Go.Sim
namespace Go.Sim
theorem qjy (rec1 : Nat → List S151 → Option (List S151)) (n : Nat) (x1 : List S151) (hrec : ∀ k x r, rec1 k x = some r → r.length ≤ x.length + n) (k3 : Nat) (y4 : S104) : ∀ (k : Nat) (x : Int) (r : List S151), s59_l2 rec1 x1 k3 y4 k x = some r → r.length ≤ x1.length + (n + 1)
 | 0, x, r, h => by rw [s59_l2] at h; cases h
 | k + 1, x, r, h => by
  rw [s59_l2] at h
  obtain ⟨y1, h1, h⟩ := ql h
  generalize (decide (x < (List.length x1 : Int)) && s127 y1 (S151.mk y4.Name y4.Moment y4.Move)) = c at h
  cases c
  ·rw [cond_false, s59_j1] at h
   have := hrec _ _ _ h
   simp at this
   omega
  ·rw [cond_true] at h
   exact qjy rec1 n x1 hrec k3 y4 k _ r h
theorem qe4 : ∀ (l : List S104) (k : Nat) (x r : List S151), s59_l1 l k x = some r → r.length ≤ x.length + l.length
 | [], k, x, r, h => by rw [s59_l1] at h; cases h; simp
 | y :: l, k, x, r, h => by
  rw [s59_l1] at h
  generalize (!decide (y.Kind = (⟨#[102, 108, 121]⟩ : ByteArray))) = c at h
  cases c
  ·rw [cond_false] at h
   have := qjy _ l.length x (fun k x r h => qe4 l k x r h) k y _ _ r h
   simpa using this
  ·rw [cond_true, s59_j1] at h
   have := qe4 l _ x r h
   simp; omega
theorem qv4 {a : List S104} {r : List S151} (h : s59 a = some r) : r.length ≤ a.length := by
 have := qe4 _ _ _ _ h
 simpa using this
end Go.Sim
set_option linter.unusedSimpArgs false
set_option linter.unusedVariables false
set_option maxRecDepth 10000
namespace Go.Sim
open Go.Proofs
def s61_l2 (x2 : List Int) : List S154 → Nat → (List ByteArray) → Option (List ByteArray)
 | [], k13, x11 => some x11
 | y14 :: t15, k13, x11 => bindO (ixO x2 y14.Slot) fun y16 => bindO (ixO x11 y16) fun y17 => s61_l2 x2 t15 (k13 + 1) (List.set x11 (Int.toNat y16) (⟨#[102, 108, 111, 119, 110]⟩))
def s61_j1 (rec1 : Nat → (List S151) → (List Int) → (List ByteArray) → Option (List ByteArray)) (k5 : Nat) (x18 : List S151) (x19 : List Int) (x20 : List ByteArray) : Option (List ByteArray) :=
 rec1 (k5 + 1) x18 x19 x20
def s61_l1 (a0 : S23) (a2 : List S104) : List S151 → Nat → (List S151) → (List Int) → (List ByteArray) → Option (List ByteArray)
 | [], k5, x1, x2, x3 => bindO (s59 a2) fun r8 => bindO (s120 a0 x1 r8) fun r9 => s61_l2 x2 r9 0 x3
 | y6 :: t7, k5, x1, x2, x3 => (bif (s128 a0 y6 a2) then s61_j1 (fun k_ z0_ z1_ z2_ => s61_l1 a0 a2 t7 k_ z0_ z1_ z2_) k5 x1 x2 (x3 ++ [⟨#[114, 101, 116, 117, 114, 110, 101, 100]⟩]) else (bif (s129 a0 y6 a2) then s61_j1 (fun k_ z0_ z1_ z2_ => s61_l1 a0 a2 t7 k_ z0_ z1_ z2_) k5 (x1 ++ [y6]) (x2 ++ [((k5 : Nat) : Int)]) (x3 ++ [⟨#[101, 120, 99, 117, 115, 101, 100]⟩]) else s61_j1 (fun k_ z0_ z1_ z2_ => s61_l1 a0 a2 t7 k_ z0_ z1_ z2_) k5 (x1 ++ [y6]) (x2 ++ [((k5 : Nat) : Int)]) (x3 ++ [⟨#[109, 105, 115, 115, 101, 100]⟩])))
def s61 (a0 : S23) (a1 : List S151) (a2 : List S104) : Option (List ByteArray) :=
 s61_l1 a0 a2 a1 0 [] [] []
theorem n61 {g : List (Nat × List Value)} (a0 : S23) (a1 : List S151) (a2 : List S104) {R : List ByteArray}  (hb1 : a1.length ≤ 12) (hb2 : a2.length ≤ 12) (hR : s61 a0 a1 a2 = some R) : ConN (EG g) 61 [G.agg [G.int a0.Before, G.int a0.After, G.int a0.Notice, G.int a0.Share, G.sl 1 (List.map cStr a0.Causes), G.int a0.Off, G.int a0.Run], G.sl 3 (List.map S151.c a1), G.sl 8 (List.map S104.c a2)] 9 1 (List.map cStr R) := by
 unfold s61 at hR
 refine kl Tryz.func61 rfl rfl fun w0 M0 => ?_
 refine zc (f := S151.c) (l := a1) 1 rfl fun hla1 => ?_
 refine zc (f := S104.c) (l := a2) 2 rfl fun hla2 => ?_
 refine qd ?_
 refine qb [.p, .w] ?_
 refine st rfl rfl (zd rfl rfl) rfl ?_
 refine st_w rfl rfl (zu 6 9 1 rfl rfl rfl) rfl ?_
 refine qe ?_
 refine qd ?_
 refine qb [.w] ?_
 refine st_w rfl rfl (zu 7 160 3 rfl rfl rfl) rfl ?_
 refine qe ?_
 refine qd ?_
 refine qb [.w] ?_
 refine st_w rfl rfl (zu 8 3 1 rfl rfl rfl) rfl ?_
 refine qe ?_
 refine qd ?_
 refine qb [.w] ?_
 refine st_w rfl rfl (zu 9 9 1 rfl rfl rfl) rfl ?_
 refine qe ?_
 refine qd ?_
 refine qd ?_
 refine qb [.p] ?_
 refine st rfl rfl (qc rfl rfl) rfl ?_
 refine qe ?_
 refine qn ?_
 refine qx (γ := Nat × (List S151) × (List S151) × (List Int) × (List ByteArray)) (fun g => ([(1, .g (G.sl 3 (List.map S151.c a1))), (2, .g (G.sl 8 (List.map S104.c a2))), (3, .g (G.ref [G.int a0.Before, G.int a0.After, G.int a0.Notice, G.int a0.Share, G.sl 1 (List.map cStr a0.Causes), G.int a0.Off, G.int a0.Run])), (7, .osl 7 3 0 (List.length g.2.2.1)), (8, .osl 8 1 0 (List.length g.2.2.2.1)), (9, .osl 9 1 0 (List.length g.2.2.2.2)), (10, .g (G.int ((g.1 : Nat) : Int)))], [(7, .arr 160 3 (List.map S151.c g.2.2.1)), (8, .arr 3 1 (List.map cInt g.2.2.2.1)), (9, .arr 9 1 (List.map cStr g.2.2.2.2))])) (fun g => g.2.2.1.length ≤ g.1 ∧ g.2.2.2.1.length ≤ g.1 ∧ g.2.2.2.2.length ≤ g.1 ∧ g.1 ≤ a1.length ∧ a1.drop g.1 = g.2.1 ∧ s61_l1 a0 a2 g.2.1 g.1 g.2.2.1 g.2.2.2.1 g.2.2.2.2 = some R) (fun g => List.length g.2.1) ⟨rfl, (0, a1, [], [], []), ⟨rfl, rfl, rfl, rfl, rfl, rfl, rfl, trivial⟩, ⟨rfl, rfl, rfl, trivial⟩, rfl, ⟨(by first | (simp; done) | (simp; omega)), (by first | (simp; done) | (simp; omega)), (by first | (simp; done) | (simp; omega)), (by first | (simp; done) | (simp; omega)), rfl, hR⟩, trivial⟩ ?_
 ·rintro ⟨k5, t7, x1, x2, x3⟩ ⟨iv1_0, iv1_1, iv1_2, iv1_3, hd, hR⟩
  replace hd : a1.drop k5 = t7 := hd
  replace hR : s61_l1 a0 a2 t7 k5 x1 x2 x3 = some R := hR
  replace iv1_0 : x1.length ≤ k5 := iv1_0
  replace iv1_1 : x2.length ≤ k5 := iv1_1
  replace iv1_2 : x3.length ≤ k5 := iv1_2
  replace iv1_3 : k5 ≤ a1.length := iv1_3
  refine qd ?_
  refine qd ?_
  refine qb [.p, .p, .p, .p] ?_
  refine st rfl rfl (qa rfl rfl) rfl ?_
  refine st rfl rfl (qa rfl rfl) rfl ?_
  refine st rfl rfl (q9 (f := S151.c) (l := a1) rfl Tryz.underlying32 rfl) rfl ?_
  refine st rfl rfl (ze rfl rfl rfl) rfl ?_
  refine qe ?_
  refine zc (f := S151.c) (l := a1) 1 rfl fun hlz1 => ?_
  refine qm _ rfl (fun h1 => ?_) (fun h1 => ?_)
  ·replace h1 : (decide (((k5 : Nat) : Int) < (List.length a1 : Int))) = true := h1
   obtain ⟨y6, t7, rfl, hx1, hd⟩ := zh hd (decT h1)
   replace h1 := decT h1
   rw [s61_l1] at hR
   try dsimp only at hR
   refine qo ?_
   refine jt (γ := (List S151) × (List Int) × (List ByteArray)) (fun g => ([(1, .g (G.sl 3 (List.map S151.c a1))), (2, .g (G.sl 8 (List.map S104.c a2))), (3, .g (G.ref [G.int a0.Before, G.int a0.After, G.int a0.Notice, G.int a0.Share, G.sl 1 (List.map cStr a0.Causes), G.int a0.Off, G.int a0.Run])), (7, .osl 7 3 0 (List.length g.1)), (8, .osl 8 1 0 (List.length g.2.1)), (9, .osl 9 1 0 (List.length g.2.2)), (10, .g (G.int ((k5 : Nat) : Int)))], [(7, .arr 160 3 (List.map S151.c g.1)), (8, .arr 3 1 (List.map cInt g.2.1)), (9, .arr 9 1 (List.map cStr g.2.2))])) (fun g => g.1.length ≤ k5 + 1 ∧ g.2.1.length ≤ k5 + 1 ∧ g.2.2.length ≤ k5 + 1 ∧ s61_j1 (fun k_ z0_ z1_ z2_ => s61_l1 a0 a2 t7 k_ z0_ z1_ z2_) k5 g.1 g.2.1 g.2.2 = some R) ?_ ?_
   ·refine qn ?_
    refine qd ?_
    refine qd ?_
    refine zw [.p, .p, .p, .p, .p, .p, .p] (by kernel_rfl) ?_
    refine st rfl rfl (qt rfl ty29 rfl rfl rfl) rfl ?_
    refine st rfl rfl (qa rfl rfl) rfl ?_
    refine st rfl rfl (qa rfl rfl) rfl ?_
    refine st rfl rfl (zi (f := S151.c) (l := a1) (a := y6) rfl Tryz.underlying32 km rfl rfl (Int.natCast_nonneg _) hx1) rfl ?_
    refine st rfl rfl (qt rfl km rfl rfl rfl) rfl ?_
    refine st rfl rfl (qa rfl rfl) rfl ?_
    refine st rfl rfl (qj rfl K128 rfl (c128 a0 y6 a2) (qh rfl (qh rfl (qh rfl qk)))) rfl ?_
    refine qe ?_
    refine qm _ rfl (fun h5 => ?_) (fun h5 => ?_)
    ·replace h5 : ((s128 a0 y6 a2)) = true := h5
     replace hR := zk hR h5
     try simp only [Bool.or_eq_true, Bool.and_eq_true, Bool.or_eq_false_iff, Bool.and_eq_false_iff, Bool.not_eq_true', Bool.not_eq_false', decide_eq_true_eq, decide_eq_false_iff_not] at h5
     refine qd ?_
     refine qb [.p, .p, .k, .p] ?_
     refine st rfl rfl (qq rfl rfl) rfl ?_
     refine st rfl rfl (qu rfl Tryz.underlying22 ty9 z9 rfl (qw rfl z4) rfl (by simp []) (by decide)) rfl ?_
     refine st_k rfl rfl (z5 (f := cStr) (out := x3) (new := [⟨#[114, 101, 116, 117, 114, 110, 101, 100]⟩]) rfl qrl rfl rfl (kc rfl (vc (by decide) (by simp []))) (vp rfl) (by simp; omega)) rfl ?_
     refine st rfl rfl (qy rfl rfl) rfl ?_
     refine qe ?_
     refine zg ?_
     exact ⟨rfl, (x1, x2, x3 ++ [⟨#[114, 101, 116, 117, 114, 110, 101, 100]⟩]), ⟨rfl, rfl, rfl, rfl, rfl, rfl, rfl, trivial⟩, ⟨rfl, rfl, rfl, trivial⟩, rfl, ⟨(by first | omega | (dsimp only; omega) | (simp at *; done) | (simp at *; omega)), (by first | omega | (dsimp only; omega) | (simp at *; done) | (simp at *; omega)), (by first | omega | (dsimp only; omega) | (simp at *; done) | (simp at *; omega)), hR⟩, trivial⟩
    ·replace h5 : ((s128 a0 y6 a2)) = false := h5
     replace hR := zl hR h5
     try simp only [Bool.or_eq_true, Bool.and_eq_true, Bool.or_eq_false_iff, Bool.and_eq_false_iff, Bool.not_eq_true', Bool.not_eq_false', decide_eq_true_eq, decide_eq_false_iff_not] at h5
     refine qo ?_
     refine qd ?_
     refine qb [.p, .p, .p, .p, .p, .p, .k, .p, .p, .p, .k, .p, .p] ?_
     refine st rfl rfl (qq rfl rfl) rfl ?_
     refine st rfl rfl (qa rfl rfl) rfl ?_
     refine st rfl rfl (qa rfl rfl) rfl ?_
     refine st rfl rfl (zi (f := S151.c) (l := a1) (a := y6) rfl Tryz.underlying32 km rfl rfl (Int.natCast_nonneg _) hx1) rfl ?_
     refine st rfl rfl (qt rfl km rfl rfl rfl) rfl ?_
     refine st rfl rfl (qu rfl Tryz.underlying32 km z160 rfl (qw rfl z4) rfl (by simp [S151.c]) (by decide)) rfl ?_
     refine st_k rfl rfl (z5 (f := S151.c) (out := x1) (new := [y6]) rfl qla rfl rfl (kc rfl (vc (by decide) (by simp [S151.c]))) (vp rfl) (by simp; omega)) rfl ?_
     refine st rfl rfl (qq rfl rfl) rfl ?_
     refine st rfl rfl (qa rfl rfl) rfl ?_
     refine st rfl rfl (qu rfl Tryz.underlying82 ty3 z3 rfl (qw rfl z4) rfl (by simp []) (by decide)) rfl ?_
     refine st_k rfl rfl (z5 (f := cInt) (out := x2) (new := [((k5 : Nat) : Int)]) rfl qie rfl rfl (kc rfl (vc (by decide) (by simp []))) (vp rfl) (by simp; omega)) rfl ?_
     refine st rfl rfl (qy rfl rfl) rfl ?_
     refine st rfl rfl (qy rfl rfl) rfl ?_
     refine qe ?_
     refine qd ?_
     refine zw [.p, .p, .p, .p, .p, .p, .p] (by kernel_rfl) ?_
     refine st rfl rfl (qt rfl ty29 rfl rfl rfl) rfl ?_
     refine st rfl rfl (qa rfl rfl) rfl ?_
     refine st rfl rfl (qa rfl rfl) rfl ?_
     refine st rfl rfl (zi (f := S151.c) (l := a1) (a := y6) rfl Tryz.underlying32 km rfl rfl (Int.natCast_nonneg _) hx1) rfl ?_
     refine st rfl rfl (qt rfl km rfl rfl rfl) rfl ?_
     refine st rfl rfl (qa rfl rfl) rfl ?_
     refine st rfl rfl (qj rfl K129 rfl (c129 a0 y6 a2) (qh rfl (qh rfl (qh rfl qk)))) rfl ?_
     refine qe ?_
     refine qm _ rfl (fun h6 => ?_) (fun h6 => ?_)
     ·replace h6 : ((s129 a0 y6 a2)) = true := h6
      replace hR := zk hR h6
      try simp only [Bool.or_eq_true, Bool.and_eq_true, Bool.or_eq_false_iff, Bool.and_eq_false_iff, Bool.not_eq_true', Bool.not_eq_false', decide_eq_true_eq, decide_eq_false_iff_not] at h6
      refine qb [.p, .p, .k, .p] ?_
      refine st rfl rfl (qq rfl rfl) rfl ?_
      refine st rfl rfl (qu rfl Tryz.underlying22 ty9 z9 rfl (qw rfl z4) rfl (by simp []) (by decide)) rfl ?_
      refine st_k rfl rfl (z5 (f := cStr) (out := x3) (new := [⟨#[101, 120, 99, 117, 115, 101, 100]⟩]) rfl qrl rfl rfl (kc rfl (vc (by decide) (by simp []))) (vp rfl) (by simp; omega)) rfl ?_
      refine st rfl rfl (qy rfl rfl) rfl ?_
      refine qe ?_
      exact ⟨rfl, (x1 ++ [y6], x2 ++ [((k5 : Nat) : Int)], x3 ++ [⟨#[101, 120, 99, 117, 115, 101, 100]⟩]), ⟨rfl, rfl, rfl, rfl, rfl, rfl, rfl, trivial⟩, ⟨rfl, rfl, rfl, trivial⟩, rfl, ⟨(by first | omega | (dsimp only; omega) | (simp at *; done) | (simp at *; omega)), (by first | omega | (dsimp only; omega) | (simp at *; done) | (simp at *; omega)), (by first | omega | (dsimp only; omega) | (simp at *; done) | (simp at *; omega)), hR⟩, trivial⟩
     ·replace h6 : ((s129 a0 y6 a2)) = false := h6
      replace hR := zl hR h6
      try simp only [Bool.or_eq_true, Bool.and_eq_true, Bool.or_eq_false_iff, Bool.and_eq_false_iff, Bool.not_eq_true', Bool.not_eq_false', decide_eq_true_eq, decide_eq_false_iff_not] at h6
      refine qb [.p, .p, .k, .p] ?_
      refine st rfl rfl (qq rfl rfl) rfl ?_
      refine st rfl rfl (qu rfl Tryz.underlying22 ty9 z9 rfl (qw rfl z4) rfl (by simp []) (by decide)) rfl ?_
      refine st_k rfl rfl (z5 (f := cStr) (out := x3) (new := [⟨#[109, 105, 115, 115, 101, 100]⟩]) rfl qrl rfl rfl (kc rfl (vc (by decide) (by simp []))) (vp rfl) (by simp; omega)) rfl ?_
      refine st rfl rfl (qy rfl rfl) rfl ?_
      refine qe ?_
      exact ⟨rfl, (x1 ++ [y6], x2 ++ [((k5 : Nat) : Int)], x3 ++ [⟨#[109, 105, 115, 115, 101, 100]⟩]), ⟨rfl, rfl, rfl, rfl, rfl, rfl, rfl, trivial⟩, ⟨rfl, rfl, rfl, trivial⟩, rfl, ⟨(by first | omega | (dsimp only; omega) | (simp at *; done) | (simp at *; omega)), (by first | omega | (dsimp only; omega) | (simp at *; done) | (simp at *; omega)), (by first | omega | (dsimp only; omega) | (simp at *; done) | (simp at *; omega)), hR⟩, trivial⟩
   ·rintro ⟨x18, x19, x20⟩ ⟨jv1_0, jv1_1, jv1_2, hR⟩
    replace jv1_0 : x18.length ≤ k5 + 1 := jv1_0
    replace jv1_1 : x19.length ≤ k5 + 1 := jv1_1
    replace jv1_2 : x20.length ≤ k5 + 1 := jv1_2
    replace hR : s61_j1 (fun k_ z0_ z1_ z2_ => s61_l1 a0 a2 t7 k_ z0_ z1_ z2_) k5 x18 x19 x20 = some R := hR
    unfold s61_j1 at hR
    refine qb [.p, .p, .p] ?_
    refine st rfl rfl (qa rfl rfl) rfl ?_
    refine st rfl rfl (zj rfl rfl rfl (by unfold I64; omega)) rfl ?_
    refine st rfl rfl (qc rfl rfl) rfl ?_
    refine qe ?_
    exact ⟨rfl, (k5 + 1, t7, x18, x19, x20), ⟨rfl, rfl, rfl, rfl, rfl, rfl, rfl, trivial⟩, ⟨rfl, rfl, rfl, trivial⟩, rfl, ⟨(by first | omega | (dsimp only; omega) | (simp at *; omega)), (by first | omega | (dsimp only; omega) | (simp at *; omega)), (by first | omega | (dsimp only; omega) | (simp at *; omega)), (by first | omega | (dsimp only; omega) | (simp at *; omega)), hd, hR⟩, by simp⟩
  ·replace h1 : (decide (((k5 : Nat) : Int) < (List.length a1 : Int))) = false := h1
   obtain rfl := zm hd (decF h1)
   rw [s61_l1] at hR
   refine zg ?_
   refine qd ?_
   obtain ⟨r8, br8, hR⟩ := ql hR
   obtain ⟨r9, br9, hR⟩ := ql hR
   have hl9 := qv4 br8
   refine zw [.p, .p, .p, .p, .r, .p] (by kernel_rfl) ?_
   refine st rfl rfl (qt rfl ty29 rfl rfl rfl) rfl ?_
   refine st rfl rfl (qq rfl rfl) rfl ?_
   refine st rfl rfl (qa rfl rfl) rfl ?_
   refine st rfl rfl (qj rfl K59 rfl (c59 a2 (by first | assumption | omega | (simp [qv]; omega)) br8) (qh rfl qk)) rfl ?_
   refine st_r rfl rfl (qdx rfl K120 rfl (n120 a0 x1 r8 (by first | assumption | omega | (simp [qv]; omega)) (by first | assumption | omega | (simp [qv]; omega)) br9) (by decide) (qdw fun _ => qab (qab (qgp))) (qa2 rfl (qh9 rfl rfl (qa2 rfl qh8)))) rfl ?_
   refine st rfl rfl (qc rfl rfl) rfl ?_
   refine qe ?_
   refine qd ?_
   refine qd ?_
   refine qb [.p] ?_
   refine st rfl rfl (qc rfl rfl) rfl ?_
   refine qe ?_
   refine qn ?_
   refine qx (γ := Nat × (List S154) × (List ByteArray)) (fun g => ([(8, .osl 8 1 0 (List.length x2)), (9, .osl 9 1 0 (List.length x3)), (11, .g (G.sl 2 (List.map S154.c r9))), (12, .g (G.int ((g.1 : Nat) : Int)))], [(8, .arr 3 1 (List.map cInt x2)), (9, .arr 9 1 (List.map cStr g.2.2))])) (fun g => List.length g.2.2 = List.length x3 ∧ r9.drop g.1 = g.2.1 ∧ s61_l2 x2 g.2.1 g.1 g.2.2 = some R) (fun g => List.length g.2.1) ⟨rfl, (0, r9, x3), ⟨rfl, rfl, rfl, rfl, trivial⟩, ⟨rfl, rfl, trivial⟩, rfl, ⟨rfl, rfl, hR⟩, trivial⟩ ?_
   ·rintro ⟨k13, t15, x11⟩ ⟨ln12, hd, hR⟩
    replace hd : r9.drop k13 = t15 := hd
    replace hR : s61_l2 x2 t15 k13 x11 = some R := hR
    replace ln12 : List.length x11 = List.length x3 := ln12
    refine qd ?_
    refine qd ?_
    refine qb [.p, .p, .p, .p] ?_
    refine st rfl rfl (qa rfl rfl) rfl ?_
    refine st rfl rfl (qa rfl rfl) rfl ?_
    refine st rfl rfl (q9 (f := S154.c) (l := r9) rfl Tryz.underlying89 rfl) rfl ?_
    refine st rfl rfl (ze rfl rfl rfl) rfl ?_
    refine qe ?_
    refine zc (f := S154.c) (l := r9) 11 rfl fun hlz2 => ?_
    refine qm _ rfl (fun h3 => ?_) (fun h3 => ?_)
    ·replace h3 : (decide (((k13 : Nat) : Int) < (List.length r9 : Int))) = true := h3
     obtain ⟨y14, t15, rfl, hx2, hd⟩ := zh hd (decT h3)
     replace h3 := decT h3
     rw [s61_l2] at hR
     try dsimp only at hR
     refine qo ?_
     refine qd ?_
     refine qn ?_
     obtain ⟨y16, by16, hR⟩ := ql hR
     obtain ⟨y17, by17, hR⟩ := ql hR
     refine qb [.p, .p, .p, .p, .p, .p, .p, .p, .r, .p, .w] ?_
     refine st rfl rfl (qq rfl rfl) rfl ?_
     refine st rfl rfl (qq rfl rfl) rfl ?_
     refine st rfl rfl (qa rfl rfl) rfl ?_
     refine st rfl rfl (qa rfl rfl) rfl ?_
     refine st rfl rfl (zi (f := S154.c) (l := r9) (a := y14) rfl Tryz.underlying89 qt1 rfl rfl (Int.natCast_nonneg _) hx2) rfl ?_
     refine st rfl rfl (qf rfl qrm rfl) rfl ?_
     refine st rfl rfl (qi rfl ty3 rfl) rfl ?_
     refine st rfl rfl (ji rfl Tryz.underlying82 ty3 rfl rfl (z7 by16) (Nat.lt_of_lt_of_eq (jf (za by16)) rfl)) rfl ?_
     refine st_r rfl rfl (xg (f := cInt) (l := x2) (a := y16) rfl ty3 rfl rfl (za by16) rfl) rfl ?_
     refine st rfl rfl (ji rfl Tryz.underlying22 ty9 rfl rfl (z7 by17) (Nat.lt_of_lt_of_eq (jf (za by17)) ln12)) rfl ?_
     refine j8 rfl rfl (vg (f := cStr) (l := x11) (a' := ⟨#[102, 108, 111, 119, 110]⟩) rfl ty9 rfl rfl rfl (Nat.lt_of_lt_of_eq (Nat.lt_of_lt_of_eq (jf (za by17)) ln12) (Eq.symm ln12)) rfl (fun _ => rfl)) ?_
     refine qe ?_
     refine qb [.p, .p, .p] ?_
     refine st rfl rfl (qa rfl rfl) rfl ?_
     refine st rfl rfl (zj rfl rfl rfl (by unfold I64; omega)) rfl ?_
     refine st rfl rfl (qc rfl rfl) rfl ?_
     refine qe ?_
     exact ⟨rfl, (k13 + 1, t15, List.set x11 (Int.toNat y16) (⟨#[102, 108, 111, 119, 110]⟩)), ⟨rfl, (by simp only [List.length_set]; rfl), rfl, rfl, trivial⟩, ⟨rfl, rfl, trivial⟩, rfl, ⟨((List.length_set ..).trans ln12), hd, hR⟩, by simp⟩
    ·replace h3 : (decide (((k13 : Nat) : Int) < (List.length r9 : Int))) = false := h3
     obtain rfl := zm hd (decF h3)
     rw [s61_l2] at hR
     refine zg ?_
     refine qd ?_
     refine qb [.p, .p] ?_
     refine st rfl rfl (qq rfl rfl) rfl ?_
     refine st rfl rfl (qy rfl rfl) rfl ?_
     refine qe ?_
     refine qr ?_
     obtain rfl := Option.some.inj hR
     exact kx rfl rfl rfl ((List.length_map ..).trans ln12)
theorem c61 {g : List (Nat × List Value)} (a0 : S23) (a1 : List S151) (a2 : List S104) {R : List ByteArray}  (hb1 : a1.length ≤ 12) (hb2 : a2.length ≤ 12) (hR : s61 a0 a1 a2 = some R) : Con (EG g) 61 [G.agg [G.int a0.Before, G.int a0.After, G.int a0.Notice, G.int a0.Share, G.sl 1 (List.map cStr a0.Causes), G.int a0.Off, G.int a0.Run], G.sl 3 (List.map S151.c a1), G.sl 8 (List.map S104.c a2)] (G.sl 1 (List.map cStr R)) :=
 ConN.con (by decide) (n61 a0 a1 a2 hb1 hb2 hR)
end Go.Sim
set_option linter.unusedSimpArgs false
set_option linter.unusedVariables false
set_option maxRecDepth 10000
namespace Go.Sim
open Go.Proofs
end Go.Sim
namespace Go.Sim
theorem qrn {l : List S104} (h : s27 l = 0) : l.length ≤ 512 := by
 unfold s27 at h
 by_cases h1 : 512 < l.length
 ·rw [decide_eq_true (by omega)] at h; cases h
 ·omega
theorem qro {l : List S104} {n : Int} (h : s21 (s22 l) n = true) : (l.length : Int) ≤ n ∨ 512 < l.length := by
 rw [qgs] at h
 unfold s21 at h
 by_cases h1 : (n < (l.length : Int)) ∧ ((l.length : Int) ≤ 512)
 ·rw [decide_eq_true h1.1, decide_eq_true h1.2] at h; cases h
 ·omega
theorem qmt {a0 : S23} {a1 : List S151} {a2 : List S104} (h : s122 a0 a1 a2 = 0) : s23 a0 = 0 ∧ s25 a1 = 0 ∧ s27 a2 = 0 := by
 unfold s122 at h
 have := qc1 h
 exact ⟨this _ (by simp), this _ (by simp), this _ (by simp)⟩
theorem qmu (l : List S104) : s28 (s22 l) = s27 l := (qov qrp l).symm
theorem qjz (a0 : S23) (a1 : List S151) (a2 : List S104) : s122 a0 a1 a2 = s35 [s24 (s18 a0), s26 (s20 a1), s28 (s22 a2)] := by
 unfold s122 s35
 rw [xo, qrq, qow, qmu]
theorem qv5 {a0 : S23} {a1 : List S151} {a2 : List S104} (hs : ¬ s122 a0 a1 a2 ≠ 0 → a1.length ≤ 12 ∧ a2.length ≤ 12) (h : ¬ s35 [s24 (s18 a0), s26 (s20 a1), s28 (s22 a2)] ≠ 0) : (s20 a1).length ≤ 12 ∧ (s22 a2).length ≤ 12 := by
 rw [qgt, qgs]
 exact hs (by rw [qjz]; exact h)
end Go.Sim
set_option linter.unusedSimpArgs false
set_option linter.unusedVariables false
set_option maxRecDepth 10000
namespace Go.Sim
open Go.Proofs
end Go.Sim
