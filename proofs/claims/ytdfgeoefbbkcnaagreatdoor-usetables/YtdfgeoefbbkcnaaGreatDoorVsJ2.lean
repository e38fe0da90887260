/-
  What is proved: the walk of the table of the names: a range over a map.
-/
import Derived.Test.YtdfgeoefbbkcnaaGreatDoorVsF2
import Derived.Test.YtdfgeoefbbkcnaaGreatDoorVsF6
import Derived.Test.YtdfgeoefbbkcnaaGreatDoorVaA9
import Derived.Test.YtdfgeoefbbkcnaaGreatDoorVaA4
import Derived.Test.YtdfgeoefbbkcnaaGreatDoorVsF1
import Derived.Test.YtdfgeoefbbkcnaaGreatDoorVsJ1
set_option linter.unusedSectionVars false
set_option linter.unusedSimpArgs false
set_option linter.unusedVariables false
set_option linter.unnecessarySimpa false
set_option linter.deprecated false
namespace Go.Sim
theorem qbg {l : List Int} (h : s89 l = 0) : ∀ x ∈ l, x = 0 := qf0 (by rw [xo]; exact h)
theorem qf1 {a b c : Int} (h : s90 a b c = 0) : b ≤ a ∧ a ≤ c := qkm h
theorem qtf (a0 : S23) (h : s24 a0 = 0) : 1 ≤ a0.Share ∧ a0.Share ≤ 100 := by
 unfold s24 at h
 by_cases h1 : s89 [(s90 a0.Before 0 720), (s90 a0.After 0 720), (s90 a0.Notice 0 365), (s90 a0.Share 1 100)] = 0
 ·exact qf1 (qbg h1 _ (by simp))
 ·rw [decide_eq_true (by simpa using h1), cond_true] at h
  exact absurd h h1
theorem qpq (a0 : S23) (a1 : S55) (h : s35 [(s24 (s18 a0)), (s36 a1)] = 0) : 0 ≤ (s18 a0).Share ∧ (s18 a0).Share ≤ 100 ∧ 0 ≤ a1.Due ∧ a1.Due ≤ 512 ∧ 0 ≤ a1.Flown ∧ a1.Flown ≤ 512 := by
 have h1 := qtf _ (qbg h (s24 (s18 a0)) (by simp))
 have h2 := qbg h (s36 a1) (by simp)
 unfold s36 s36_j1 at h2
 have h3 : s89 [(s90 a1.Flown 0 512), (s90 a1.Due 0 512)] = 0 := by
  by_cases h4 : s89 [(s90 a1.Flown 0 512), (s90 a1.Due 0 512)] = 0
  ·exact h4
  ·rw [decide_eq_false h4] at h2
   exact h2
 have h5 := qf1 (qbg h3 (s90 a1.Flown 0 512) (by simp))
 have h6 := qf1 (qbg h3 (s90 a1.Due 0 512) (by simp))
 omega
end Go.Sim
set_option linter.unusedSimpArgs false
set_option linter.unusedVariables false
set_option maxRecDepth 10000
namespace Go.Sim
open Go.Proofs
noncomputable def s5 (a0 : S23) (a1 : S55) : Bool :=
 (bif (!s16) || (!(s17 (s18 a0))) then s16 else (bif decide ((s35 [(s24 (s18 a0)), (s36 a1)]) ≠ 0) then (((!((s33 a0 a1).1)) && (decide ((s33 a0 a1).2 = (s35 [(s24 (s18 a0)), (s36 a1)])))) && (decide ((s34 a0 a1).1 = 0))) && (decide ((s34 a0 a1).2 = (s35 [(s24 (s18 a0)), (s36 a1)]))) else ((decide (IntKind.i64.wrap (((s33 a0 a1).2) + ((s34 a0 a1).2)) = 0)) && (((s33 a0 a1).1) == (s37 (s18 a0) a1))) && (decide ((s34 a0 a1).1 = (s38 (s18 a0) a1)))))
theorem c5 (a0 : S23) (a1 : S55)    : Con (EG glT) 5 [G.agg [G.int a0.Before, G.int a0.After, G.int a0.Notice, G.int a0.Share, G.sl 1 (List.map cStr a0.Causes), G.int a0.Off, G.int a0.Run], G.agg [G.int a1.Flown, G.int a1.Due]] (G.bool (s5 a0 a1)) := by
 generalize hR : s5 a0 a1 = R
 unfold s5 at hR
 refine qp Tryz.func5 rfl rfl fun w0 M0 => ?_
 refine qd ?_
 refine qb [.p, .p, .p] ?_
 refine st rfl rfl (zd rfl rfl) rfl ?_
 refine st rfl rfl (zd rfl rfl) rfl ?_
 refine st rfl rfl (qc rfl rfl) rfl ?_
 refine qe ?_
 refine qd ?_
 refine qd ?_
 refine qb [.p, .p, .p, .p, .p, .p, .p, .p] ?_
 refine st rfl rfl (qj rfl K16 rfl (c16) qk) rfl ?_
 refine st rfl rfl (jx rfl rfl) rfl ?_
 refine st rfl rfl (qa rfl rfl) rfl ?_
 refine st_g rfl rfl rfl (qg _ _) (fun h => qt rfl ty24 rfl rfl rfl) rfl ?_
 refine st_g rfl rfl rfl (qg _ _) (fun h => qj rfl K18 rfl (c18 a0) (qh (gd h rfl) qk)) rfl ?_
 refine st_g rfl rfl rfl (qg _ _) (fun h => qj rfl K17 rfl (c17 (s18 a0)) (qh (gd h rfl) qk)) rfl ?_
 refine st_g rfl rfl rfl (qg _ _) (fun h => jx rfl (gd h rfl)) rfl ?_
 refine st rfl rfl (z8 rfl rfl rfl rfl) rfl ?_
 refine qe ?_
 refine qm _ rfl (fun h1 => ?_) (fun h1 => ?_)
 ·replace h1 : ((!s16) || (!(s17 (s18 a0)))) = true := h1
  replace hR := zk hR h1
  refine qd ?_
  refine qb [.p, .p] ?_
  refine st rfl rfl (qj rfl K16 rfl (c16) qk) rfl ?_
  refine st rfl rfl (qc rfl rfl) rfl ?_
  refine qe ?_
  refine qr ?_
  subst hR
  exact zb rfl (rv_g rfl)
 ·replace h1 : ((!s16) || (!(s17 (s18 a0)))) = false := h1
  replace hR := zl hR h1
  try simp only [Bool.or_eq_true, Bool.and_eq_true, Bool.or_eq_false_iff, Bool.and_eq_false_iff, Bool.not_eq_true', Bool.not_eq_false', decide_eq_true_eq, decide_eq_false_iff_not] at h1
  refine qo ?_
  refine qd ?_
  refine qb [.p, .p, .p, .p, .p, .p, .p, .p] ?_
  refine st rfl rfl (qt rfl ty24 rfl rfl rfl) rfl ?_
  refine st rfl rfl (qt rfl ty56 rfl rfl rfl) rfl ?_
  refine st rfl rfl (qj rfl K33 rfl (c33 a0 a1) (qh rfl (qh rfl qk))) rfl ?_
  refine st rfl rfl (qa rfl rfl) rfl ?_
  refine st rfl rfl (zp rfl rfl rfl) rfl ?_
  refine st rfl rfl (zp rfl rfl rfl) rfl ?_
  refine st rfl rfl (qc rfl rfl) rfl ?_
  refine st rfl rfl (qc rfl rfl) rfl ?_
  refine qe ?_
  refine qd ?_
  refine qb [.p, .p, .p, .p, .p, .p, .p, .p] ?_
  refine st rfl rfl (qt rfl ty24 rfl rfl rfl) rfl ?_
  refine st rfl rfl (qt rfl ty56 rfl rfl rfl) rfl ?_
  refine st rfl rfl (qj rfl K34 rfl (c34 a0 a1) (qh rfl (qh rfl qk))) rfl ?_
  refine st rfl rfl (qa rfl rfl) rfl ?_
  refine st rfl rfl (zp rfl rfl rfl) rfl ?_
  refine st rfl rfl (zp rfl rfl rfl) rfl ?_
  refine st rfl rfl (qc rfl rfl) rfl ?_
  refine st rfl rfl (qc rfl rfl) rfl ?_
  refine qe ?_
  refine qd ?_
  refine zw [.p, .p, .p, .p, .p, .p, .p, .p] (by kernel_rfl) ?_
  refine st rfl rfl (qt rfl ty24 rfl rfl rfl) rfl ?_
  refine st rfl rfl (qj rfl K18 rfl (c18 a0) (qh rfl qk)) rfl ?_
  refine st rfl rfl (qj rfl K24 rfl (c24 (s18 a0)) (qh rfl qk)) rfl ?_
  refine st rfl rfl (qt rfl ty56 rfl rfl rfl) rfl ?_
  refine st rfl rfl (qj rfl K36 rfl (c36 a1) (qh rfl qk)) rfl ?_
  refine st rfl rfl (qu rfl Tryz.underlying82 ty3 z3 rfl (qw rfl (qw rfl z4)) rfl (by simp []) (by decide)) rfl ?_
  refine st rfl rfl (qj rfl K35 rfl (c35 [(s24 (s18 a0)), (s36 a1)]) (qh rfl qk)) rfl ?_
  refine st rfl rfl (qc rfl rfl) rfl ?_
  refine qe ?_
  refine qd ?_
  refine qd ?_
  refine qb [.p, .p] ?_
  refine st rfl rfl (qa rfl rfl) rfl ?_
  refine st rfl rfl (zz rfl rfl rfl) rfl ?_
  refine qe ?_
  refine qm _ rfl (fun h2 => ?_) (fun h2 => ?_)
  ·replace h2 : (decide ((s35 [(s24 (s18 a0)), (s36 a1)]) ≠ 0)) = true := h2
   replace hR := zk hR h2
   refine qd ?_
   refine qb [.p, .p, .p, .p, .p, .p, .p, .p, .p, .p, .p, .p, .p, .p, .p, .p, .p] ?_
   refine st rfl rfl (qa rfl rfl) rfl ?_
   refine st rfl rfl (jx rfl rfl) rfl ?_
   refine st rfl rfl (qa rfl rfl) rfl ?_
   refine st_g rfl rfl rfl (qg _ _) (fun h => qa rfl rfl) rfl ?_
   refine st_g rfl rfl rfl (qg _ _) (fun h => qa rfl rfl) rfl ?_
   refine st_g rfl rfl rfl (qg _ _) (fun h => jq rfl (gd h rfl) (gd h rfl)) rfl ?_
   refine st rfl rfl (zf rfl rfl rfl rfl) rfl ?_
   refine st rfl rfl (qa rfl rfl) rfl ?_
   refine st_g rfl rfl rfl (qg _ _) (fun h => qa rfl rfl) rfl ?_
   refine st_g rfl rfl rfl (qg _ _) (fun h => jq rfl (gd h rfl) rfl) rfl ?_
   refine st rfl rfl (zf rfl rfl rfl rfl) rfl ?_
   refine st rfl rfl (qa rfl rfl) rfl ?_
   refine st_g rfl rfl rfl (qg _ _) (fun h => qa rfl rfl) rfl ?_
   refine st_g rfl rfl rfl (qg _ _) (fun h => qa rfl rfl) rfl ?_
   refine st_g rfl rfl rfl (qg _ _) (fun h => jq rfl (gd h rfl) (gd h rfl)) rfl ?_
   refine st rfl rfl (zf rfl rfl rfl rfl) rfl ?_
   refine st rfl rfl (qc rfl rfl) rfl ?_
   refine qe ?_
   refine qr ?_
   subst hR
   exact zb rfl (rv_g rfl)
  ·replace h2 : (decide ((s35 [(s24 (s18 a0)), (s36 a1)]) ≠ 0)) = false := h2
   replace hR := zl hR h2
   try simp only [decide_eq_false_iff_not] at h2
   obtain ⟨hs0, hs1, hd0, hd1, hf0, hf1⟩ := qpq a0 a1 (by simpa using h2)
   refine qo ?_
   refine qd ?_
   refine zw [.p, .p, .p, .p, .p, .p, .p, .p, .p, .p, .p, .p, .p, .p, .p, .p, .p, .p, .p, .p, .p] (by kernel_rfl) ?_
   refine st rfl rfl (qa rfl rfl) rfl ?_
   refine st rfl rfl (qa rfl rfl) rfl ?_
   refine st rfl rfl (j6 rfl rfl rfl) rfl ?_
   refine st rfl rfl (jq rfl rfl rfl) rfl ?_
   refine st rfl rfl (qa rfl rfl) rfl ?_
   refine st_g rfl rfl rfl (qg _ _) (fun h => qa rfl rfl) rfl ?_
   refine st_g rfl rfl rfl (qg _ _) (fun h => qt rfl ty24 rfl rfl rfl) rfl ?_
   refine st_g rfl rfl rfl (qg _ _) (fun h => qj rfl K18 rfl (c18 a0) (qh (gd h rfl) qk)) rfl ?_
   refine st_g rfl rfl rfl (qg _ _) (fun h => qt rfl ty56 rfl rfl rfl) rfl ?_
   refine st_g rfl rfl rfl (qg _ _) (fun h => qj rfl K37 rfl (c37 (s18 a0) a1) (qh (gd h rfl) (qh (gd h rfl) qk))) rfl ?_
   refine st_g rfl rfl rfl (qg _ _) (fun h => qpe rfl Tryz.underlying4 (gd h rfl) (gd h rfl)) rfl ?_
   refine st rfl rfl (zf rfl rfl rfl rfl) rfl ?_
   refine st rfl rfl (qa rfl rfl) rfl ?_
   refine st_g rfl rfl rfl (qg _ _) (fun h => qa rfl rfl) rfl ?_
   refine st_g rfl rfl rfl (qg _ _) (fun h => qt rfl ty24 rfl rfl rfl) rfl ?_
   refine st_g rfl rfl rfl (qg _ _) (fun h => qj rfl K18 rfl (c18 a0) (qh (gd h rfl) qk)) rfl ?_
   refine st_g rfl rfl rfl (qg _ _) (fun h => qt rfl ty56 rfl rfl rfl) rfl ?_
   refine st_g rfl rfl rfl (qg _ _) (fun h => qj rfl K38 rfl (c38 (s18 a0) a1 (by first | assumption | omega | (simp [qv]; omega)) (by first | assumption | omega | (simp [qv]; omega)) (by first | assumption | omega | (simp [qv]; omega)) (by first | assumption | omega | (simp [qv]; omega)) (by first | assumption | omega | (simp [qv]; omega)) (by first | assumption | omega | (simp [qv]; omega))) (qh (gd h rfl) (qh (gd h rfl) qk))) rfl ?_
   refine st_g rfl rfl rfl (qg _ _) (fun h => jq rfl (gd h rfl) (gd h rfl)) rfl ?_
   refine st rfl rfl (zf rfl rfl rfl rfl) rfl ?_
   refine st rfl rfl (qc rfl rfl) rfl ?_
   refine qe ?_
   refine qr ?_
   subst hR
   exact zb rfl (rv_g rfl)
end Go.Sim
set_option linter.unusedSimpArgs false
set_option linter.unusedVariables false
set_option maxRecDepth 10000
namespace Go.Sim
open Go.Proofs
def s132 (a0 : S110) (a1 : S110) : Int :=
 (s133 a0.Name a1.Name)
theorem c132 {g : List (Nat × List Value)} (a0 : S110) (a1 : S110)    : Con (EG g) 132 [G.agg [G.str a0.Name, G.int a0.Ratio.Flown, G.int a0.Ratio.Due, G.bool a0.Kept], G.agg [G.str a1.Name, G.int a1.Ratio.Flown, G.int a1.Ratio.Due, G.bool a1.Kept]] (G.int (s132 a0 a1)) := by
 generalize hR : s132 a0 a1 = R
 unfold s132 at hR
 refine qp Tryz.func132 rfl rfl fun w0 M0 => ?_
 refine qd ?_
 refine qb [.p, .p, .p] ?_
 refine st rfl rfl (zd rfl rfl) rfl ?_
 refine st rfl rfl (zd rfl rfl) rfl ?_
 refine st rfl rfl (qc rfl rfl) rfl ?_
 refine qe ?_
 refine qd ?_
 refine qb [.p, .p, .p, .p, .p, .p] ?_
 refine st rfl rfl (qf rfl qiu rfl) rfl ?_
 refine st rfl rfl (qi rfl ty9 rfl) rfl ?_
 refine st rfl rfl (qf rfl qiu rfl) rfl ?_
 refine st rfl rfl (qi rfl ty9 rfl) rfl ?_
 refine st rfl rfl (qj rfl K133 rfl (c133 a0.Name a1.Name) (qh rfl (qh rfl qk))) rfl ?_
 refine st rfl rfl (qc rfl rfl) rfl ?_
 refine qe ?_
 refine qr ?_
 subst hR
 exact zb rfl (rv_g rfl)
def s210_l2 (rec1 : Int → (List S110) → Option (List S110)) (a1 : Int) (a3 : S110 → S110 → Option Int) (x1 : Int) : Nat → Int → (List S110) → Option (List S110)
 | 0, _, _ => none
 | k8 + 1, x5, x6 => bindO (bif decide (a1 < x5) then ixO x6 x5 else some default) fun y9 => bindO (bif decide (a1 < x5) then ixO x6 (x5 - 1) else some default) fun y10 => bindO (bif decide (a1 < x5) then a3 y9 y10 else some default) fun r11 => (bif (decide (a1 < x5)) && (decide (r11 < 0)) then bindO (ixO x6 (x5 - 1)) fun y12 => bindO (ixO x6 x5) fun y13 => bindO (ixO x6 x5) fun y14 => bindO (ixO (List.set x6 (Int.toNat x5) y12) (x5 - 1)) fun y15 => s210_l2 rec1 a1 a3 x1 k8 (x5 - 1) (List.set (List.set x6 (Int.toNat x5) y12) (Int.toNat (x5 - 1)) y13) else rec1 (x1 + 1) x6)
def s210_l1 (a1 : Int) (a3 : S110 → S110 → Option Int) : Nat → Int → (List S110) → Option (List S110)
 | 0, x1, x2 => some x2
 | k4 + 1, x1, x2 => s210_l2 (fun z0_ z1_ => s210_l1 a1 a3 k4 z0_ z1_) a1 a3 x1 (((x1 - a1).toNat) + 1) x1 x2
def s210 (a0 : List S110) (a1 : Int) (a2 : Int) (a3 : S110 → S110 → Option Int) : Option (List S110) :=
 s210_l1 a1 a3 ((a2 - (a1 + 1)).toNat) (a1 + 1) a0
theorem c210 {g : List (Nat × List Value)} (a0 : List S110) (a1 : Int) (a2 : Int) (a3 : S110 → S110 → Option Int) {R : List S110} {N0 : Nat} (hN0 : List.length a0 = N0) {ca3 : G} {ia3 : FuncId} {ka3 : List G} (ha3 : FnIs ca3 ia3 ka3) (Ka3 : Known Tryz.prog ia3) (Ha3 : ∀ (x0 : S110) (x1 : S110) (r : Int), a3 x0 x1 = some r → Con (EG g) ia3 ([G.agg [G.str x0.Name, G.int x0.Ratio.Flown, G.int x0.Ratio.Due, G.bool x0.Kept], G.agg [G.str x1.Name, G.int x1.Ratio.Flown, G.int x1.Ratio.Due, G.bool x1.Kept]] ++ ka3) (G.int r)) (hA : 0 ≤ a1) (hA2 : a1 ≤ 1000000) (hB : a2 ≤ 1000000) (hR : s210 a0 a1 a2 a3 = some R) : ConB (EG g) 210 [.osl 0 4 0 N0, .g (G.int a1), .g (G.int a2), .g (ca3)] [(0, .arr 111 4 (List.map S110.c a0))] (G.tup []) [(0, .arr 111 4 (List.map S110.c R))] := by
 unfold s210 at hR
 refine kh Tryz.func210 rfl rfl rfl fun w0 M0 x => ?_
 refine wg (f := S110.c) (l := a0) 0 rfl fun hla0 => ?_
 refine qd ?_
 refine qb [.p, .p, .p] ?_
 refine st rfl rfl (qa rfl rfl) rfl ?_
 refine st rfl rfl (zj rfl rfl rfl (by unfold I64; (try dsimp only); omega)) rfl ?_
 refine st rfl rfl (qc rfl rfl) rfl ?_
 refine qe ?_
 refine qn ?_
 refine qx (γ := Nat × Int × (List S110)) (fun g => ([(0, .osl 0 4 0 (N0)), (1, .g (G.int a1)), (2, .g (G.int a2)), (3, .g (ca3)), (8, .g (G.int g.2.1))], [(0, .arr 111 4 (List.map S110.c g.2.2))])) (fun g => g.1 = (a2 - g.2.1).toNat ∧ (a1 + 1) ≤ g.2.1 ∧ List.length g.2.2 = N0 ∧ s210_l1 a1 a3 g.1 g.2.1 g.2.2 = some R) (fun g => g.1) ⟨rfl, ((a2 - (a1 + 1)).toNat, a1 + 1, a0), ⟨rfl, rfl, rfl, rfl, rfl, trivial⟩, ⟨rfl, trivial⟩, rfl, ⟨rfl, (by first | omega | (dsimp only; omega) | simp), hN0, hR⟩, trivial⟩ ?_
 ·rintro ⟨k4, x1, x2⟩ ⟨hk1, iv1_0, ln3, hR⟩
  replace hk1 : k4 = (a2 - x1).toNat := hk1
  replace hR : s210_l1 a1 a3 k4 x1 x2 = some R := hR
  replace iv1_0 : (a1 + 1) ≤ x1 := iv1_0
  replace ln3 : List.length x2 = N0 := ln3
  refine qd ?_
  refine qd ?_
  refine qb [.p, .p, .p] ?_
  refine st rfl rfl (qa rfl rfl) rfl ?_
  refine st rfl rfl (qa rfl rfl) rfl ?_
  refine st rfl rfl (ze rfl rfl rfl) rfl ?_
  refine qe ?_
  refine qm _ rfl (fun h1 => ?_) (fun h1 => ?_)
  ·replace h1 : (decide (x1 < a2)) = true := h1
   replace h1 := decT h1
   obtain ⟨k4, rfl⟩ : ∃ m, k4 = m + 1 := ⟨k4 - 1, by omega⟩
   rw [s210_l1] at hR
   try dsimp only at hR
   refine qo ?_
   refine qd ?_
   refine qn ?_
   refine qd ?_
   refine qb [.p, .p] ?_
   refine st rfl rfl (qa rfl rfl) rfl ?_
   refine st rfl rfl (qc rfl rfl) rfl ?_
   refine qe ?_
   refine qn ?_
   refine qx (γ := Nat × Int × (List S110)) (fun g => ([(0, .osl 0 4 0 (N0)), (1, .g (G.int a1)), (2, .g (G.int a2)), (3, .g (ca3)), (8, .g (G.int x1)), (9, .g (G.int g.2.1))], [(0, .arr 111 4 (List.map S110.c g.2.2))])) (fun g => (g.2.1 - a1).toNat < g.1 ∧ a1 ≤ g.2.1 ∧ g.2.1 ≤ 1000000 ∧ List.length g.2.2 = N0 ∧ s210_l2 (fun z0_ z1_ => s210_l1 a1 a3 k4 z0_ z1_) a1 a3 x1 g.1 g.2.1 g.2.2 = some R) (fun g => g.1) ⟨rfl, (((x1 - a1).toNat) + 1, x1, x2), ⟨rfl, rfl, rfl, rfl, rfl, rfl, trivial⟩, ⟨rfl, trivial⟩, rfl, ⟨Nat.lt_succ_self _, (by first | omega | (dsimp only; omega) | simp), (by first | omega | (dsimp only; omega) | simp), ln3, hR⟩, trivial⟩ ?_
   ·rintro ⟨k8, x5, x6⟩ ⟨hk2, iv2_0, iv2_1, ln7, hR⟩
    replace hk2 : (x5 - a1).toNat < k8 := hk2
    replace hR : s210_l2 (fun z0_ z1_ => s210_l1 a1 a3 k4 z0_ z1_) a1 a3 x1 k8 x5 x6 = some R := hR
    replace iv2_0 : a1 ≤ x5 := iv2_0
    replace iv2_1 : x5 ≤ 1000000 := iv2_1
    replace ln7 : List.length x6 = N0 := ln7
    obtain ⟨k8, rfl⟩ : ∃ m, k8 = m + 1 := ⟨k8 - 1, by omega⟩
    rw [s210_l2] at hR
    try dsimp only at hR
    refine qd ?_
    refine qd ?_
    obtain ⟨y9, by9, hR⟩ := ql hR
    obtain ⟨y10, by10, hR⟩ := ql hR
    obtain ⟨r11, br11, hR⟩ := ql hR
    refine zw [.p, .p, .p, .p, .p, .p, .p, .p, .r, .p, .p, .p, .p, .r, .p, .p, .p] (by kernel_rfl) ?_
    refine st rfl rfl (qa rfl rfl) rfl ?_
    refine st rfl rfl (qa rfl rfl) rfl ?_
    refine st rfl rfl (zy rfl rfl rfl) rfl ?_
    refine st rfl rfl (qa rfl rfl) rfl ?_
    refine st_g rfl rfl rfl (qg _ _) (fun h => qa rfl rfl) rfl ?_
    refine st_g rfl rfl rfl (qg _ _) (fun h => qq rfl rfl) rfl ?_
    refine st_g rfl rfl rfl (qg _ _) (fun h => qa rfl rfl) rfl ?_
    refine st_g rfl rfl rfl (qg _ _) (fun h => ji rfl Tryz.underlying107 qag (gd h rfl) (gd h rfl) (z7 (jn by9 h)) (Nat.lt_of_lt_of_eq (jf (za (jn by9 h))) ln7)) rfl ?_
    refine qbj rfl rfl rfl (qg _ _) (fun h => v9 (f := S110.c) (l := x6) (a := y9) rfl qag (gd h rfl) rfl (za (jn by9 h))) rfl ?_
    refine st_g rfl rfl rfl (qg _ _) (fun h => qq rfl rfl) rfl ?_
    refine st_g rfl rfl rfl (qg _ _) (fun h => qa rfl rfl) rfl ?_
    refine st_g rfl rfl rfl (qg _ _) (fun h => vj rfl (gd h rfl) rfl (by unfold I64; (try dsimp only); omega)) rfl ?_
    refine st_g rfl rfl rfl (qg _ _) (fun h => ji rfl Tryz.underlying107 qag (gd h rfl) (gd h rfl) (z7 (jn by10 h)) (Nat.lt_of_lt_of_eq (jf (za (jn by10 h))) ln7)) rfl ?_
    refine qbj rfl rfl rfl (qg _ _) (fun h => v9 (f := S110.c) (l := x6) (a := y10) rfl qag (gd h rfl) rfl (za (jn by10 h))) rfl ?_
    refine st_g rfl rfl rfl (qg _ _) (fun h => v5 rfl ha3 Ka3 (gd h rfl) (Con.lend (Ha3 y9 y10 _ (jn br11 h))) (qh (gd h rfl) (qh (gd h rfl) qk))) rfl ?_
    refine st_g rfl rfl rfl (qg _ _) (fun h => ze rfl (gd h rfl) rfl) rfl ?_
    refine st rfl rfl (zf rfl rfl rfl rfl) rfl ?_
    refine qe ?_
    refine qm _ rfl (fun h3 => ?_) (fun h3 => ?_)
    ·replace h3 : ((decide (a1 < x5)) && (decide (r11 < 0))) = true := h3
     replace hR := zk hR h3
     try simp only [Bool.or_eq_true, Bool.and_eq_true, Bool.or_eq_false_iff, Bool.and_eq_false_iff, Bool.not_eq_true', Bool.not_eq_false', decide_eq_true_eq, decide_eq_false_iff_not] at h3
     refine qo ?_
     refine qd ?_
     refine qn ?_
     obtain ⟨y12, by12, hR⟩ := ql hR
     obtain ⟨y13, by13, hR⟩ := ql hR
     obtain ⟨y14, by14, hR⟩ := ql hR
     obtain ⟨y15, by15, hR⟩ := ql hR
     refine zw [.p, .p, .p, .p, .p, .p, .p, .p, .p, .r, .p, .p, .p, .r, .p, .w, .p, .w] (by kernel_rfl) ?_
     refine st rfl rfl (qq rfl rfl) rfl ?_
     refine st rfl rfl (qa rfl rfl) rfl ?_
     refine st rfl rfl (qq rfl rfl) rfl ?_
     refine st rfl rfl (qa rfl rfl) rfl ?_
     refine st rfl rfl (vj rfl rfl rfl (by unfold I64; (try dsimp only); omega)) rfl ?_
     refine st rfl rfl (qq rfl rfl) rfl ?_
     refine st rfl rfl (qa rfl rfl) rfl ?_
     refine st rfl rfl (vj rfl rfl rfl (by unfold I64; (try dsimp only); omega)) rfl ?_
     refine st rfl rfl (ji rfl Tryz.underlying107 qag rfl rfl (z7 by12) (Nat.lt_of_lt_of_eq (jf (za by12)) ln7)) rfl ?_
     refine st_r rfl rfl (v9 (f := S110.c) (l := x6) (a := y12) rfl qag rfl rfl (za by12)) rfl ?_
     refine st rfl rfl (qq rfl rfl) rfl ?_
     refine st rfl rfl (qa rfl rfl) rfl ?_
     refine st rfl rfl (ji rfl Tryz.underlying107 qag rfl rfl (z7 by13) (Nat.lt_of_lt_of_eq (jf (za by13)) ln7)) rfl ?_
     refine st_r rfl rfl (v9 (f := S110.c) (l := x6) (a := y13) rfl qag rfl rfl (za by13)) rfl ?_
     refine st rfl rfl (ji rfl Tryz.underlying107 qag rfl rfl (z7 by14) (Nat.lt_of_lt_of_eq (jf (za by14)) ln7)) rfl ?_
     refine j8 rfl rfl (vg (f := S110.c) (l := x6) (a' := y12) rfl qag rfl rfl rfl (Nat.lt_of_lt_of_eq (Nat.lt_of_lt_of_eq (jf (za by14)) ln7) (Eq.symm ln7)) rfl (fun _ => rfl)) ?_
     refine st rfl rfl (ji rfl Tryz.underlying107 qag rfl rfl (z7 by15) (Nat.lt_of_lt_of_eq (jf (za by15)) ((List.length_set ..).trans ln7))) rfl ?_
     refine j8 rfl rfl (vg (f := S110.c) (l := List.set x6 (Int.toNat x5) y12) (a' := y13) rfl qag rfl rfl rfl (Nat.lt_of_lt_of_eq (Nat.lt_of_lt_of_eq (jf (za by15)) ((List.length_set ..).trans ln7)) (Eq.symm ((List.length_set ..).trans ln7))) rfl (fun _ => rfl)) ?_
     refine qe ?_
     refine qb [.p, .p, .p] ?_
     refine st rfl rfl (qa rfl rfl) rfl ?_
     refine st rfl rfl (vj rfl rfl rfl (by unfold I64; (try dsimp only); omega)) rfl ?_
     refine st rfl rfl (qc rfl rfl) rfl ?_
     refine qe ?_
     exact ⟨rfl, (k8, x5 - 1, List.set (List.set x6 (Int.toNat x5) y12) (Int.toNat (x5 - 1)) y13), ⟨(by simp only [List.length_set]; rfl), rfl, rfl, rfl, rfl, rfl, trivial⟩, ⟨rfl, trivial⟩, rfl, ⟨(by first | omega | (dsimp only; omega) | (simp at *; omega)), (by first | omega | (dsimp only; omega) | (simp at *; omega)), (by first | omega | (dsimp only; omega) | (simp at *; omega)), ((List.length_set ..).trans ((List.length_set ..).trans ln7)), hR⟩, by simp⟩
    ·replace h3 : ((decide (a1 < x5)) && (decide (r11 < 0))) = false := h3
     replace hR := zl hR h3
     try simp only [Bool.or_eq_true, Bool.and_eq_true, Bool.or_eq_false_iff, Bool.and_eq_false_iff, Bool.not_eq_true', Bool.not_eq_false', decide_eq_true_eq, decide_eq_false_iff_not] at h3
     refine zg ?_
     refine qb [.p, .p, .p] ?_
     refine st rfl rfl (qa rfl rfl) rfl ?_
     refine st rfl rfl (zj rfl rfl rfl (by (try dsimp only); unfold I64; omega)) rfl ?_
     refine st rfl rfl (qc rfl rfl) rfl ?_
     refine qe ?_
     exact ⟨rfl, (k4, x1 + 1, x6), ⟨rfl, rfl, rfl, rfl, rfl, trivial⟩, ⟨rfl, trivial⟩, rfl, ⟨(by first | omega | (dsimp only; omega) | (simp at *; omega)), (by first | omega | (dsimp only; omega) | (simp at *; omega)), ln7, hR⟩, by simp⟩
  ·replace h1 : (decide (x1 < a2)) = false := h1
   replace h1 := decF h1
   obtain rfl : k4 = 0 := by omega
   rw [s210_l1] at hR
   refine zg ?_
   obtain rfl := Option.some.inj hR
   show ResOk _ _ _ _ ∧ MemL _ _
   exact ⟨res0 rfl, ⟨rfl, trivial⟩⟩
end Go.Sim
set_option linter.unusedVariables false
namespace Go.Sim
theorem qhr (rec1 : Int → List S110 → Option (List S110)) (hrec : ∀ x l r, rec1 x l = some r → r.length = l.length) (a1 : Int) (a3 : S110 → S110 → Option Int) (x1 : Int) : ∀ (k : Nat) (x : Int) (l r : List S110), s210_l2 rec1 a1 a3 x1 k x l = some r → r.length = l.length
 | 0, _, _, _, h => by rw [s210_l2] at h; cases h
 | k + 1, x, l, r, h => by
  rw [s210_l2] at h
  obtain ⟨y1, _, h⟩ := ql h
  obtain ⟨y2, _, h⟩ := ql h
  obtain ⟨y3, _, h⟩ := ql h
  cases hc : (decide (a1 < x) && decide (y3 < 0)) with
  | true =>
   have h := zk h hc
   obtain ⟨y4, _, h⟩ := ql h
   obtain ⟨y5, _, h⟩ := ql h
   obtain ⟨y6, _, h⟩ := ql h
   obtain ⟨y7, _, h⟩ := ql h
   have := qhr rec1 hrec a1 a3 x1 k _ _ _ h
   simpa using this
  | false => exact hrec _ _ _ (zl h hc)
theorem qhs (a1 : Int) (a3 : S110 → S110 → Option Int) : ∀ (k : Nat) (x : Int) (l r : List S110), s210_l1 a1 a3 k x l = some r → r.length = l.length
 | 0, _, _, _, h => by rw [s210_l1] at h; cases h; rfl
 | k + 1, x, l, r, h => by
  rw [s210_l1] at h
  exact qhr _ (fun x l r h => qhs a1 a3 k x l r h) a1 a3 x _ _ _ _ h
theorem qvs {a0 : List S110} {a1 a2 : Int} {a3 : S110 → S110 → Option Int} {R : List S110} (h : s210 a0 a1 a2 a3 = some R) : R.length = a0.length := qhs _ _ _ _ _ _ h
end Go.Sim
set_option linter.unusedSimpArgs false
set_option linter.unusedVariables false
set_option maxRecDepth 10000
namespace Go.Sim
open Go.Proofs
def s181_l1 (a0 : List S110) (a4 : S110 → S110 → Option Int) : Nat → Int → Int → Int → Bool → Bool → Option (List S110)
 | 0, _, _, _, _, _ => none
 | k6 + 1, x1, x2, x3, x4, x5 => bindO (s210 a0 x1 x2 a4) fun r7 => some r7
def s181 (a0 : List S110) (a1 : Int) (a2 : Int) (a3 : Int) (a4 : S110 → S110 → Option Int) : Option (List S110) :=
 s181_l1 a0 a4 ((0) + 1) a1 a2 a3 true true
theorem c181 {g : List (Nat × List Value)} (a0 : List S110) (a1 : Int) (a2 : Int) (a3 : Int) (a4 : S110 → S110 → Option Int) {R : List S110} {N0 : Nat} (hN0 : List.length a0 = N0) {ca4 : G} {ia4 : FuncId} {ka4 : List G} (ha4 : FnIs ca4 ia4 ka4) (Ka4 : Known Tryz.prog ia4) (Ha4 : ∀ (x0 : S110) (x1 : S110) (r : Int), a4 x0 x1 = some r → Con (EG g) ia4 ([G.agg [G.str x0.Name, G.int x0.Ratio.Flown, G.int x0.Ratio.Due, G.bool x0.Kept], G.agg [G.str x1.Name, G.int x1.Ratio.Flown, G.int x1.Ratio.Due, G.bool x1.Kept]] ++ ka4) (G.int r)) (hA : 0 ≤ a1) (hA2 : a1 ≤ 12) (hB0 : 0 ≤ a2) (hB : a2 ≤ 12) (hR : s181 a0 a1 a2 a3 a4 = some R) : ConB (EG g) 181 [.osl 0 4 0 N0, .g (G.int a1), .g (G.int a2), .g (G.int a3), .g (ca4)] [(0, .arr 111 4 (List.map S110.c a0))] (G.tup []) [(0, .arr 111 4 (List.map S110.c R))] := by
 unfold s181 at hR
 refine kh Tryz.func181 rfl rfl rfl fun w0 M0 x => ?_
 refine wg (f := S110.c) (l := a0) 0 rfl fun hla0 => ?_
 refine qd ?_
 refine qb [.p] ?_
 refine st rfl rfl (qc rfl rfl) rfl ?_
 refine qe ?_
 refine qd ?_
 refine qb [.p] ?_
 refine st rfl rfl (qc rfl rfl) rfl ?_
 refine qe ?_
 refine qn ?_
 refine qx (γ := Nat × Int × Int × Int × Bool × Bool) (fun g => ([(0, .osl 0 4 0 (N0)), (1, .g (G.int g.2.1)), (2, .g (G.int g.2.2.1)), (3, .g (G.int g.2.2.2.1)), (4, .g (ca4)), (10, .g (G.bool g.2.2.2.2.1)), (11, .g (G.bool g.2.2.2.2.2))], [(0, .arr 111 4 (List.map S110.c a0))])) (fun g => 0 < g.1 ∧ 0 ≤ g.2.1 ∧ g.2.1 ≤ 12 ∧ 0 ≤ g.2.2.1 ∧ g.2.2.1 ≤ 12 ∧ s181_l1 a0 a4 g.1 g.2.1 g.2.2.1 g.2.2.2.1 g.2.2.2.2.1 g.2.2.2.2.2 = some R) (fun g => g.1) ⟨rfl, ((0) + 1, a1, a2, a3, true, true), ⟨rfl, rfl, rfl, rfl, rfl, rfl, rfl, trivial⟩, ⟨rfl, trivial⟩, rfl, ⟨Nat.lt_succ_self _, (by first | omega | (dsimp only; omega) | simp), (by first | omega | (dsimp only; omega) | simp), (by first | omega | (dsimp only; omega) | simp), (by first | omega | (dsimp only; omega) | simp), hR⟩, trivial⟩ ?_
 ·rintro ⟨k6, x1, x2, x3, x4, x5⟩ ⟨hk1, iv1_0, iv1_1, iv1_2, iv1_3, hR⟩
  replace hk1 : 0 < k6 := hk1
  replace hR : s181_l1 a0 a4 k6 x1 x2 x3 x4 x5 = some R := hR
  replace iv1_0 : 0 ≤ x1 := iv1_0
  replace iv1_1 : x1 ≤ 12 := iv1_1
  replace iv1_2 : 0 ≤ x2 := iv1_2
  replace iv1_3 : x2 ≤ 12 := iv1_3
  obtain ⟨k6, rfl⟩ : ∃ m, k6 = m + 1 := ⟨k6 - 1, by omega⟩
  rw [s181_l1] at hR
  try dsimp only at hR
  refine qn ?_
  refine qd ?_
  refine qb [.p, .p, .p, .p] ?_
  refine st rfl rfl (qa rfl rfl) rfl ?_
  refine st rfl rfl (qa rfl rfl) rfl ?_
  refine st rfl rfl (vj rfl rfl rfl (by unfold I64; (try dsimp only); omega)) rfl ?_
  refine st rfl rfl (qc rfl rfl) rfl ?_
  refine qe ?_
  refine qd ?_
  refine qd ?_
  refine qb [.p, .p] ?_
  refine st rfl rfl (qa rfl rfl) rfl ?_
  refine st rfl rfl (kg rfl rfl rfl) rfl ?_
  refine qe ?_
  refine qm _ rfl (fun h1 => ?_) (fun h1 => ?_)
  ·replace h1 : (decide (x2 - x1 ≤ 12)) = true := h1
   try simp only [decide_eq_true_eq] at h1
   refine qd ?_
   obtain ⟨r7, br7, hR⟩ := ql hR
   refine qb [.p, .p, .p, .p, .w] ?_
   refine st rfl rfl (qq rfl rfl) rfl ?_
   refine st rfl rfl (qa rfl rfl) rfl ?_
   refine st rfl rfl (qa rfl rfl) rfl ?_
   refine st rfl rfl (qa rfl rfl) rfl ?_
   refine st_w rfl rfl (kq 0 0 rfl K210 rfl (ConB.lend (c210 a0 x1 x2 a4 hN0 ha4 Ka4 Ha4 (by first | assumption | omega | (simp [qv]; omega)) (by first | assumption | omega | (simp [qv]; omega)) (by first | assumption | omega | (simp [qv]; omega)) br7)) (jb rfl rfl (jb rfl rfl (jb rfl rfl (jb rfl rfl ww)))) rfl rfl rfl) rfl ?_
   refine qe ?_
   refine qr ?_
   obtain rfl := Option.some.inj hR
   show ResOk _ _ _ _ ∧ MemL _ _
   exact ⟨res0 rfl, ⟨rfl, trivial⟩⟩
  ·try simp only [Bool.or_eq_true, Bool.and_eq_true, Bool.or_eq_false_iff, Bool.and_eq_false_iff, Bool.not_eq_true', Bool.not_eq_false', decide_eq_true_eq, decide_eq_false_iff_not] at h1
   exfalso; omega
end Go.Sim
set_option linter.unusedVariables false
namespace Go.Sim
theorem qvt {a0 : List S110} {a1 a2 a3 : Int} {a4 : S110 → S110 → Option Int} {R : List S110} (h : s181 a0 a1 a2 a3 a4 = some R) : R.length = a0.length := by
 unfold s181 at h
 rw [s181_l1] at h
 obtain ⟨y1, h1, h⟩ := ql h
 cases h
 exact qvs h1
end Go.Sim
set_option linter.unusedSimpArgs false
set_option linter.unusedVariables false
set_option maxRecDepth 10000
namespace Go.Sim
open Go.Proofs
def s131 (a0 : List S110) (a1 : S110 → S110 → Option Int) : Option (List S110) :=
 bindO (s181 a0 0 (List.length a0 : Int) (lenU (List.length a0 : Int)) a1) fun r1 => some r1
theorem c131 (a0 : List S110) (a1 : S110 → S110 → Option Int) {R : List S110} {N0 : Nat} (hN0 : List.length a0 = N0) {ca1 : G} {ia1 : FuncId} {ka1 : List G} (ha1 : FnIs ca1 ia1 ka1) (Ka1 : Known Tryz.prog ia1) (Ha1 : ∀ (x0 : S110) (x1 : S110) (r : Int), a1 x0 x1 = some r → Con (EG glT) ia1 ([G.agg [G.str x0.Name, G.int x0.Ratio.Flown, G.int x0.Ratio.Due, G.bool x0.Kept], G.agg [G.str x1.Name, G.int x1.Ratio.Flown, G.int x1.Ratio.Due, G.bool x1.Kept]] ++ ka1) (G.int r)) (hB : (List.length a0 : Int) ≤ 12) (hR : s131 a0 a1 = some R) : ConB (EG glT) 131 [.osl 0 4 0 N0, .g (ca1)] [(0, .arr 111 4 (List.map S110.c a0))] (G.tup []) [(0, .arr 111 4 (List.map S110.c R))] := by
 unfold s131 at hR
 refine kh Tryz.func131 rfl rfl rfl fun w0 M0 x => ?_
 refine wg (f := S110.c) (l := a0) 0 rfl fun hla0 => ?_
 refine qd ?_
 refine qb [.p, .p, .p] ?_
 refine st rfl rfl (qq rfl rfl) rfl ?_
 refine st rfl rfl (qcx hN0 rfl Tryz.underlying107 rfl) rfl ?_
 refine st rfl rfl (qc rfl rfl) rfl ?_
 refine qe ?_
 obtain ⟨r1, br1, hR⟩ := ql hR
 refine qb [.p, .p, .p, .p, .p, .p, .w] ?_
 refine st rfl rfl (qq rfl rfl) rfl ?_
 refine st rfl rfl (qa rfl rfl) rfl ?_
 refine st rfl rfl (qa rfl rfl) rfl ?_
 refine st rfl rfl (qjk rfl Tryz.underlying3 Tryz.underlying257 rfl) rfl ?_
 refine st rfl rfl (qj rfl K182 rfl (Con.lend (qu9 (List.length a0 : Int) (by omega))) (qh rfl qk)) rfl ?_
 refine st rfl rfl (qa rfl rfl) rfl ?_
 refine st_w rfl rfl (kq 0 0 rfl K181 rfl (ConB.lend (c181 a0 0 (List.length a0 : Int) (lenU (List.length a0 : Int)) a1 hN0 ha1 Ka1 Ha1 (by first | assumption | omega | (simp [qv]; omega)) (by first | assumption | omega | (simp [qv]; omega)) (by first | assumption | omega | (simp [qv]; omega)) (by first | assumption | omega | (simp [qv]; omega)) br1)) (jb rfl rfl (jb rfl rfl (jb rfl rfl (jb rfl rfl (jb rfl rfl ww))))) rfl rfl rfl) rfl ?_
 refine qe ?_
 obtain rfl := Option.some.inj hR
 show ResOk _ _ _ _ ∧ MemL _ _
 exact ⟨res0 rfl, ⟨rfl, trivial⟩⟩
end Go.Sim
set_option linter.unusedVariables false
namespace Go.Sim
theorem qvu {a0 : List S110} {a1 : S110 → S110 → Option Int} {R : List S110} (h : s131 a0 a1 = some R) : R.length = a0.length := by
 unfold s131 at h
 obtain ⟨y1, h1, h⟩ := ql h
 cases h
 exact qvt h1
end Go.Sim
set_option linter.unusedSimpArgs false
set_option linter.unusedVariables false
set_option maxRecDepth 10000
namespace Go.Sim
open Go.Proofs
def s63_b2 (a0 : S23) (g : (List S110)) (y10 : ByteArray × S55) : (List S110) :=
 g ++ [(S110.mk y10.1 (S55.mk y10.2.Flown y10.2.Due) (s106 a0 y10.2))]
def s63_e2  (g : (List S110)) : Option ((List S110) × Int) :=
 bindO (s131 g (fun x0_ x1_ => some (s132 x0_ x1_))) fun r11 => some (r11, 0)
def s63_l1 (a0 : S23) (a1 : List S151) : List Int → Nat → (List (ByteArray × S55)) → Option ((List S110) × Int)
 | [], k4, x3 => s63_e2 (List.foldl (s63_b2 a0) [] x3)
 | y5 :: t6, k4, x3 => bindO (ixO a1 ((k4 : Nat) : Int)) fun y12 => bindO (ixO a1 ((k4 : Nat) : Int)) fun y13 => s63_l1 a0 a1 t6 (k4 + 1) (mset x3 y13.Name (s126 (mgetD x3 y12.Name (S55.mk 0 0)) y5))
def s63 (a0 : S23) (a1 : List S151) (a2 : List S104) : Option ((List S110) × Int) :=
 (bif decide ((s122 a0 a1 a2) ≠ 0) then some ([], (s122 a0 a1 a2)) else bindO (s124 a0 a1 a2) fun r1 => s63_l1 a0 a1 r1 0 [])
theorem c63 (a0 : S23) (a1 : List S151) (a2 : List S104) {R : (List S110) × Int}  (hb : ¬ s122 a0 a1 a2 ≠ 0 → a1.length ≤ 12 ∧ a2.length ≤ 12) (hc1 : a1.length * 40 ≤ 140737488351232) (hc2 : a2.length * 96 ≤ 140737488351232) (hpm2 : ∀ (a0 : S23) (l_ m_ : List (ByteArray × S55)), (m_.map Prod.fst).Nodup → l_.Perm m_ → s63_e2 (List.foldl (s63_b2 a0) [] l_) = s63_e2 (List.foldl (s63_b2 a0) [] m_)) (hR : s63 a0 a1 a2 = some R) : Con (EG glT) 63 [G.agg [G.int a0.Before, G.int a0.After, G.int a0.Notice, G.int a0.Share, G.sl 1 (List.map cStr a0.Causes), G.int a0.Off, G.int a0.Run], G.sl 3 (List.map S151.c a1), G.sl 8 (List.map S104.c a2)] (G.tup [G.sl 4 (List.map S110.c R.1), G.int R.2]) := by
 unfold s63 at hR
 refine qp Tryz.func63 rfl rfl fun w0 M0 => ?_
 refine zc (f := S151.c) (l := a1) 1 rfl fun hla1 => ?_
 refine zc (f := S104.c) (l := a2) 2 rfl fun hla2 => ?_
 refine qd ?_
 refine qb [.p, .p, .p] ?_
 refine st rfl rfl (zd rfl rfl) rfl ?_
 refine st rfl rfl (qc rfl rfl) rfl ?_
 refine st rfl rfl (qc rfl rfl) rfl ?_
 refine qe ?_
 refine qd ?_
 refine qd ?_
 refine qb [.p, .p, .p, .p, .p] ?_
 refine st rfl rfl (qt rfl ty24 rfl rfl rfl) rfl ?_
 refine st rfl rfl (qa rfl rfl) rfl ?_
 refine st rfl rfl (qa rfl rfl) rfl ?_
 refine st rfl rfl (qj rfl K122 rfl (c122 a0 a1 a2 (by first | assumption | omega | (simp [qv]; omega)) (by first | assumption | omega | (simp [qv]; omega))) (qh rfl (qh rfl (qh rfl qk)))) rfl ?_
 refine st rfl rfl (qc rfl rfl) rfl ?_
 refine qe ?_
 refine qd ?_
 refine qb [.p, .p] ?_
 refine st rfl rfl (qa rfl rfl) rfl ?_
 refine st rfl rfl (zz rfl rfl rfl) rfl ?_
 refine qe ?_
 refine qm _ rfl (fun h1 => ?_) (fun h1 => ?_)
 ·replace h1 : (decide ((s122 a0 a1 a2) ≠ 0)) = true := h1
  replace hR := zk hR h1
  try simp only [decide_eq_true_eq] at h1
  refine qd ?_
  refine qb [.p, .p, .p] ?_
  refine st rfl rfl (qa rfl rfl) rfl ?_
  refine st rfl rfl (qc rfl rfl) rfl ?_
  refine st rfl rfl (qc rfl rfl) rfl ?_
  refine qe ?_
  refine qr ?_
  obtain rfl := Option.some.inj hR
  exact resN rfl ⟨qh7 rfl (qpw _), rv_g rfl, trivial⟩ (by simp)
 ·replace h1 : (decide ((s122 a0 a1 a2) ≠ 0)) = false := h1
  replace hR := zl hR h1
  try simp only [decide_eq_false_iff_not] at h1
  obtain ⟨hb1, hb2⟩ := hb h1
  refine qo ?_
  refine qd ?_
  refine qb [.w, .p] ?_
  refine st_w rfl rfl (qcv 23 rfl rfl) rfl ?_
  refine st rfl rfl (qcr rfl rfl) rfl ?_
  refine qe ?_
  refine qd ?_
  refine qd ?_
  obtain ⟨r1, br1, hR⟩ := ql hR
  refine qb [.p, .p, .p, .p, .p, .p] ?_
  refine st rfl rfl (qt rfl ty24 rfl rfl rfl) rfl ?_
  refine st rfl rfl (qa rfl rfl) rfl ?_
  refine st rfl rfl (qa rfl rfl) rfl ?_
  refine st rfl rfl (qj rfl K124 rfl (c124 a0 a1 a2 (by first | assumption | omega | (simp [qv]; omega)) (by first | assumption | omega | (simp [qv]; omega)) br1) (qh rfl (qh rfl (qh rfl qk)))) rfl ?_
  refine st rfl rfl (q9 (f := cInt) (l := r1) rfl Tryz.underlying82 rfl) rfl ?_
  refine st rfl rfl (qa rfl rfl) rfl ?_
  refine qe ?_
  have hl124 := qvv br1
  refine qn ?_
  refine qx (γ := Nat × (List Int) × (List (ByteArray × S55))) (fun g => ([(1, .g (G.sl 3 (List.map S151.c a1))), (3, .g (G.ref [G.int a0.Before, G.int a0.After, G.int a0.Notice, G.int a0.Share, G.sl 1 (List.map cStr a0.Causes), G.int a0.Off, G.int a0.Run])), (9, .omap 23), (27, .g (G.sl 1 (List.map cInt r1))), (28, .g (G.int (List.length r1 : Int))), (29, .g (G.int ((g.1 : Nat) : Int)))], [(23, mpB (K := ByteArray) (V := S55) (Value.string) (fun (v : S55) => G.agg [G.int v.Flown, G.int v.Due]) g.2.2)])) (fun g => g.2.2.length ≤ g.1 ∧ g.1 ≤ List.length r1 ∧ r1.drop g.1 = g.2.1 ∧ s63_l1 a0 a1 g.2.1 g.1 g.2.2 = some R) (fun g => List.length g.2.1) ⟨rfl, (0, r1, []), ⟨rfl, rfl, rfl, rfl, rfl, rfl, trivial⟩, ⟨rfl, trivial⟩, rfl, ⟨(by first | (simp; done) | (simp; omega)), (by first | (simp; done) | (simp; omega)), rfl, hR⟩, trivial⟩ ?_
  ·rintro ⟨k4, t6, x3⟩ ⟨iv1_0, iv1_1, hd, hR⟩
   replace hd : r1.drop k4 = t6 := hd
   replace hR : s63_l1 a0 a1 t6 k4 x3 = some R := hR
   replace iv1_0 : x3.length ≤ k4 := iv1_0
   replace iv1_1 : k4 ≤ List.length r1 := iv1_1
   refine qd ?_
   refine qb [.p] ?_
   refine st rfl rfl (ze rfl rfl rfl) rfl ?_
   refine qe ?_
   refine zc (f := cInt) (l := r1) 27 rfl fun hlz1 => ?_
   refine qd ?_
   refine qm _ rfl (fun h2 => ?_) (fun h2 => ?_)
   ·replace h2 : (decide (((k4 : Nat) : Int) < (List.length r1 : Int))) = true := h2
    obtain ⟨y5, t6, rfl, hx1, hd⟩ := zh hd (decT h2)
    replace h2 := decT h2
    rw [s63_l1] at hR
    try dsimp only at hR
    refine qo ?_
    refine qd ?_
    refine qn ?_
    refine qd ?_
    refine qb [.p, .p, .p, .p, .p] ?_
    refine st rfl rfl (qa rfl rfl) rfl ?_
    refine st rfl rfl (zi (f := cInt) (l := r1) (a := y5) rfl Tryz.underlying82 ty3 rfl rfl (Int.natCast_nonneg _) hx1) rfl ?_
    refine st rfl rfl (qi rfl ty3 rfl) rfl ?_
    refine st rfl rfl (qc rfl rfl) rfl ?_
    refine st rfl rfl (qc rfl rfl) rfl ?_
    refine qe ?_
    refine qd ?_
    obtain ⟨y12, by12, hR⟩ := ql hR
    refine qb [.p, .p, .p, .p, .p, .p, .r, .w, .w] ?_
    refine st rfl rfl (qay rfl rfl) rfl ?_
    refine st rfl rfl (qa rfl rfl) rfl ?_
    refine st rfl rfl (qa rfl rfl) rfl ?_
    refine st rfl rfl (zi (f := S151.c) (l := a1) (a := y12) rfl Tryz.underlying25 ko rfl rfl (z7 by12) (za by12)) rfl ?_
    refine st rfl rfl (qf rfl w4 rfl) rfl ?_
    refine st rfl rfl (qi rfl ty9 rfl) rfl ?_
    refine st_r rfl rfl (qdu (kf := Value.string) (vf := (fun (v : S55) => G.agg [G.int v.Flown, G.int v.Due])) (m := x3) (k := y12.Name) (z := (S55.mk 0 0)) rfl Tryz.underlying205 Tryz.underlying9 zr56 (fun _ _ => ⟨_, rfl, ⟨⟨rfl, rfl⟩, ⟨⟨rfl, rfl⟩, trivial⟩⟩⟩) rfl rfl rfl) rfl ?_
    refine st_w rfl rfl (jm 12 rfl z56 rfl rfl) rfl ?_
    refine j8 rfl rfl (zt (tv := .g (G.agg [G.int ((mgetD x3 y12.Name (S55.mk 0 0)).Flown), G.int ((mgetD x3 y12.Name (S55.mk 0 0)).Due)])) rfl ty56 rfl rfl rfl rfl rfl) ?_
    refine qe ?_
    refine qd ?_
    refine qb [.p, .w] ?_
    refine st rfl rfl (qa rfl rfl) rfl ?_
    refine st_w rfl rfl (kq 0 12 rfl K126 rfl (c126 (mgetD x3 y12.Name (S55.mk 0 0)) y5) (jb rfl rfl (jb rfl rfl ww)) rfl rfl rfl) rfl ?_
    refine qe ?_
    obtain ⟨y13, by13, hR⟩ := ql hR
    refine zw [.p, .p, .p, .p, .p, .p, .r, .w] (by kernel_rfl) ?_
    refine st rfl rfl (qay rfl rfl) rfl ?_
    refine st rfl rfl (qa rfl rfl) rfl ?_
    refine st rfl rfl (qa rfl rfl) rfl ?_
    refine st rfl rfl (zi (f := S151.c) (l := a1) (a := y13) rfl Tryz.underlying25 ko rfl rfl (z7 by13) (za by13)) rfl ?_
    refine st rfl rfl (qf rfl w4 rfl) rfl ?_
    refine st rfl rfl (qi rfl ty9 rfl) rfl ?_
    refine st_r rfl rfl (jo rfl ty56 rfl rfl rfl rfl) rfl ?_
    refine j8 rfl rfl (qdv (kf := Value.string) (vf := (fun (v : S55) => G.agg [G.int v.Flown, G.int v.Due])) (m := x3) (k := y13.Name) (v := (s126 (mgetD x3 y12.Name (S55.mk 0 0)) y5)) (ins := false) rfl Tryz.underlying205 Tryz.underlying9 rfl rfl rfl rfl) ?_
    refine qe ?_
    refine qb [.p, .p] ?_
    refine st rfl rfl (zj rfl rfl rfl (by unfold I64; omega)) rfl ?_
    refine st rfl rfl (qa rfl rfl) rfl ?_
    refine qe ?_
    exact ⟨rfl, (k4 + 1, t6, mset x3 y13.Name (s126 (mgetD x3 y12.Name (S55.mk 0 0)) y5)), ⟨rfl, rfl, rfl, rfl, rfl, rfl, trivial⟩, ⟨rfl, trivial⟩, rfl, ⟨(Nat.le_trans (qjx _ _ _) (Nat.succ_le_succ iv1_0)), (by omega), hd, hR⟩, by simp⟩
   ·replace h2 : (decide (((k4 : Nat) : Int) < (List.length r1 : Int))) = false := h2
    obtain rfl := zm hd (decF h2)
    rw [s63_l1] at hR
    refine zg ?_
    refine qd ?_
    refine qb [.w] ?_
    refine st_w rfl rfl (zu 13 111 4 rfl rfl rfl) rfl ?_
    refine qe ?_
    refine qd ?_
    refine qd ?_
    refine wx (l := [(3, .g (G.ref [G.int a0.Before, G.int a0.After, G.int a0.Notice, G.int a0.Share, G.sl 1 (List.map cStr a0.Causes), G.int a0.Off, G.int a0.Run])), (9, .g (G.mpf (List.map (fun p => ((Value.string) p.1, ((fun (v : S55) => G.agg [G.int v.Flown, G.int v.Due])) p.2)) x3))), (13, .osl 13 4 0 0)]) (m := [(13, .arr 111 4 (List.map S110.c []))]) 23 rfl ⟨.inl ⟨rfl, rfl⟩, .inr qrj, .inl ⟨rfl, rfl⟩, trivial⟩ ⟨rfl, trivial⟩ rfl rfl ?_
    refine qb [.p, .w] ?_
    refine st rfl rfl (qa rfl rfl) rfl ?_
    refine st_w rfl rfl (qk4 52 rfl Tryz.underlying205 rfl rfl) rfl ?_
    refine qe ?_
    refine qn ?_
    refine qx (γ := (List Nat) × (List (ByteArray × S55)) × (List S110)) (fun g => ([(3, .g (G.ref [G.int a0.Before, G.int a0.After, G.int a0.Notice, G.int a0.Share, G.sl 1 (List.map cStr a0.Causes), G.int a0.Off, G.int a0.Run])), (13, .osl 13 4 0 (List.length g.2.2)), (52, .ptr 52 0)], [(13, .arr 111 4 (List.map S110.c g.2.2)), (52, .mit (List.map (fun p => ((Value.string) p.1, ((fun (v : S55) => G.agg [G.int v.Flown, G.int v.Due])) p.2)) x3) g.1)])) (fun g => MOrd x3 g.1 g.2.1 ∧ List.foldl (s63_b2 a0) [] g.2.1 = g.2.2 ∧ g.2.2.length ≤ g.2.1.length) (fun g => List.length x3 - List.length g.1) ⟨rfl, ([], [], []), ⟨rfl, rfl, rfl, trivial⟩, ⟨rfl, rfl, trivial⟩, rfl, ⟨qor, rfl, (by simp)⟩, trivial⟩ ?_
    ·rintro ⟨sn8, l9, x7⟩ ⟨hmo_, hfd_, iv2_0⟩
     replace iv2_0 : x7.length ≤ l9.length := iv2_0
     replace hmo_ : MOrd x3 sn8 l9 := hmo_
     replace hfd_ : List.foldl (s63_b2 a0) [] l9 = x7 := hfd_
     have hml_ := hmo_.len
     refine qd ?_
     refine qrk (cs := [.p]) rfl rfl rfl rfl rfl rfl rfl (fun hal_ hnk_ => ?_) (fun jx_ kx_ gx_ hj_ hnx_ => ?_)
     ·refine st rfl rfl (zp rfl rfl rfl) rfl ?_
      refine qe ?_
      refine qd ?_
      have hpl_ := (hmo_.perm (qpy (kf := Value.string) (vf := (fun (v : S55) => G.agg [G.int v.Flown, G.int v.Due])) (m := x3) hal_)).length_eq
      replace hR : s63_e2 (List.foldl (s63_b2 a0) [] x3) = some R := hR
      rw [← hpm2 a0 l9 x3 (qos (kf := Value.string) (vf := (fun (v : S55) => G.agg [G.int v.Flown, G.int v.Due])) (m := x3) hnk_) (hmo_.perm (qpy (kf := Value.string) (vf := (fun (v : S55) => G.agg [G.int v.Flown, G.int v.Due])) (m := x3) hal_)), hfd_] at hR
      unfold s63_e2 at hR
      try dsimp only at hR
      refine qm _ rfl (fun h4 => ?_) (fun h4 => ?_)
      ·exact Bool.noConfusion h4
      ·refine zg ?_
       refine qd ?_
       obtain ⟨r11, br11, hR⟩ := ql hR
       refine qb [.p, .w] ?_
       refine st rfl rfl (qq rfl rfl) rfl ?_
       refine st_w rfl rfl (kq 0 13 rfl K131 rfl (c131 x7 (fun x0_ x1_ => some (s132 x0_ x1_)) rfl qaa K132 (fun x0_ x1_ r_ h_ => Option.some.inj h_ ▸ (fun x0 x1 => c132 x0 x1) x0_ x1_) (by first | assumption | omega | (simp [qv]; omega)) br11) (jb rfl rfl (jb rfl rfl ww)) rfl rfl rfl) rfl ?_
       refine qe ?_
       refine qd ?_
       refine qb [.p, .p, .p] ?_
       refine st rfl rfl (qq rfl rfl) rfl ?_
       refine st rfl rfl (qy rfl rfl) rfl ?_
       refine st rfl rfl (qc rfl rfl) rfl ?_
       refine qe ?_
       refine qr ?_
       obtain rfl := Option.some.inj hR
       exact resN rfl ⟨qmm ((qvu br11).trans rfl) rfl rfl, rv_g rfl, trivial⟩ (by simp)
     ·obtain ⟨y10, hy_, rfl, rfl⟩ := qtz (kf := Value.string) (vf := (fun (v : S55) => G.agg [G.int v.Flown, G.int v.Due])) (m := x3) hj_
      refine st rfl rfl (zp rfl rfl rfl) rfl ?_
      refine qe ?_
      refine qd ?_
      refine qm _ rfl (fun h5 => ?_) (fun h5 => ?_)
      ·refine qo ?_
       refine qn ?_
       refine qd ?_
       refine qb [.r, .p, .p, .w, .p, .w] ?_
       refine st_r rfl rfl (qk5 rfl rfl rfl hj_) rfl ?_
       refine st rfl rfl (zp rfl rfl rfl) rfl ?_
       refine st rfl rfl (zp rfl rfl rfl) rfl ?_
       refine st_w rfl rfl (jm 15 rfl z56 rfl rfl) rfl ?_
       refine st rfl rfl (qc rfl rfl) rfl ?_
       refine j8 rfl rfl (zt (tv := .g (G.agg [G.int y10.2.Flown, G.int y10.2.Due])) rfl ty56 rfl rfl rfl rfl rfl) ?_
       refine qe ?_
       refine qb8 [.p, .pn 13, .r, .pn 13, .r, .pn 13, .pn 13, .pn 13, .kn 13, .p] (by kernel_rfl) ?_
       refine st rfl rfl (qq rfl rfl) rfl ?_
       refine kz rfl rfl (qa rfl rfl) rfl rfl rfl ?_
       refine st_r rfl rfl (jo rfl ty56 rfl rfl rfl rfl) rfl ?_
       refine kz rfl rfl (qt rfl ty24 rfl rfl rfl) rfl rfl rfl ?_
       refine st_r rfl rfl (jo rfl ty56 rfl rfl rfl rfl) rfl ?_
       refine kz rfl rfl (qj rfl K106 rfl (c106 a0 y10.2) (qh rfl (qh rfl qk))) rfl rfl rfl ?_
       refine kz rfl rfl (vk rfl z111 rfl qwn (j9 rfl (j9 rfl (j9 rfl qaz))) rfl) rfl rfl rfl ?_
       refine kz rfl rfl (qu rfl Tryz.underlying107 qag z111 rfl (qw rfl z4) rfl (by exact lens rfl) (by decide)) rfl rfl rfl ?_
       refine qdg rfl rfl (z5 (f := S110.c) (out := x7) (new := [(S110.mk y10.1 (S55.mk y10.2.Flown y10.2.Due) (s106 a0 y10.2))]) rfl quh rfl rfl (kc rfl (vc (by decide) (by simp [S110.c, S55.c]))) (vp rfl) (by simp; omega)) rfl ?_
       refine st rfl rfl (qy rfl rfl) rfl ?_
       refine qe ?_
       exact ⟨rfl, (jx_ :: sn8, l9 ++ [y10], x7 ++ [(S110.mk y10.1 (S55.mk y10.2.Flown y10.2.Due) (s106 a0 y10.2))]), ⟨rfl, rfl, rfl, trivial⟩, ⟨rfl, rfl, trivial⟩, rfl, ⟨hmo_.snoc hy_ hnx_, (by rw [List.foldl_append, hfd_]; rfl), (by first | omega | (dsimp only; omega) | (simp at *; omega))⟩, (hmo_.snoc hy_ hnx_).dec⟩
      ·exact Bool.noConfusion h5
end Go.Sim
set_option linter.unusedVariables false
set_option linter.unusedSimpArgs false
namespace Go.Sim
theorem qec (rec1 : Int → List S110 → Option (List S110)) (cmp : S110 → S110 → Option Int) (lt : S110 → S110 → Bool) (x1 : Int) (x : S110) : ∀ (P B : List S110) (k : Nat), P.length < k → (∀ y ∈ P, ∃ c, cmp x y = some c ∧ decide (c < 0) = lt x y) →
  s210_l2 rec1 0 cmp x1 k (P.length : Int) (P.reverse ++ x :: B) = rec1 (x1 + 1) ((insB lt x P).reverse ++ B)
 | [], B, 0, h, _ => by omega
 | [], B, k + 1, h, _ => by
  rw [s210_l2]
  have e : decide ((0 : Int) < (([] : List S110).length : Int)) = false := by simp
  simp only [e, cond_false, bindO, Bool.false_and, insB]
  simp
 | y :: r, B, 0, h, _ => by omega
 | y :: r, B, k + 1, h, hc => by
  have e : decide ((0 : Int) < ((y :: r).length : Int)) = true := by simp <;> omega
  have l1 : (y :: r).reverse ++ x :: B = (r.reverse ++ [y]) ++ x :: B := by simp
  have l2 : (r.reverse ++ [y]) ++ x :: B = r.reverse ++ y :: (x :: B) := by simp
  have i1 : ixO ((r.reverse ++ [y]) ++ x :: B) ((y :: r).length : Int) = some x := vn (by simp)
  have i2 : ixO ((r.reverse ++ [y]) ++ x :: B) (((y :: r).length : Int) - 1) = some y := by rw [l2]; exact vn (by simp)
  obtain ⟨c, c1, c2⟩ := hc y List.mem_cons_self
  rw [s210_l2, l1]
  simp only [e, cond_true, i1, i2, bindO, c1, Bool.true_and, c2]
  cases hl : lt x y with
  | true =>
   have e1 : List.set ((r.reverse ++ [y]) ++ x :: B) (Int.toNat ((y :: r).length : Int)) y = (r.reverse ++ [y]) ++ y :: B := w6 (by simp)
   have e2 : List.set ((r.reverse ++ [y]) ++ y :: B) (Int.toNat (((y :: r).length : Int) - 1)) x = r.reverse ++ x :: (y :: B) := by
    rw [show (r.reverse ++ [y]) ++ y :: B = r.reverse ++ y :: (y :: B) by simp]
    exact w6 (by simp)
   have e3 : (((y :: r).length : Int) - 1) = (r.length : Int) := by simp
   have hih := qec rec1 cmp lt x1 x r (y :: B) k (by simp at h; omega) (fun z hz => hc z (List.mem_cons_of_mem _ hz))
   have i3 : ixO (List.set ((r.reverse ++ [y]) ++ x :: B) (Int.toNat ((y :: r).length : Int)) y) (((y :: r).length : Int) - 1) = some y := by
    rw [e1, show (r.reverse ++ [y]) ++ y :: B = r.reverse ++ y :: (y :: B) by simp]
    exact vn (by simp)
   rw [cond_true]
   simp only [i3]
   rw [e1, e2, e3, hih]
   simp [insB, hl]
  | false =>
   rw [cond_false]
   simp [insB, hl]
theorem qed (cmp : S110 → S110 → Option Int) (lt : S110 → S110 → Bool) : ∀ (l P : List S110), (∀ y ∈ P ++ l, ∀ x ∈ l, ∃ c, cmp x y = some c ∧ decide (c < 0) = lt x y) → s210_l1 0 cmp l.length (P.length : Int) (P.reverse ++ l) = some (insS lt P l)
 | [], P, _ => by rw [List.length_nil, s210_l1, insS, List.append_nil]
 | x :: l, P, h => by
  rw [List.length_cons, s210_l1, qec _ cmp lt _ x P l _ (by omega) (fun y hy => h y (List.mem_append_left _ hy) x List.mem_cons_self), insS]
  have := qed cmp lt l (insB lt x P) (fun y hy z hz => h y (by
   rcases List.mem_append.1 hy with hy | hy
   ·rcases List.mem_cons.1 ((v6 lt x P).mem_iff.1 hy) with rfl | hy
    ·simp
    ·simp [hy]
   ·simp [hy]) z (List.mem_cons_of_mem _ hz))
  rw [← this, qfi]
  simp
theorem qtg {cmp : S110 → S110 → Option Int} {lt : S110 → S110 → Bool} {l : List S110} (h : ∀ y ∈ l, ∀ x ∈ l, ∃ c, cmp x y = some c ∧ decide (c < 0) = lt x y) : s210 l 0 (l.length : Int) cmp = some (isort lt l) := by
 unfold s210 isort
 cases l with
 | nil => rfl
 | cons x l =>
  have e : ((((x :: l).length : Int) - (0 + 1)).toNat) = l.length := by simp
  rw [e, insS]
  exact qed cmp lt l [x] (fun y hy z hz => h y hy z (List.mem_cons_of_mem _ hz))
theorem qth {cmp : S110 → S110 → Option Int} {lt : S110 → S110 → Bool} {l : List S110} (h : ∀ y ∈ l, ∀ x ∈ l, ∃ c, cmp x y = some c ∧ decide (c < 0) = lt x y) : s131 l cmp = some (isort lt l) := by
 unfold s131 s181
 rw [s181_l1, qtg h]
 simp only [bindO]
end Go.Sim
namespace Go.Sim
def ltR (a b : S110) : Bool := strLt a.Name b.Name
theorem qti (a b : S110) : decide (s132 a b < 0) = ltR a b := by
 unfold s132 ltR
 rw [qi4]
 cases h : strLt a.Name b.Name
 ·by_cases h2 : a.Name = b.Name <;> simp [h2]
 ·rfl
def rowOf (a0 : S23) (y : ByteArray × S55) : S110 := S110.mk y.1 (S55.mk y.2.Flown y.2.Due) (s106 a0 y.2)
theorem qkl (a0 : S23) : ∀ (l : List (ByteArray × S55)) (g : List S110), List.foldl (s63_b2 a0) g l = g ++ l.map (rowOf a0)
 | [], g => by simp
 | y :: l, g => by rw [List.foldl_cons, qkl a0 l]; simp [s63_b2, rowOf]
theorem qs7 (g : List S110) : s63_e2 g = some (isort ltR g, 0) := by
 unfold s63_e2
 rw [qth (lt := ltR) (fun y _ x _ => ⟨_, rfl, qti x y⟩)]
 rfl
def RelR (a b : S110) : Prop := strLt b.Name a.Name = false
theorem RelR.tr (a b c : S110) (h : RelR a b) (k : RelR b c) : RelR a c := by
 unfold RelR at *
 cases hc : strLt c.Name a.Name
 ·rfl
 ·cases hb : strLt b.Name c.Name
  ·have := qb2 hb k
   rw [this] at h; rw [h] at hc; cases hc
  ·rw [qnw hb hc] at h; cases h
theorem wn (g : List S110) : (isort ltR g).Pairwise RelR :=
 w5 RelR.tr (List.pairwise_of_forall fun y x => ⟨fun h => by
  unfold RelR
  cases hc : strLt y.Name x.Name
  ·rfl
  ·exact (qlo h hc).elim, fun h => h⟩)
theorem qi7 {a0 : S23} {m : List (ByteArray × S55)} (hn : (m.map Prod.fst).Nodup) : ∀ x ∈ m.map (rowOf a0), ∀ y ∈ m.map (rowOf a0), x.Name = y.Name → x = y := by
 intro x hx y hy h
 obtain ⟨p, hp, rfl⟩ := List.mem_map.1 hx
 obtain ⟨q, hq, rfl⟩ := List.mem_map.1 hy
 have : p = q := by
  have h : p.1 = q.1 := h
  clear hx hy
  induction m with
  | nil => cases hp
  | cons a m ih =>
   rw [List.map_cons, List.nodup_cons] at hn
   rcases List.mem_cons.1 hp with e1 | hp2
   ·rcases List.mem_cons.1 hq with e2 | hq2
    ·rw [e1, e2]
    ·have := List.mem_map_of_mem (f := Prod.fst) hq2
     rw [← h, e1] at this
     exact absurd this hn.1
   ·rcases List.mem_cons.1 hq with e2 | hq2
    ·have := List.mem_map_of_mem (f := Prod.fst) hp2
     rw [h, e2] at this
     exact absurd this hn.1
    ·exact ih hn.2 hp2 hq2
 rw [this]
theorem RelR.eq {a b : S110} (h : RelR a b) (k : RelR b a) : a.Name = b.Name := qb2 k h
theorem qwu (a0 : S23) (l m : List (ByteArray × S55)) (hn : (m.map Prod.fst).Nodup) (hp : l.Perm m) : s63_e2 (List.foldl (s63_b2 a0) [] l) = s63_e2 (List.foldl (s63_b2 a0) [] m) := by
 rw [qkl, qkl, qs7, qs7]
 simp only [List.nil_append]
 congr 2
 have hpm : (l.map (rowOf a0)).Perm (m.map (rowOf a0)) := hp.map _
 refine xc ((vx _ _).trans (hpm.trans (vx _ _).symm)) (wn _) (wn _) fun x hx y hy h k => ?_
 have hx' : x ∈ m.map (rowOf a0) := hpm.mem_iff.1 ((vx _ _).mem_iff.1 hx)
 have hy' : y ∈ m.map (rowOf a0) := hpm.mem_iff.1 ((vx _ _).mem_iff.1 hy)
 exact qi7 hn x hx' y hy' (RelR.eq h k)
end Go.Sim
