/-
  What is proved: UseTables: its walk, and its law: it is true of every rule, all slots and all records.
-/
import Derived.Test.YtdfgeoefbbkcnaaGreatDoorVsP1
import Derived.Test.YtdfgeoefbbkcnaaGreatDoorVsJ2
import Derived.Test.YtdfgeoefbbkcnaaGreatDoorVaA9
import Derived.Test.YtdfgeoefbbkcnaaGreatDoorVsJ1
set_option linter.unusedSectionVars false
set_option linter.unusedSimpArgs false
set_option linter.unusedVariables false
set_option linter.unnecessarySimpa false
set_option linter.deprecated false
set_option linter.unusedSimpArgs false
set_option linter.unusedVariables false
set_option maxRecDepth 10000
namespace Go.Sim
open Go.Proofs
def s13_l1 (r3 : List S137) : List S110 → Nat → Option Bool
 | [], k6 => some true
 | y7 :: t8, k6 => bindO (ixO r3 ((k6 : Nat) : Int)) fun y9 => bindO (bif !(!decide (y7.Name = y9.Name)) then ixO r3 ((k6 : Nat) : Int) else some default) fun y10 => bindO (bif !((!decide (y7.Name = y9.Name)) || (!(eqAnd [decide (y7.Ratio.Flown = y10.Ratio.Flown), decide (y7.Ratio.Due = y10.Ratio.Due)]))) then ixO r3 ((k6 : Nat) : Int) else some default) fun y11 => (bif ((!decide (y7.Name = y9.Name)) || (!(eqAnd [decide (y7.Ratio.Flown = y10.Ratio.Flown), decide (y7.Ratio.Due = y10.Ratio.Due)]))) || (!(y7.Kept == y11.Kept)) then some false else s13_l1 r3 t8 (k6 + 1))
noncomputable def s13 (a0 : S23) (a1 : List S151) (a2 : List S104) : Option Bool :=
 (bif (((!s16) || (!(s17 (s18 a0)))) || (!(s19 (s20 a1) 10))) || (!(s21 (s22 a2) 10)) then some s16 else bindO (s72 a0 a1 a2) fun r1 => bindO (s63 a0 a1 a2) fun r2 => (bif decide ((s35 [(s24 (s18 a0)), (s26 (s20 a1)), (s28 (s22 a2))]) ≠ 0) then some ((((decide (r1.1 = 0)) && (decide (r1.2 = (s35 [(s24 (s18 a0)), (s26 (s20 a1)), (s28 (s22 a2))])))) && (decide ((List.length r2.1 : Int) = 0))) && (decide (r2.2 = (s35 [(s24 (s18 a0)), (s26 (s20 a1)), (s28 (s22 a2))])))) else bindO (s73 (s18 a0) (s20 a1) (s22 a2)) fun r3 => bindO (bif !(decide (IntKind.i64.wrap (r1.2 + r2.2) ≠ 0)) then s74 (s18 a0) (s20 a1) (s22 a2) else some default) fun r4 => (bif ((decide (IntKind.i64.wrap (r1.2 + r2.2) ≠ 0)) || (decide (r1.1 ≠ r4))) || (decide ((List.length r2.1 : Int) ≠ (List.length r3 : Int))) then some false else s13_l1 r3 r2.1 0)))
set_option maxHeartbeats 4000000 in
theorem c13 (a0 : S23) (a1 : List S151) (a2 : List S104) {R : Bool}  (hb0 : a1.length * 40 ≤ 140737488351232) (hb1 : a2.length * 96 ≤ 140737488351232) (hR : s13 a0 a1 a2 = some R) : Con (EG glT) 13 [G.agg [G.int a0.Before, G.int a0.After, G.int a0.Notice, G.int a0.Share, G.sl 1 (List.map cStr a0.Causes), G.int a0.Off, G.int a0.Run], G.sl 3 (List.map S151.c a1), G.sl 8 (List.map S104.c a2)] (G.bool R) := by
 unfold s13 at hR
 refine qp Tryz.func13 rfl rfl fun w0 M0 => ?_
 refine zc (f := S151.c) (l := a1) 1 rfl fun hla1 => ?_
 refine zc (f := S104.c) (l := a2) 2 rfl fun hla2 => ?_
 refine qd ?_
 refine qb [.p, .p] ?_
 refine st rfl rfl (zd rfl rfl) rfl ?_
 refine st rfl rfl (qc rfl rfl) rfl ?_
 refine qe ?_
 refine qd ?_
 refine qd ?_
 refine qb [.p, .p, .p, .p, .p, .p, .p, .p, .p, .p, .p, .p, .p, .p, .p, .p, .p, .p, .p, .p] ?_
 refine st rfl rfl (qj rfl K16 rfl (c16) qk) rfl ?_
 refine st rfl rfl (jx rfl rfl) rfl ?_
 refine st rfl rfl (qa rfl rfl) rfl ?_
 refine st_g rfl rfl rfl (qg _ _) (fun h => qt rfl ty24 rfl rfl rfl) rfl ?_
 refine st_g rfl rfl rfl (qg _ _) (fun h => qj rfl K18 rfl (c18 a0) (qh (gd h rfl) qk)) rfl ?_
 refine st_g rfl rfl rfl (qg _ _) (fun h => qj rfl K17 rfl (c17 (s18 a0)) (qh (gd h rfl) qk)) rfl ?_
 refine st_g rfl rfl rfl (qg _ _) (fun h => jx rfl (gd h rfl)) rfl ?_
 refine st rfl rfl (z8 rfl rfl rfl rfl) rfl ?_
 refine st rfl rfl (qa rfl rfl) rfl ?_
 refine st_g rfl rfl rfl (qg _ _) (fun h => qa rfl rfl) rfl ?_
 refine st_g rfl rfl rfl (qg _ _) (fun h => qj rfl K20 rfl (c20 a1 (by omega)) (qh (gd h rfl) qk)) rfl ?_
 refine st_g rfl rfl rfl (qg _ _) (fun h => qj rfl K19 rfl (c19 (s20 a1) 10) (qh (gd h rfl) (qh rfl qk))) rfl ?_
 refine st_g rfl rfl rfl (qg _ _) (fun h => jx rfl (gd h rfl)) rfl ?_
 refine st rfl rfl (z8 rfl rfl rfl rfl) rfl ?_
 refine st rfl rfl (qa rfl rfl) rfl ?_
 refine st_g rfl rfl rfl (qg _ _) (fun h => qa rfl rfl) rfl ?_
 refine st_g rfl rfl rfl (qg _ _) (fun h => qj rfl K22 rfl (c22 a2 (by first | assumption | omega | (simp [qv]; omega))) (qh (gd h rfl) qk)) rfl ?_
 refine st_g rfl rfl rfl (qg _ _) (fun h => qj rfl K21 rfl (c21 (s22 a2) 10) (qh (gd h rfl) (qh rfl qk))) rfl ?_
 refine st_g rfl rfl rfl (qg _ _) (fun h => jx rfl (gd h rfl)) rfl ?_
 refine st rfl rfl (z8 rfl rfl rfl rfl) rfl ?_
 refine qe ?_
 refine qm _ rfl (fun h1 => ?_) (fun h1 => ?_)
 ·replace h1 : ((((!s16) || (!(s17 (s18 a0)))) || (!(s19 (s20 a1) 10))) || (!(s21 (s22 a2) 10))) = true := h1
  replace hR := zk hR h1
  refine qd ?_
  refine qb [.p, .p] ?_
  refine st rfl rfl (qj rfl K16 rfl (c16) qk) rfl ?_
  refine st rfl rfl (qc rfl rfl) rfl ?_
  refine qe ?_
  refine qr ?_
  exact qmb (zb rfl (rv_g rfl)) (congrArg (fun R_ => G.bool R_) (Option.some.inj hR))
 ·replace h1 : ((((!s16) || (!(s17 (s18 a0)))) || (!(s19 (s20 a1) 10))) || (!(s21 (s22 a2) 10))) = false := h1
  replace hR := zl hR h1
  try simp only [Bool.or_eq_true, Bool.and_eq_true, Bool.or_eq_false_iff, Bool.and_eq_false_iff, Bool.not_eq_true', Bool.not_eq_false', decide_eq_true_eq, decide_eq_false_iff_not] at h1
  have hs := qnt (a0 := a0) h1
  refine qo ?_
  refine qd ?_
  refine Exists.elim (ql hR) (fun r1 hq_ => ?_)
  have br1 := hq_.1
  replace hR := hq_.2
  clear hq_
  refine qb [.p, .p, .p, .p, .p, .p, .p, .p, .p] ?_
  refine st rfl rfl (qt rfl ty24 rfl rfl rfl) rfl ?_
  refine st rfl rfl (qa rfl rfl) rfl ?_
  refine st rfl rfl (qa rfl rfl) rfl ?_
  refine st rfl rfl (qj rfl K72 rfl (c72 a0 a1 a2 hs hb0 hb1 br1) (qh rfl (qh rfl (qh rfl qk)))) rfl ?_
  refine st rfl rfl (qa rfl rfl) rfl ?_
  refine st rfl rfl (zp rfl rfl rfl) rfl ?_
  refine st rfl rfl (zp rfl rfl rfl) rfl ?_
  refine st rfl rfl (qc rfl rfl) rfl ?_
  refine st rfl rfl (qc rfl rfl) rfl ?_
  refine qe ?_
  refine qd ?_
  refine Exists.elim (ql hR) (fun r2 hq_ => ?_)
  have br2 := hq_.1
  replace hR := hq_.2
  clear hq_
  refine qb [.p, .p, .p, .p, .p, .p, .p, .p, .p] ?_
  refine st rfl rfl (qt rfl ty24 rfl rfl rfl) rfl ?_
  refine st rfl rfl (qa rfl rfl) rfl ?_
  refine st rfl rfl (qa rfl rfl) rfl ?_
  refine st rfl rfl (qj rfl K63 rfl (c63 a0 a1 a2 (fun z_ => (hs z_).1) hb0 hb1 qwu br2) (qh rfl (qh rfl (qh rfl qk)))) rfl ?_
  refine st rfl rfl (qa rfl rfl) rfl ?_
  refine st rfl rfl (zp rfl rfl rfl) rfl ?_
  refine st rfl rfl (zp rfl rfl rfl) rfl ?_
  refine st rfl rfl (qc rfl rfl) rfl ?_
  refine st rfl rfl (qc rfl rfl) rfl ?_
  refine qe ?_
  refine qd ?_
  refine qb [.p, .p, .p, .p, .p, .p, .p, .p, .p, .p, .p, .p] ?_
  refine st rfl rfl (qt rfl ty24 rfl rfl rfl) rfl ?_
  refine st rfl rfl (qj rfl K18 rfl (c18 a0) (qh rfl qk)) rfl ?_
  refine st rfl rfl (qj rfl K24 rfl (c24 (s18 a0)) (qh rfl qk)) rfl ?_
  refine st rfl rfl (qa rfl rfl) rfl ?_
  refine st rfl rfl (qj rfl K20 rfl (c20 a1 (by omega)) (qh rfl qk)) rfl ?_
  refine st rfl rfl (qj rfl K26 rfl (c26 (s20 a1)) (qh rfl qk)) rfl ?_
  refine st rfl rfl (qa rfl rfl) rfl ?_
  refine st rfl rfl (qj rfl K22 rfl (c22 a2 (by first | assumption | omega | (simp [qv]; omega))) (qh rfl qk)) rfl ?_
  refine st rfl rfl (qj rfl K28 rfl (c28 (s22 a2)) (qh rfl qk)) rfl ?_
  refine st rfl rfl (qu rfl Tryz.underlying82 ty3 z3 rfl (qw rfl (qw rfl (qw rfl z4))) rfl (by simp []) (by decide)) rfl ?_
  refine st rfl rfl (qj rfl K35 rfl (c35 [(s24 (s18 a0)), (s26 (s20 a1)), (s28 (s22 a2))]) (qh rfl qk)) rfl ?_
  refine st rfl rfl (qc rfl rfl) rfl ?_
  refine qe ?_
  refine qd ?_
  refine qd ?_
  refine qb [.p, .p] ?_
  refine st rfl rfl (qa rfl rfl) rfl ?_
  refine st rfl rfl (zz rfl rfl rfl) rfl ?_
  refine qe ?_
  refine qm _ rfl (fun h2 => ?_) (fun h2 => ?_)
  ·replace h2 : (decide ((s35 [(s24 (s18 a0)), (s26 (s20 a1)), (s28 (s22 a2))]) ≠ 0)) = true := h2
   replace hR := zk hR h2
   refine qd ?_
   refine qb [.p, .p, .p, .p, .p, .p, .p, .p, .p, .p, .p, .p, .p, .p, .p, .p, .p, .p] ?_
   refine st rfl rfl (qa rfl rfl) rfl ?_
   refine st rfl rfl (jq rfl rfl rfl) rfl ?_
   refine st rfl rfl (qa rfl rfl) rfl ?_
   refine st_g rfl rfl rfl (qg _ _) (fun h => qa rfl rfl) rfl ?_
   refine st_g rfl rfl rfl (qg _ _) (fun h => qa rfl rfl) rfl ?_
   refine st_g rfl rfl rfl (qg _ _) (fun h => jq rfl (gd h rfl) (gd h rfl)) rfl ?_
   refine st rfl rfl (zf rfl rfl rfl rfl) rfl ?_
   refine st rfl rfl (qa rfl rfl) rfl ?_
   refine st_g rfl rfl rfl (qg _ _) (fun h => qa rfl rfl) rfl ?_
   refine st_g rfl rfl rfl (qg _ _) (fun h => q9 (f := S110.c) (l := r2.1) rfl Tryz.underlying107 (gd h rfl)) rfl ?_
   refine st_g rfl rfl rfl (qg _ _) (fun h => jq rfl (gd h rfl) rfl) rfl ?_
   refine st rfl rfl (zf rfl rfl rfl rfl) rfl ?_
   refine st rfl rfl (qa rfl rfl) rfl ?_
   refine st_g rfl rfl rfl (qg _ _) (fun h => qa rfl rfl) rfl ?_
   refine st_g rfl rfl rfl (qg _ _) (fun h => qa rfl rfl) rfl ?_
   refine st_g rfl rfl rfl (qg _ _) (fun h => jq rfl (gd h rfl) (gd h rfl)) rfl ?_
   refine st rfl rfl (zf rfl rfl rfl rfl) rfl ?_
   refine st rfl rfl (qc rfl rfl) rfl ?_
   refine qe ?_
   refine qr ?_
   exact qmb (zb rfl (rv_g rfl)) (congrArg (fun R_ => G.bool R_) (Option.some.inj hR))
  ·replace h2 : (decide ((s35 [(s24 (s18 a0)), (s26 (s20 a1)), (s28 (s22 a2))]) ≠ 0)) = false := h2
   replace hR := zl hR h2
   try simp only [decide_eq_false_iff_not] at h2
   obtain ⟨hz1, hz2⟩ := qv5 (fun z_ => (hs z_).1) h2
   refine qo ?_
   refine qd ?_
   refine Exists.elim (ql hR) (fun r3 hq_ => ?_)
   have br3 := hq_.1
   replace hR := hq_.2
   clear hq_
   refine qb [.p, .p, .p, .p, .p, .p, .p, .p] ?_
   refine st rfl rfl (qt rfl ty24 rfl rfl rfl) rfl ?_
   refine st rfl rfl (qj rfl K18 rfl (c18 a0) (qh rfl qk)) rfl ?_
   refine st rfl rfl (qa rfl rfl) rfl ?_
   refine st rfl rfl (qj rfl K20 rfl (c20 a1 (by omega)) (qh rfl qk)) rfl ?_
   refine st rfl rfl (qa rfl rfl) rfl ?_
   refine st rfl rfl (qj rfl K22 rfl (c22 a2 (by first | assumption | omega | (simp [qv]; omega))) (qh rfl qk)) rfl ?_
   refine st rfl rfl (qj rfl K73 rfl (c73 (s18 a0) (s20 a1) (s22 a2) (by first | assumption | omega | (simp [qv]; omega)) (by first | assumption | omega | (simp [qv]; omega)) br3) (qh rfl (qh rfl (qh rfl qk)))) rfl ?_
   refine st rfl rfl (qc rfl rfl) rfl ?_
   refine qe ?_
   refine qd ?_
   refine qd ?_
   refine Exists.elim (ql hR) (fun r4 hq_ => ?_)
   have br4 := hq_.1
   replace hR := hq_.2
   clear hq_
   refine qb [.p, .p, .p, .p, .p, .p, .p, .p, .p, .p, .p, .p, .p, .p, .p, .p, .p, .p, .p, .p, .p, .p] ?_
   refine st rfl rfl (qa rfl rfl) rfl ?_
   refine st rfl rfl (qa rfl rfl) rfl ?_
   refine st rfl rfl (j6 rfl rfl rfl) rfl ?_
   refine st rfl rfl (zz rfl rfl rfl) rfl ?_
   refine st rfl rfl (qa rfl rfl) rfl ?_
   refine st_g rfl rfl rfl (qg _ _) (fun h => qa rfl rfl) rfl ?_
   refine st_g rfl rfl rfl (qg _ _) (fun h => qt rfl ty24 rfl rfl rfl) rfl ?_
   refine st_g rfl rfl rfl (qg _ _) (fun h => qj rfl K18 rfl (c18 a0) (qh (gd h rfl) qk)) rfl ?_
   refine st_g rfl rfl rfl (qg _ _) (fun h => qa rfl rfl) rfl ?_
   refine st_g rfl rfl rfl (qg _ _) (fun h => qj rfl K20 rfl (c20 a1 (by omega)) (qh (gd h rfl) qk)) rfl ?_
   refine st_g rfl rfl rfl (qg _ _) (fun h => qa rfl rfl) rfl ?_
   refine st_g rfl rfl rfl (qg _ _) (fun h => qj rfl K22 rfl (c22 a2 (by first | assumption | omega | (simp [qv]; omega))) (qh (gd h rfl) qk)) rfl ?_
   refine st_g rfl rfl rfl (qg _ _) (fun h => qj rfl K74 rfl (c74 (s18 a0) (s20 a1) (s22 a2) (by first | assumption | omega | (simp [qv]; omega)) (by first | assumption | omega | (simp [qv]; omega)) (qcw br4 h)) (qh (gd h rfl) (qh (gd h rfl) (qh (gd h rfl) qk)))) rfl ?_
   refine st_g rfl rfl rfl (qg _ _) (fun h => zz rfl (gd h rfl) (gd h rfl)) rfl ?_
   refine st rfl rfl (z8 rfl rfl rfl rfl) rfl ?_
   refine st rfl rfl (qa rfl rfl) rfl ?_
   refine st_g rfl rfl rfl (qg _ _) (fun h => qa rfl rfl) rfl ?_
   refine st_g rfl rfl rfl (qg _ _) (fun h => q9 (f := S110.c) (l := r2.1) rfl Tryz.underlying107 (gd h rfl)) rfl ?_
   refine st_g rfl rfl rfl (qg _ _) (fun h => qa rfl rfl) rfl ?_
   refine st_g rfl rfl rfl (qg _ _) (fun h => q9 (f := S137.c) (l := r3) rfl Tryz.underlying134 (gd h rfl)) rfl ?_
   refine st_g rfl rfl rfl (qg _ _) (fun h => zz rfl (gd h rfl) (gd h rfl)) rfl ?_
   refine st rfl rfl (z8 rfl rfl rfl rfl) rfl ?_
   refine qe ?_
   refine qm _ rfl (fun h3 => ?_) (fun h3 => ?_)
   ·replace h3 : (((decide (IntKind.i64.wrap (r1.2 + r2.2) ≠ 0)) || (decide (r1.1 ≠ r4))) || (decide ((List.length r2.1 : Int) ≠ (List.length r3 : Int)))) = true := h3
    replace hR := zk hR h3
    refine qd ?_
    refine qb [.p] ?_
    refine st rfl rfl (qc rfl rfl) rfl ?_
    refine qe ?_
    refine qr ?_
    exact qmb (zb rfl (rv_g rfl)) (congrArg (fun R_ => G.bool R_) (Option.some.inj hR))
   ·replace h3 : (((decide (IntKind.i64.wrap (r1.2 + r2.2) ≠ 0)) || (decide (r1.1 ≠ r4))) || (decide ((List.length r2.1 : Int) ≠ (List.length r3 : Int)))) = false := h3
    replace hR := zl hR h3
    try simp only [Bool.or_eq_true, Bool.and_eq_true, Bool.or_eq_false_iff, Bool.and_eq_false_iff, Bool.not_eq_true', Bool.not_eq_false', decide_eq_true_eq, decide_eq_false_iff_not] at h3
    refine qo ?_
    refine qd ?_
    refine qd ?_
    refine qb [.p, .p, .p] ?_
    refine st rfl rfl (qa rfl rfl) rfl ?_
    refine st rfl rfl (q9 (f := S110.c) (l := r2.1) rfl Tryz.underlying107 rfl) rfl ?_
    refine st rfl rfl (qa rfl rfl) rfl ?_
    refine qe ?_
    refine qn ?_
    refine qx (γ := Nat × (List S110)) (fun g => ([(9, .g (G.sl 4 (List.map S110.c r2.1))), (12, .g (G.sl 4 (List.map S137.c r3))), (109, .g (G.int (List.length r2.1 : Int))), (110, .g (G.int ((g.1 : Nat) : Int)))], [])) (fun g => r2.1.drop g.1 = g.2 ∧ s13_l1 r3 g.2 g.1 = some R) (fun g => List.length g.2) ⟨rfl, (0, r2.1), ⟨rfl, rfl, rfl, rfl, trivial⟩, trivial, rfl, ⟨rfl, hR⟩, trivial⟩ ?_
    ·rintro ⟨k6, u8⟩ ⟨hd, hR⟩
     replace hd : r2.1.drop k6 = u8 := hd
     replace hR : s13_l1 r3 u8 k6 = some R := hR
     refine qd ?_
     refine qb [.p] ?_
     refine st rfl rfl (ze rfl rfl rfl) rfl ?_
     refine qe ?_
     refine zc (f := S110.c) (l := r2.1) 9 rfl fun hlz1 => ?_
     refine qd ?_
     refine qm _ rfl (fun h4 => ?_) (fun h4 => ?_)
     ·replace h4 : (decide (((k6 : Nat) : Int) < (List.length r2.1 : Int))) = true := h4
      refine Exists.elim (zh hd (decT h4)) (fun y7 hq_ => ?_)
      refine Exists.elim hq_ (fun t8 hqq_ => ?_)
      have et8 := hqq_.1
      have hx1 := hqq_.2.1
      replace hd := hqq_.2.2
      clear hqq_ hq_
      rw [et8] at hR
      replace h4 := decT h4
      rw [s13_l1] at hR
      try dsimp only at hR
      refine qo ?_
      refine qd ?_
      refine qn ?_
      refine qd ?_
      refine qb [.p, .p] ?_
      refine st rfl rfl (qa rfl rfl) rfl ?_
      refine st rfl rfl (qc rfl rfl) rfl ?_
      refine qe ?_
      refine qd ?_
      refine Exists.elim (ql hR) (fun y9 hq_ => ?_)
      have by9 := hq_.1
      replace hR := hq_.2
      clear hq_
      refine Exists.elim (ql hR) (fun y10 hq_ => ?_)
      have by10 := hq_.1
      replace hR := hq_.2
      clear hq_
      refine Exists.elim (ql hR) (fun y11 hq_ => ?_)
      have by11 := hq_.1
      replace hR := hq_.2
      clear hq_
      refine zw [.p, .p, .p, .p, .p, .p, .p, .p, .p, .p, .p, .p, .p, .p, .p, .p, .p, .p, .p, .p, .p, .p, .p, .p, .p, .p, .p, .p, .p, .p, .p, .p, .p, .p, .p, .p, .p] (by kernel_rfl) ?_
      refine st rfl rfl (qa rfl rfl) rfl ?_
      refine st rfl rfl (qa rfl rfl) rfl ?_
      refine st rfl rfl (zi (f := S110.c) (l := r2.1) (a := y7) rfl Tryz.underlying107 qag rfl rfl (Int.natCast_nonneg _) hx1) rfl ?_
      refine st rfl rfl (qf rfl qiu rfl) rfl ?_
      refine st rfl rfl (qi rfl ty9 rfl) rfl ?_
      refine st rfl rfl (qa rfl rfl) rfl ?_
      refine st rfl rfl (qa rfl rfl) rfl ?_
      refine st rfl rfl (zi (f := S137.c) (l := r3) (a := y9) rfl Tryz.underlying134 qfc rfl rfl (z7 by9) (za by9)) rfl ?_
      refine st rfl rfl (qf rfl qiv rfl) rfl ?_
      refine st rfl rfl (qi rfl ty9 rfl) rfl ?_
      refine st rfl rfl (kw rfl rfl rfl) rfl ?_
      refine st rfl rfl (qa rfl rfl) rfl ?_
      refine st_g rfl rfl rfl (qg _ _) (fun h => qa rfl rfl) rfl ?_
      refine st_g rfl rfl rfl (qg _ _) (fun h => qa rfl rfl) rfl ?_
      refine st_g rfl rfl rfl (qg _ _) (fun h => zi (f := S110.c) (l := r2.1) (a := y7) rfl Tryz.underlying107 qag (gd h rfl) (gd h rfl) (Int.natCast_nonneg _) hx1) rfl ?_
      refine st_g rfl rfl rfl (qg _ _) (fun h => qf rfl qsb (gd h rfl)) rfl ?_
      refine st_g rfl rfl rfl (qg _ _) (fun h => qt rfl ty56 (gd h rfl) rfl rfl) rfl ?_
      refine st_g rfl rfl rfl (qg _ _) (fun h => qa rfl rfl) rfl ?_
      refine st_g rfl rfl rfl (qg _ _) (fun h => qa rfl rfl) rfl ?_
      refine st_g rfl rfl rfl (qg _ _) (fun h => zi (f := S137.c) (l := r3) (a := y10) rfl Tryz.underlying134 qfc (gd h rfl) (gd h rfl) (z7 (qcw by10 h)) (za (qcw by10 h))) rfl ?_
      refine st_g rfl rfl rfl (qg _ _) (fun h => qf rfl qsd (gd h rfl)) rfl ?_
      refine st_g rfl rfl rfl (qg _ _) (fun h => qt rfl ty63 (gd h rfl) rfl rfl) rfl ?_
      refine st_g rfl rfl rfl (qg _ _) (fun h => qes [.int .i64 y7.Ratio.Flown, .int .i64 y7.Ratio.Due] [.int .i64 y10.Ratio.Flown, .int .i64 y10.Ratio.Due] rfl qun (gd h rfl) (gd h rfl) rfl rfl rfl) rfl ?_
      refine st rfl rfl (z8 rfl rfl rfl rfl) rfl ?_
      refine st rfl rfl (qa rfl rfl) rfl ?_
      refine st_g rfl rfl rfl (qg _ _) (fun h => qa rfl rfl) rfl ?_
      refine st_g rfl rfl rfl (qg _ _) (fun h => qa rfl rfl) rfl ?_
      refine st_g rfl rfl rfl (qg _ _) (fun h => zi (f := S110.c) (l := r2.1) (a := y7) rfl Tryz.underlying107 qag (gd h rfl) (gd h rfl) (Int.natCast_nonneg _) hx1) rfl ?_
      refine st_g rfl rfl rfl (qg _ _) (fun h => qf rfl qsc (gd h rfl)) rfl ?_
      refine st_g rfl rfl rfl (qg _ _) (fun h => qi rfl ty4 (gd h rfl)) rfl ?_
      refine st_g rfl rfl rfl (qg _ _) (fun h => qa rfl rfl) rfl ?_
      refine st_g rfl rfl rfl (qg _ _) (fun h => qa rfl rfl) rfl ?_
      refine st_g rfl rfl rfl (qg _ _) (fun h => zi (f := S137.c) (l := r3) (a := y11) rfl Tryz.underlying134 qfc (gd h rfl) (gd h rfl) (z7 (qcw by11 h)) (za (qcw by11 h))) rfl ?_
      refine st_g rfl rfl rfl (qg _ _) (fun h => qf rfl qse (gd h rfl)) rfl ?_
      refine st_g rfl rfl rfl (qg _ _) (fun h => qi rfl ty4 (gd h rfl)) rfl ?_
      refine st_g rfl rfl rfl (qg _ _) (fun h => qoo rfl Tryz.underlying4 (gd h rfl) (gd h rfl)) rfl ?_
      refine st rfl rfl (z8 rfl rfl rfl rfl) rfl ?_
      refine qe ?_
      refine qm _ rfl (fun h6 => ?_) (fun h6 => ?_)
      ·replace h6 : (((!decide (y7.Name = y9.Name)) || (!(eqAnd [decide (y7.Ratio.Flown = y10.Ratio.Flown), decide (y7.Ratio.Due = y10.Ratio.Due)]))) || (!(y7.Kept == y11.Kept))) = true := h6
       replace hR := zk hR h6
       refine qd ?_
       refine qb [.p] ?_
       refine st rfl rfl (qc rfl rfl) rfl ?_
       refine qe ?_
       refine qr ?_
       exact qmb (zb rfl (rv_g rfl)) (congrArg (fun R_ => G.bool R_) (Option.some.inj hR))
      ·replace h6 : (((!decide (y7.Name = y9.Name)) || (!(eqAnd [decide (y7.Ratio.Flown = y10.Ratio.Flown), decide (y7.Ratio.Due = y10.Ratio.Due)]))) || (!(y7.Kept == y11.Kept))) = false := h6
       replace hR := zl hR h6
       try simp only [Bool.or_eq_true, Bool.and_eq_true, Bool.or_eq_false_iff, Bool.and_eq_false_iff, Bool.not_eq_true', Bool.not_eq_false', decide_eq_true_eq, decide_eq_false_iff_not] at h6
       refine qo ?_
       refine qb [.p, .p] ?_
       refine st rfl rfl (zj rfl rfl rfl (by unfold I64; omega)) rfl ?_
       refine st rfl rfl (qa rfl rfl) rfl ?_
       refine qe ?_
       exact ⟨rfl, (k6 + 1, t8), ⟨rfl, rfl, rfl, rfl, trivial⟩, trivial, rfl, ⟨hd, hR⟩, by simp [et8]⟩
     ·replace h4 : (decide (((k6 : Nat) : Int) < (List.length r2.1 : Int))) = false := h4
      have hn_ := zm hd (decF h4)
      rw [hn_] at hR
      rw [s13_l1] at hR
      refine zg ?_
      refine qd ?_
      refine qb [.p] ?_
      refine st rfl rfl (qc rfl rfl) rfl ?_
      refine qe ?_
      refine qr ?_
      exact qmb (zb rfl (rv_g rfl)) (congrArg (fun R_ => G.bool R_) (Option.some.inj hR))
end Go.Sim
set_option linter.unusedSimpArgs false
namespace Go.Sim
section
variable {K V : Type} [DecidableEq K]
theorem qdc : ∀ (m : List (K × V)) (k : K) (v : V), (mset m k v).map Prod.fst = if k ∈ m.map Prod.fst then m.map Prod.fst else m.map Prod.fst ++ [k]
 | [], k, v => by simp [mset]
 | (a, b) :: r, k, v => by
  rw [mset]
  by_cases hk : a = k
  ·subst hk; simp
  ·have hk' : ¬ k = a := fun e => hk e.symm
   rw [decide_eq_false hk, cond_false, List.map_cons, qdc r k v]
   by_cases h : k ∈ r.map Prod.fst
   ·rw [if_pos h, if_pos (by simp only [List.map_cons]; exact List.mem_cons_of_mem _ h)]; rfl
   ·rw [if_neg h, if_neg (by simp only [List.map_cons, List.mem_cons]; rintro (e | e); exact hk' e; exact h e)]; rfl
theorem qlq {m : List (K × V)} (h : (m.map Prod.fst).Nodup) (k : K) (v : V) : ((mset m k v).map Prod.fst).Nodup := by
 rw [qdc]
 by_cases hk : k ∈ m.map Prod.fst
 ·rw [if_pos hk]; exact h
 ·rw [if_neg hk, List.nodup_append]
  exact ⟨h, by simp, fun a ha b hb => by rw [List.mem_singleton.1 hb]; intro e; exact hk (e ▸ ha)⟩
theorem qkh : ∀ {m : List (K × V)} {k : K} {v : V}, mget m k = some v → (k, v) ∈ m
 | [], _, _, h => by cases h
 | (a, b) :: r, k, v, h => by
  rw [mget] at h
  by_cases hk : a = k
  ·rw [decide_eq_true hk, cond_true] at h
   cases h; subst hk; exact List.mem_cons_self
  ·rw [decide_eq_false hk, cond_false] at h
   exact List.mem_cons_of_mem _ (qkh h)
end
def tab (l : List (S151 × Int)) (m : List (ByteArray × S55)) : List (ByteArray × S55) := l.foldl (fun m p => mset m p.1.Name (s126 (mgetD m p.1.Name (S55.mk 0 0)) p.2)) m
theorem qn3 (a0 : S23) (a1 : List S151) : ∀ (cs : List Int) (k : Nat) (m : List (ByteArray × S55)), k + cs.length = a1.length → s63_l1 a0 a1 cs k m = s63_e2 (List.foldl (s63_b2 a0) [] (tab ((a1.drop k).zip cs) m))
 | [], k, m, _ => by rw [s63_l1]; simp [tab]
 | c :: cs, k, m, h => by
  rw [List.length_cons] at h
  have hk : k < a1.length := by omega
  have hi : ixO a1 ((k : Nat) : Int) = some a1[k] := qc5 (List.getElem?_eq_getElem hk)
  rw [s63_l1, hi]
  simp only [bindO]
  rw [qn3 a0 a1 cs (k + 1) _ (by omega), List.drop_eq_getElem_cons hk]
  rfl
def Bd (n : Int) (m : List (ByteArray × S55)) : Prop := ∀ p ∈ m, 0 ≤ p.2.Flown ∧ p.2.Flown ≤ p.2.Due ∧ p.2.Due ≤ n
theorem Bd.get {n : Int} {m : List (ByteArray × S55)} (h : Bd n m) (hn : 0 ≤ n) (k : ByteArray) : 0 ≤ (mgetD m k (S55.mk 0 0)).Flown ∧ (mgetD m k (S55.mk 0 0)).Flown ≤ (mgetD m k (S55.mk 0 0)).Due ∧ (mgetD m k (S55.mk 0 0)).Due ≤ n := by
 unfold mgetD
 cases hg : mget m k with
 | none => exact ⟨by simp, by simp, by simpa using hn⟩
 | some v => exact h _ (qkh hg)
def rows (a0 : S23) (m : List (ByteArray × S55)) : List S110 := isort ltR (m.map (rowOf a0))
theorem qdd (a0 : S23) (m : List (ByteArray × S55)) : (rows a0 m).Perm (m.map (rowOf a0)) := vx _ _
theorem qs0 (a0 : S23) {m : List (ByteArray × S55)} (hn : (m.map Prod.fst).Nodup) : (rows a0 m).Pairwise (fun a b => strLt a.Name b.Name = true) := by
 have h1 : ((rows a0 m).map S110.Name).Nodup := by
  rw [((qdd a0 m).map S110.Name).nodup_iff, List.map_map]
  exact hn
 have h2 : (rows a0 m).Pairwise (fun a b => a.Name ≠ b.Name) := List.pairwise_map.1 h1
 refine (wn (m.map (rowOf a0))).imp₂ (fun a b h k => ?_) h2
 cases hc : strLt a.Name b.Name
 ·exact absurd (qb2 hc h) k
 ·rfl
end Go.Sim
set_option linter.unusedSimpArgs false
namespace Go.Sim
def fitS (nm : ByteArray) (w : Int) (s : S151) : Bool := !(((!decide (nm = (⟨#[]⟩ : ByteArray))) && (!decide (s.Name = nm))) || ((decide (0 ≤ w)) && (decide ((s180 (IntKind.i64.wrap (Int.tdiv s.Moment 1440))) ≠ w))))
def cntS (p : S151 → Bool) : List (S151 × Int) → S55 → S55
 | [], z => z
 | q :: l, z => cntS p l (bif p q.1 then s126 z q.2 else z)
theorem r130 (cs : List Int) (nm : ByteArray) (w : Int) : ∀ (l : List S151) (k : Nat) (rest : List Int) (z : S55), cs.drop k = rest → rest.length = l.length → (∀ c ∈ rest, isC c) →
  s130_l1 (cs.map stW) nm w l k z.Flown z.Due = some (cntS (fitS nm w) (l.zip rest) z)
 | [], k, rest, z, hd, hl, hc => by rw [s130_l1]; rfl
 | s :: l, k, rest, z, hd, hl, hc => by
  cases rest with
  | nil => simp at hl
  | cons c rest =>
   have hck : cs[k]? = some c := by
    have : (cs.drop k)[0]? = some c := by rw [hd]; rfl
    simpa using this
   have hix : ixO (cs.map stW) ((k : Nat) : Int) = some (stW c) := qc5 (by rw [List.getElem?_map, hck]; rfl)
   have hd' : cs.drop (k + 1) = rest := by
    have : cs.drop (k + 1) = (cs.drop k).drop 1 := by rw [List.drop_drop]
    rw [this, hd]; rfl
   have ih : ∀ z : S55, s130_l1 (cs.map stW) nm w l (k + 1) z.Flown z.Due = some (cntS (fitS nm w) (l.zip rest) z) := fun z => r130 cs nm w l (k + 1) rest z hd' (by simpa using hl) fun z hz => hc z (List.mem_cons_of_mem _ hz)
   rw [s130_l1, List.zip_cons_cons, cntS]
   have hf : (((!decide (nm = (⟨#[]⟩ : ByteArray))) && (!decide (s.Name = nm))) || ((decide (0 ≤ w)) && (decide ((s180 (IntKind.i64.wrap (Int.tdiv s.Moment 1440))) ≠ w)))) = !fitS nm w s := by unfold fitS; rw [Bool.not_not]
   rw [hf]
   cases hb : fitS nm w s
   ·simp only [Bool.not_false, Bool.not_true, cond_false, Bool.true_or, cond_true, bindO, s130_j1]
    exact ih z
   ·simp only [Bool.not_true, Bool.not_false, cond_true, hix, bindO, Bool.false_or, s130_j1]
    rcases hc c List.mem_cons_self with rfl | rfl | rfl | rfl
    ·exact ih _
    ·exact ih (s126 z 1)
    ·exact ih (s126 z 2)
    ·exact ih (s126 z 3)
def dayS (w : Nat) (s : S151) : Bool := decide ((s140 (s.Moment / 1440)).1 = (w : Int))
theorem qn4 (a0 : S23) (a1 : List S151) : ∀ (cs : List Int) (k : Nat) (x : List S55), k + cs.length = a1.length → x.length = 7 → ∃ x', s72_l1 a0 a1 cs k x = some (s72_l2 a0 x' 0 0, 0) ∧ x'.length = 7 ∧
  ∀ (w : Nat) (z : S55), x[w]? = some z → x'[w]? = some (cntS (dayS w) ((a1.drop k).zip cs) z)
 | [], k, x, _, hx => ⟨x, by rw [s72_l1], hx, fun w z h => by rw [List.zip_nil_right]; exact h⟩
 | c :: cs, k, x, h, hx => by
  rw [List.length_cons] at h
  have hk : k < a1.length := by omega
  have hi : ixO a1 ((k : Nat) : Int) = some a1[k] := qc5 (List.getElem?_eq_getElem hk)
  have hw := qke (a1[k].Moment / 1440)
  have hlt : (s140 (a1[k].Moment / 1440)).1.toNat < x.length := by omega
  obtain ⟨x', g1, g2, g3⟩ := qn4 a0 a1 cs (k + 1) (x.set (s140 (a1[k].Moment / 1440)).1.toNat (s126 x[(s140 (a1[k].Moment / 1440)).1.toNat] c)) (by omega) (by rw [List.length_set]; exact hx)
  refine ⟨x', ?_, g2, fun w z hz => ?_⟩
  ·rw [s72_l1, hi]
   simp only [bindO]
   rw [qqc hw.1 hlt]
   exact g1
  ·rw [List.drop_eq_getElem_cons hk, List.zip_cons_cons, cntS]
   by_cases hd : (s140 (a1[k].Moment / 1440)).1.toNat = w
   ·subst hd
    have hzz := (List.getElem?_eq_some_iff.1 hz).2
    have hb : dayS (s140 (a1[k].Moment / 1440)).1.toNat a1[k] = true := by unfold dayS; rw [decide_eq_true_eq]; omega
    rw [hb, cond_true]
    exact g3 _ _ (by rw [List.getElem?_set_self hlt, hzz])
   ·have hb : dayS w a1[k] = false := by unfold dayS; rw [decide_eq_false_iff_not]; omega
    rw [hb, cond_false]
    exact g3 w z (by rw [List.getElem?_set_ne hd]; exact hz)
end Go.Sim
set_option linter.unusedSimpArgs false
namespace Go.Sim
theorem qs1 : ∀ k : Fin 7, ∀ x : Fin 128, x.val < 2 ^ k.val → orI (x.val : Int) (shlI 1 (k.val : Int)) = ((x.val + 2 ^ k.val : Nat) : Int) := by decide +kernel
theorem qki (a0 : S23) (a1 : List S151) (r1 : List ByteArray) : ∀ (t : List S55) (k x : Nat), k + t.length = 7 → x < 2 ^ k → (∀ (j : Nat) (z : S55), t[j]? = some z → s130 a1 r1 (⟨#[]⟩ : ByteArray) ((k + j : Nat) : Int) = some z) →
  s74_l1 a0 a1 r1 t.length (x : Int) ((2 ^ k : Nat) : Int) (k : Int) = some (s72_l2 a0 t k (x : Int))
 | [], k, x, _, _, _ => by rw [List.length_nil, s74_l1, s72_l2]
 | z :: t, k, x, hk, hx, h => by
  rw [List.length_cons] at hk
  have hp : 2 ^ k ≤ 2 ^ 6 := Nat.pow_le_pow_right (by decide) (by omega)
  have hp6 : (2 : Nat) ^ 6 = 64 := rfl
  have hs : 2 ^ (k + 1) = 2 * 2 ^ k := by rw [Nat.pow_succ, Nat.mul_comm]
  have w1 : IntKind.i64.wrap (2 * ((2 ^ k : Nat) : Int)) = ((2 ^ (k + 1) : Nat) : Int) := by
   rw [wrap_i64 ⟨by omega, by omega⟩, hs]; omega
  have w2 : IntKind.i64.wrap ((x : Int) + ((2 ^ k : Nat) : Int)) = ((x + 2 ^ k : Nat) : Int) := by
   rw [wrap_i64 ⟨by omega, by omega⟩]; omega
  have h0 := h 0 z rfl
  rw [Nat.add_zero] at h0
  have e1 : ((k : Nat) : Int) + 1 = ((k + 1 : Nat) : Int) := by omega
  have ih : ∀ x : Nat, x < 2 ^ (k + 1) → s74_l1 a0 a1 r1 t.length (x : Int) ((2 ^ (k + 1) : Nat) : Int) ((k + 1 : Nat) : Int) = some (s72_l2 a0 t (k + 1) (x : Int)) := fun x hx =>
   qki a0 a1 r1 t (k + 1) x (by omega) hx fun j z hz => by
    have := h (j + 1) z (by simpa using hz)
    rwa [show k + (j + 1) = k + 1 + j by omega] at this
  have he : s37 a0 z = s106 a0 z := rfl
  rw [List.length_cons, s74_l1, s72_l2, h0]
  simp only [bindO, s74_j1, w1, w2, he, e1]
  cases s106 a0 z
  ·simp only [cond_false]
   exact ih x (by omega)
  ·simp only [cond_true]
   have hm := qs1 ⟨k, by omega⟩ ⟨x, by omega⟩ hx
   simp only at hm
   rw [hm]
   exact ih (x + 2 ^ k) (by omega)
theorem qs2 {d : Int} (h : 0 ≤ d ∧ d ≤ 99999) : (s140 d).1 = s180 d := by
 have h0 : s153 d = 0 := by
  unfold s153 s155 s154
  rw [decide_eq_false (by omega), decide_eq_false (by omega)]; rfl
 unfold s140
 rw [decide_eq_false (by simpa using h0), cond_false]; rfl
theorem qs3 {s : S151} (h : 0 ≤ s.Moment ∧ s.Moment ≤ 143999999) (w : Nat) : fitS (⟨#[]⟩ : ByteArray) (w : Int) s = dayS w s := by
 have ht : Int.tdiv s.Moment 1440 = s.Moment / 1440 := Int.tdiv_eq_ediv_of_nonneg h.1
 have hw : IntKind.i64.wrap (s.Moment / 1440) = s.Moment / 1440 := wrap_i64 ⟨by omega, by omega⟩
 unfold fitS dayS
 rw [ht, hw, qs2 ⟨by omega, by omega⟩, decide_eq_true (rfl : (⟨#[]⟩ : ByteArray) = ⟨#[]⟩), decide_eq_true (by omega : (0 : Int) ≤ (w : Int))]
 by_cases hd : s180 (s.Moment / 1440) = (w : Int)
 ·simp [hd]
 ·simp [hd]
theorem qbv {p q : S151 → Bool} : ∀ {l : List (S151 × Int)} {z : S55}, (∀ e ∈ l, p e.1 = q e.1) → cntS p l z = cntS q l z
 | [], z, _ => rfl
 | e :: l, z, h => by
  rw [cntS, cntS, h e List.mem_cons_self]
  exact qbv fun x hx => h x (List.mem_cons_of_mem _ hx)
theorem qs4 {a0 : S23} {a1 : List S151} {cs : List Int} (hl : cs.length = a1.length) (hc : ∀ c ∈ cs, isC c) (hm : ∀ s ∈ a1, 0 ≤ s.Moment ∧ s.Moment ≤ 143999999) :
  ∃ m, s72_l1 a0 a1 cs 0 (List.replicate 7 (S55.mk 0 0)) = some (m, 0) ∧ s74_l1 a0 a1 (cs.map stW) 7 0 1 0 = some m := by
 obtain ⟨x', g1, g2, g3⟩ := qn4 a0 a1 cs 0 (List.replicate 7 (S55.mk 0 0)) (by omega) rfl
 refine ⟨_, g1, ?_⟩
 have := qki a0 a1 (cs.map stW) x' 0 0 (by omega) (by decide) fun j z hz => by
  have hj : j < x'.length := (List.getElem?_eq_some_iff.1 hz).1
  have h1 := g3 j (S55.mk 0 0) (by rw [List.getElem?_replicate, if_pos (by omega)])
  rw [hz] at h1
  rw [Option.some.inj h1, Nat.zero_add, List.drop_zero]
  have h2 := r130 cs (⟨#[]⟩ : ByteArray) (j : Int) a1 0 cs (S55.mk 0 0) rfl hl hc
  refine h2.trans (congrArg some (qbv fun e he => qs3 (hm e.1 (List.of_mem_zip he).1) j))
 rw [g2] at this
 exact this
end Go.Sim
set_option linter.unusedSimpArgs false
namespace Go.Sim
def insT (r : S137) : List S137 → List S137
 | [] => [r]
 | z :: l => bif strLt z.Name r.Name then z :: insT r l else bif decide (z.Name = r.Name) then z :: l else r :: z :: l
theorem qkj {α : Type} {l : List α} {k : Nat} {y : α} {rest : List α} (hd : l.drop k = y :: rest) : l[k]? = some y ∧ l.drop (k + 1) = rest := by
 constructor
 ·have : (l.drop k)[0]? = some y := by rw [hd]; rfl
  simpa using this
 ·have : l.drop (k + 1) = (l.drop k).drop 1 := by rw [List.drop_drop]
  rw [this, hd]; rfl
theorem qn5 (rec1 : Nat → List S137 → Option (List S137)) (a0 : S23) (a1 : List S151) (r1 : List ByteArray) (x2 : List S137) (k4 : Nat) (y5 : S151) {r : S55} (hr : s130 a1 r1 y5.Name (-1) = some r) (hl : x2.length ≤ 1000) :
  ∀ (rest : List S137) (i n : Nat), x2.drop i = rest → i + rest.length = x2.length → rest.length < n → s73_l2 rec1 a0 a1 r1 x2 k4 y5 n (i : Int) = rec1 (k4 + 1) (x2.take i ++ insT (S137.mk y5.Name r (s37 a0 r)) rest)
 | [], i, n, hd, hi, hn => by
  obtain ⟨m, rfl⟩ : ∃ m, n = m + 1 := ⟨n - 1, by omega⟩
  have hi : i = x2.length := by simpa using hi
  rw [s73_l2, decide_eq_false (by omega : ¬ (i : Int) < (x2.length : Int))]
  simp only [cond_false, bindO, Bool.false_and, hr, s73_j1, Int.toNat_natCast, List.nil_append, hd, List.append_nil, insT]
 | z :: rest, i, n, hd, hi, hn => by
  obtain ⟨m, rfl⟩ : ∃ m, n = m + 1 := ⟨n - 1, by omega⟩
  rw [List.length_cons] at hi hn
  obtain ⟨hz, hd'⟩ := qkj hd
  have hlt : (i : Int) < (x2.length : Int) := by omega
  have e1 : ((i : Nat) : Int) + 1 = ((i + 1 : Nat) : Int) := by omega
  rw [s73_l2, decide_eq_true hlt, qc5 hz, insT]
  simp only [cond_true, bindO, Bool.true_and]
  cases hs : strLt z.Name y5.Name
  ·simp only [cond_false]
   cases he : decide (z.Name = y5.Name)
   ·simp only [cond_false, hr, bindO, s73_j1, Int.toNat_natCast, List.nil_append, hd, List.append_assoc, List.singleton_append]
   ·simp only [cond_true, s73_j1]
    rw [← hd, List.take_append_drop]
  ·simp only [cond_true]
   rw [e1, qn5 rec1 a0 a1 r1 x2 k4 y5 hr hl rest (i + 1) m hd' (by omega) (by omega), List.take_succ, hz]
   simp
end Go.Sim
set_option linter.unusedSimpArgs false
namespace Go.Sim
theorem qqo : ∀ {a b : List ByteArray}, a.Pairwise (fun x y => strLt x y = true) → b.Pairwise (fun x y => strLt x y = true) → (∀ x, x ∈ a ↔ x ∈ b) → a = b
 | [], [], _, _, _ => rfl
 | [], y :: b, _, _, h => absurd ((h y).2 List.mem_cons_self) (by simp)
 | x :: a, [], _, _, h => absurd ((h x).1 List.mem_cons_self) (by simp)
 | x :: a, y :: b, ha, hb, h => by
  rw [List.pairwise_cons] at ha hb
  have hxy : x = y := by
   rcases List.mem_cons.1 ((h x).1 List.mem_cons_self) with e | h1
   ·exact e
   ·rcases List.mem_cons.1 ((h y).2 List.mem_cons_self) with e | h2
    ·exact e.symm
    ·exact (qlo (ha.1 y h2) (hb.1 x h1)).elim
  subst hxy
  have nx : ∀ {l : List ByteArray}, (∀ z ∈ l, strLt x z = true) → x ∉ l := fun hl hm => by
   have := hl x hm
   rw [qb1] at this; cases this
  rw [qqo ha.2 hb.2 fun z => ?_]
  constructor
  ·intro hz
   rcases List.mem_cons.1 ((h z).1 (List.mem_cons_of_mem _ hz)) with e | g
   ·rw [e] at hz; exact absurd hz (nx ha.1)
   ·exact g
  ·intro hz
   rcases List.mem_cons.1 ((h z).2 (List.mem_cons_of_mem _ hz)) with e | g
   ·rw [e] at hz; exact absurd hz (nx hb.1)
   ·exact g
theorem qde (r : S137) : ∀ (l : List S137) (x : ByteArray), x ∈ (insT r l).map S137.Name ↔ x = r.Name ∨ x ∈ l.map S137.Name
 | [], x => by simp [insT]
 | z :: l, x => by
  rw [insT]
  cases hs : strLt z.Name r.Name
  ·cases he : decide (z.Name = r.Name)
   ·simp
   ·have he := of_decide_eq_true he
    simp only [cond_false, cond_true, List.map_cons, List.mem_cons]
    constructor
    ·exact .inr
    ·rintro (e | h)
     ·exact .inl (e.trans he.symm)
     ·exact h
  ·simp only [cond_true, List.map_cons, List.mem_cons, qde r l x]
   constructor
   ·rintro (h | h | h)
    ·exact .inr (.inl h)
    ·exact .inl h
    ·exact .inr (.inr h)
   ·rintro (h | h | h)
    ·exact .inr (.inl h)
    ·exact .inl h
    ·exact .inr (.inr h)
theorem qn6 (r : S137) : ∀ {l : List S137}, (l.map S137.Name).Pairwise (fun x y => strLt x y = true) → ((insT r l).map S137.Name).Pairwise (fun x y => strLt x y = true)
 | [], _ => by simp [insT]
 | z :: l, h => by
  rw [List.map_cons, List.pairwise_cons] at h
  rw [insT]
  cases hs : strLt z.Name r.Name
  ·cases he : decide (z.Name = r.Name)
   ·have he := of_decide_eq_false he
    have hrz : strLt r.Name z.Name = true := by
     cases hq : strLt r.Name z.Name
     ·exact absurd (qb2 hs hq) he
     ·rfl
    simp only [cond_false, List.map_cons, List.pairwise_cons]
    refine ⟨fun x hx => ?_, h⟩
    rcases List.mem_cons.1 hx with e | hx
    ·rw [e]; exact hrz
    ·exact qnw hrz (h.1 x hx)
   ·simp only [cond_false, cond_true, List.map_cons, List.pairwise_cons]; exact h
  ·simp only [cond_true, List.map_cons, List.pairwise_cons]
   refine ⟨fun x hx => ?_, qn6 r h.2⟩
   rcases (qde r l x).1 hx with e | hx
   ·rw [e]; exact hs
   ·exact h.1 x hx
theorem qn7 (r : S137) : ∀ {l : List S137} {x : S137}, x ∈ insT r l → x = r ∨ x ∈ l
 | [], x, h => by simpa [insT] using h
 | z :: l, x, h => by
  rw [insT] at h
  cases hs : strLt z.Name r.Name
  ·rw [hs, cond_false] at h
   cases he : decide (z.Name = r.Name)
   ·rw [he, cond_false] at h
    exact List.mem_cons.1 h
   ·rw [he, cond_true] at h; exact .inr h
  ·rw [hs, cond_true] at h
   rcases List.mem_cons.1 h with e | h
   ·exact .inr (by rw [e]; exact List.mem_cons_self)
   ·rcases qn7 r h with e | h
    ·exact .inl e
    ·exact .inr (List.mem_cons_of_mem _ h)
theorem qn8 (r : S137) : ∀ (l : List S137), (insT r l).length ≤ l.length + 1
 | [] => by simp [insT]
 | z :: l => by
  rw [insT]
  have := qn8 r l
  cases strLt z.Name r.Name
  ·cases decide (z.Name = r.Name) <;> simp
  ·simp; omega
def foldT (f : ByteArray → S137) : List S151 → List S137 → List S137
 | [], t => t
 | s :: l, t => foldT f l (insT (f s.Name) t)
theorem qn9 (a0 : S23) (a1 : List S151) (r1 : List ByteArray) (f : ByteArray → S137) (hf : ∀ s ∈ a1, ∃ r, s130 a1 r1 s.Name (-1) = some r ∧ f s.Name = S137.mk s.Name r (s37 a0 r)) : ∀ (l : List S151) (k : Nat) (t : List S137), (∀ s ∈ l, s ∈ a1) → t.length + l.length ≤ 1000 → s73_l1 a0 a1 r1 l k t = some (foldT f l t)
 | [], k, t, _, _ => by rw [s73_l1, foldT]
 | s :: l, k, t, hm, hl => by
  rw [List.length_cons] at hl
  obtain ⟨r, h1, h2⟩ := hf s (hm s List.mem_cons_self)
  have hn := qn8 (f s.Name) t
  rw [s73_l1, foldT]
  have := qn5 (fun k_ z0_ => s73_l1 a0 a1 r1 l k_ z0_) a0 a1 r1 t k s h1 (by omega) t 0 ((((List.length t : Int) - 0).toNat) + 1) rfl (by simp) (by omega)
  rw [List.take_zero, List.nil_append, ← h2] at this
  have e0 : ((0 : Nat) : Int) = 0 := rfl
  rw [e0] at this
  rw [this]
  exact qn9 a0 a1 r1 f hf l (k + 1) (insT (f s.Name) t) (fun x hx => hm x (List.mem_cons_of_mem _ hx)) (by omega)
theorem qkk (f : ByteArray → S137) (hf : ∀ n, (f n).Name = n) : ∀ (l : List S151) (t : List S137), (t.map S137.Name).Pairwise (fun x y => strLt x y = true) → (∀ x ∈ t, x = f x.Name) →
  ((foldT f l t).map S137.Name).Pairwise (fun x y => strLt x y = true) ∧ (∀ x ∈ foldT f l t, x = f x.Name) ∧ ∀ n, n ∈ (foldT f l t).map S137.Name ↔ n ∈ t.map S137.Name ∨ n ∈ l.map S151.Name
 | [], t, h1, h2 => ⟨h1, h2, fun n => by rw [foldT]; simp⟩
 | s :: l, t, h1, h2 => by
  obtain ⟨g1, g2, g3⟩ := qkk f hf l (insT (f s.Name) t) (qn6 _ h1) (fun x hx => by
   rcases qn7 _ hx with e | hx
   ·rw [e, hf]
   ·exact h2 x hx)
  refine ⟨g1, g2, fun n => ?_⟩
  rw [foldT, g3, qde, hf, List.map_cons, List.mem_cons]
  constructor
  ·rintro ((h | h) | h)
   ·exact .inr (.inl h)
   ·exact .inl h
   ·exact .inr (.inr h)
  ·rintro (h | h | h)
   ·exact .inl (.inr h)
   ·exact .inl (.inl h)
   ·exact .inr h
theorem qhk : ∀ (l : List (S151 × Int)) (m : List (ByteArray × S55)) (n : ByteArray), n ∈ (tab l m).map Prod.fst ↔ n ∈ m.map Prod.fst ∨ n ∈ l.map fun p => p.1.Name
 | [], m, n => by simp [tab]
 | p :: l, m, n => by
  have e : tab (p :: l) m = tab l (mset m p.1.Name (s126 (mgetD m p.1.Name (S55.mk 0 0)) p.2)) := rfl
  rw [e, qhk l, qdc, List.map_cons, List.mem_cons]
  by_cases h : p.1.Name ∈ m.map Prod.fst
  ·rw [if_pos h]
   constructor
   ·rintro (g | g)
    ·exact .inl g
    ·exact .inr (.inr g)
   ·rintro (g | g | g)
    ·exact .inl g
    ·exact .inl (by rw [g]; exact h)
    ·exact .inr g
  ·rw [if_neg h, List.mem_append, List.mem_singleton]
   constructor
   ·rintro ((g | g) | g)
    ·exact .inl g
    ·exact .inr (.inl g)
    ·exact .inr (.inr g)
   ·rintro (g | g | g)
    ·exact .inl (.inl g)
    ·exact .inl (.inr g)
    ·exact .inr g
theorem qoa (n : ByteArray) : ∀ (l : List (S151 × Int)) (m : List (ByteArray × S55)), mgetD (tab l m) n (S55.mk 0 0) = cntS (fun s => decide (s.Name = n)) l (mgetD m n (S55.mk 0 0))
 | [], m => rfl
 | p :: l, m => by
  have e : tab (p :: l) m = tab l (mset m p.1.Name (s126 (mgetD m p.1.Name (S55.mk 0 0)) p.2)) := rfl
  rw [e, qoa n l, cntS, qd5]
  by_cases h : p.1.Name = n
  ·subst h; simp
  ·rw [if_neg h, decide_eq_false h, cond_false]
end Go.Sim
set_option linter.unusedSimpArgs false
namespace Go.Sim
theorem qs5 {m : List (ByteArray × S55)} (hn : (m.map Prod.fst).Nodup) {p : ByteArray × S55} (hp : p ∈ m) : mgetD m p.1 (S55.mk 0 0) = p.2 := by
 induction m with
 | nil => cases hp
 | cons q m ih =>
  rw [List.map_cons, List.nodup_cons] at hn
  rcases List.mem_cons.1 hp with e | hp
  ·subst e; simp [mgetD, mget]
  ·have hne : q.1 ≠ p.1 := fun e => hn.1 (by rw [e]; exact List.mem_map_of_mem hp)
   have := ih hn.2 hp
   simpa [mgetD, mget, hne] using this
theorem qhl : ∀ (l : List (S151 × Int)) (m : List (ByteArray × S55)), (m.map Prod.fst).Nodup → ((tab l m).map Prod.fst).Nodup
 | [], m, h => h
 | p :: l, m, h => qhl l _ (qlq h _ _)
theorem qs6 {l : List S151} (h : s25 l = 0) {s : S151} (hs : s ∈ l) : s.Name ≠ (⟨#[]⟩ : ByteArray) := by
 unfold s25 at h
 by_cases h1 : 512 < (l.length : Int)
 ·rw [decide_eq_true h1] at h; cases h
 ·rw [decide_eq_false h1, cond_false, qns] at h
  have h2 := qc1 h (s94 s) (List.mem_map_of_mem hs)
  unfold s94 at h2
  have h3 := qc1 h2 (s87 s.Name) (by simp)
  intro e
  rw [e] at h3
  exact absurd h3 (by decide +kernel)
theorem l13 {T : List S137} {L : List S110} (hE : ∀ (k : Nat) (y : S110), L[k]? = some y → ∃ z, T[k]? = some z ∧ y.Name = z.Name ∧ y.Ratio = z.Ratio ∧ y.Kept = z.Kept) : ∀ (rest : List S110) (k : Nat), L.drop k = rest → s13_l1 T rest k = some true
 | [], k, _ => by rw [s13_l1]
 | y :: rest, k, hd => by
  obtain ⟨hy, hd'⟩ := qkj hd
  obtain ⟨z, hz, e1, e2, e3⟩ := hE k y hy
  rw [s13_l1, qc5 hz]
  simp only [bindO, e1, e2, e3, decide_true, Bool.not_true, Bool.not_false, cond_true, eqAnd, Bool.and_self, Bool.or_self, beq_self_eq_true, cond_false]
  exact l13 hE rest (k + 1) hd'
theorem qpl (a0 : S23) (a1 : List S151) (a2 : List S104) : s13 a0 a1 a2 = some true := by
 unfold s13
 rw [qp0]
 cases hc : (((!true) || (!(s17 (s18 a0)))) || (!(s19 (s20 a1) 10))) || (!(s21 (s22 a2) 10))
 ·simp only [Bool.or_eq_false_iff, Bool.not_eq_false'] at hc
  have hs := qnt (a0 := a0) hc
  rw [cond_false, ← qjz]
  by_cases h : s122 a0 a1 a2 = 0
  ·obtain ⟨⟨hl1, hl2⟩, hm⟩ := hs (by simpa using h)
   obtain ⟨_, h25, _⟩ := qmt h
   obtain ⟨cs, g1, g2, g3, g4⟩ := qn2 a0 a1 a2
   obtain ⟨m, k1, k2⟩ := qs4 (a0 := a0) g3 g4 hm
   have hd : decide (s122 a0 a1 a2 ≠ 0) = false := decide_eq_false (by simpa using h)
   have e72 : s72 a0 a1 a2 = some (m, 0) := by
    unfold s72; rw [hd, cond_false, g1]; simp only [bindO]; exact k1
   have e63 : s63 a0 a1 a2 = some (rows a0 (tab (a1.zip cs) []), 0) := by
    unfold s63; rw [hd, cond_false, g1]; simp only [bindO]
    rw [qn3 a0 a1 cs 0 [] (by omega), qs7, qkl, List.drop_zero]; rfl
   let f : ByteArray → S137 := fun n => S137.mk n (cntS (fitS n (-1)) (a1.zip cs) (S55.mk 0 0)) (s37 a0 (cntS (fitS n (-1)) (a1.zip cs) (S55.mk 0 0)))
   have e73 : s73 (s18 a0) (s20 a1) (s22 a2) = some (foldT f a1 []) := by
    rw [qgt, qgs]
    show s73 a0 a1 a2 = _
    unfold s73; rw [g2]; simp only [bindO]
    exact qn9 a0 a1 (cs.map stW) f (fun s _ => ⟨_, r130 cs s.Name (-1) a1 0 cs (S55.mk 0 0) rfl g3 g4, rfl⟩) a1 0 [] (fun s hs => hs) (by simp; omega)
   have e74 : s74 (s18 a0) (s20 a1) (s22 a2) = some m := by
    rw [qgt, qgs]
    show s74 a0 a1 a2 = _
    unfold s74; rw [g2]; simp only [bindO]; exact k2
   obtain ⟨f1, f2, f3⟩ := qkk f (fun n => rfl) a1 [] List.Pairwise.nil (fun x hx => by cases hx)
   have hnd := qhl (a1.zip cs) [] List.Pairwise.nil
   have hz1 : (a1.zip cs).map (fun p => p.1.Name) = a1.map S151.Name := by
    have : (a1.zip cs).map Prod.fst = a1 := by rw [List.map_fst_zip (by omega)]
    conv => rhs; rw [← this]
    rw [List.map_map]; rfl
   have hrn : (rows a0 (tab (a1.zip cs) [])).map S110.Name = (foldT f a1 []).map S137.Name := by
    refine qqo (List.pairwise_map.2 (qs0 a0 hnd)) f1 fun n => ?_
    rw [f3, ((qdd a0 _).map S110.Name).mem_iff, List.map_map]
    have : (S110.Name ∘ rowOf a0) = Prod.fst := rfl
    rw [this, qhk, hz1]; simp
   have hlen : (rows a0 (tab (a1.zip cs) [])).length = (foldT f a1 []).length := by
    have := congrArg List.length hrn
    simpa using this
   rw [e72, e63]
   simp only [bindO]
   rw [hd, cond_false, e73, e74]
   simp only [bindO]
   rw [show decide (IntKind.i64.wrap ((0 : Int) + 0) ≠ 0) = false from rfl, Bool.not_false, cond_true]
   simp only [bindO]
   rw [decide_eq_false (by simp : ¬ m ≠ m), decide_eq_false (by omega)]
   simp only [Bool.or_self, cond_false]
   refine l13 (fun k y hy => ?_) _ 0 rfl
   replace hy : (rows a0 (tab (a1.zip cs) []))[k]? = some y := hy
   have hnk : ((rows a0 (tab (a1.zip cs) [])).map S110.Name)[k]? = some y.Name := by rw [List.getElem?_map, hy]; rfl
   rw [hrn, List.getElem?_map] at hnk
   obtain ⟨z, hz, hzn⟩ := Option.map_eq_some_iff.1 hnk
   refine ⟨z, hz, hzn.symm, ?_⟩
   have hzm := List.mem_of_getElem? hz
   have hzf := f2 z hzm
   have hym := (qdd a0 _).mem_iff.1 (List.mem_of_getElem? hy)
   obtain ⟨p, hp, hpy⟩ := List.mem_map.1 hym
   have hpn : p.1 = y.Name := by rw [← hpy]; rfl
   have hne : z.Name ≠ (⟨#[]⟩ : ByteArray) := by
    have := (f3 z.Name).1 (List.mem_map_of_mem hzm)
    rcases this with g | g
    ·simp at g
    ·obtain ⟨s, hs, e⟩ := List.mem_map.1 g
     rw [← e]; exact qs6 h25 hs
   have hr : p.2 = cntS (fitS z.Name (-1)) (a1.zip cs) (S55.mk 0 0) := by
    rw [← qs5 hnd hp, qoa]
    show cntS _ _ (S55.mk 0 0) = _
    refine qbv fun e _ => ?_
    unfold fitS
    rw [hpn, ← hzn, decide_eq_false hne, decide_eq_false (by decide : ¬ (0 : Int) ≤ -1)]
    simp
   have e1 : y.Ratio = z.Ratio := by rw [← hpy, hzf]; exact hr
   refine ⟨e1, ?_⟩
   rw [hzf, ← hpy]
   show s106 a0 p.2 = s106 a0 _
   rw [hr]
  ·have hd : decide (s122 a0 a1 a2 ≠ 0) = true := decide_eq_true h
   have e72 : s72 a0 a1 a2 = some (0, s122 a0 a1 a2) := by unfold s72; rw [hd, cond_true]
   have e63 : s63 a0 a1 a2 = some ([], s122 a0 a1 a2) := by unfold s63; rw [hd, cond_true]
   rw [e72, e63]
   simp [bindO, h]
 ·rfl
end Go.Sim
