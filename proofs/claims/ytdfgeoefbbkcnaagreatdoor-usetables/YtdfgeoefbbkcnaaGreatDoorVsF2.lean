/-
  What is proved: the matching: the program and the reference find the same.
-/
import Derived.Test.YtdfgeoefbbkcnaaGreatDoorVaA4
import Derived.Test.YtdfgeoefbbkcnaaGreatDoorVaA6
import Derived.Test.YtdfgeoefbbkcnaaGreatDoorVsF1
import Derived.Test.YtdfgeoefbbkcnaaGreatDoorVaA9
set_option linter.unusedSectionVars false
set_option linter.unusedSimpArgs false
set_option linter.unusedVariables false
set_option linter.unnecessarySimpa false
set_option linter.deprecated false
namespace Go.Sim
theorem qpe {E : Env} {o : Oper} {ev : Operand → TV} {t t' : TypeId} {x y : Operand} {a b : Bool} (ho : o.op = .binOp .eql t x y t') (hu : E.P.underlying t = some .bool) (hx : ev x = .g (.lit (.bool a))) (hy : ev y = .g (.lit (.bool b))) (mem : Mem) : Eff E o mem ev (.g (.bool (a == b))) :=
 qcm ho hx hy (fun w => ⟨.bool (a == b), by
  have h : (Op.equal t (.bool a) (.bool b)).run E.P w = .ok (a == b) w := run_equalIn_bool' w _ t a b hu
  simp [eqGuard, binOp, h], fun _ => rfl⟩) mem
theorem qc4 {s d : Int} (h0 : 0 ≤ s) (h1 : s ≤ 100) (h2 : 0 ≤ d) (h3 : d ≤ 512) : 0 ≤ s * d ∧ s * d ≤ 51200 := by
 refine ⟨Int.mul_nonneg h0 h2, ?_⟩
 have := Int.mul_le_mul h1 h3 h2 (by decide : (0 : Int) ≤ 100)
 omega
theorem qle {s d : Int} (h0 : 0 ≤ s) (h1 : s ≤ 100) (h2 : 0 ≤ d) (h3 : d ≤ 512) : IntKind.i64.wrap (s * d) = s * d := by
 obtain ⟨a, b⟩ := qc4 h0 h1 h2 h3
 exact wrap_i64 (by unfold I64; omega)
end Go.Sim
set_option linter.unusedSimpArgs false
set_option linter.unusedVariables false
set_option maxRecDepth 10000
namespace Go.Sim
open Go.Proofs
def s35 (a0 : List Int) : Int :=
 (s89 a0)
theorem c35 {g : List (Nat × List Value)} (a0 : List Int)    : Con (EG g) 35 [G.sl 1 (List.map cInt a0)] (G.int (s35 a0)) := by
 generalize hR : s35 a0 = R
 unfold s35 at hR
 refine qp Tryz.func35 rfl rfl fun w0 M0 => ?_
 refine zc (f := cInt) (l := a0) 0 rfl fun hla0 => ?_
 refine qd ?_
 refine qb [.p] ?_
 refine st rfl rfl (qc rfl rfl) rfl ?_
 refine qe ?_
 refine qd ?_
 refine qb [.p, .p, .p] ?_
 refine st rfl rfl (qa rfl rfl) rfl ?_
 refine st rfl rfl (qj rfl K89 rfl (c89 a0) (qh rfl qk)) rfl ?_
 refine st rfl rfl (qc rfl rfl) rfl ?_
 refine qe ?_
 refine qr ?_
 subst hR
 exact zb rfl (rv_g rfl)
def s36_j1  (x1 : Int) : Int :=
 x1
def s36 (a0 : S55) : Int :=
 (bif (decide ((s89 [(s90 a0.Flown 0 512), (s90 a0.Due 0 512)]) = 0)) && (decide (a0.Due < a0.Flown)) then s36_j1 11 else s36_j1 (s89 [(s90 a0.Flown 0 512), (s90 a0.Due 0 512)]))
theorem c36 {g : List (Nat × List Value)} (a0 : S55)    : Con (EG g) 36 [G.agg [G.int a0.Flown, G.int a0.Due]] (G.int (s36 a0)) := by
 generalize hR : s36 a0 = R
 unfold s36 at hR
 refine qp Tryz.func36 rfl rfl fun w0 M0 => ?_
 refine qd ?_
 refine qb [.p, .p] ?_
 refine st rfl rfl (zd rfl rfl) rfl ?_
 refine st rfl rfl (qc rfl rfl) rfl ?_
 refine qe ?_
 refine qd ?_
 refine zw [.p, .p, .p, .p, .p, .p, .p, .p, .p] (by kernel_rfl) ?_
 refine st rfl rfl (qf rfl qdy rfl) rfl ?_
 refine st rfl rfl (qi rfl ty3 rfl) rfl ?_
 refine st rfl rfl (qj rfl K90 rfl (c90 a0.Flown 0 512) (qh rfl (qh rfl (qh rfl qk)))) rfl ?_
 refine st rfl rfl (qf rfl qc0 rfl) rfl ?_
 refine st rfl rfl (qi rfl ty3 rfl) rfl ?_
 refine st rfl rfl (qj rfl K90 rfl (c90 a0.Due 0 512) (qh rfl (qh rfl (qh rfl qk)))) rfl ?_
 refine st rfl rfl (qu rfl Tryz.underlying82 ty3 z3 rfl (qw rfl (qw rfl z4)) rfl (by simp []) (by decide)) rfl ?_
 refine st rfl rfl (qj rfl K89 rfl (c89 [(s90 a0.Flown 0 512), (s90 a0.Due 0 512)]) (qh rfl qk)) rfl ?_
 refine st rfl rfl (qc rfl rfl) rfl ?_
 refine qe ?_
 refine jt (γ := Int) (fun g => ([(3, .g (G.int g))], [])) (fun g => s36_j1 g = R) ?_ ?_
 ·refine qd ?_
  refine qb [.p, .p, .p, .p, .p, .p, .p, .p, .p] ?_
  refine st rfl rfl (qa rfl rfl) rfl ?_
  refine st rfl rfl (jq rfl rfl rfl) rfl ?_
  refine st rfl rfl (qa rfl rfl) rfl ?_
  refine st_g rfl rfl rfl (qg _ _) (fun h => qf rfl qdy rfl) rfl ?_
  refine st_g rfl rfl rfl (qg _ _) (fun h => qi rfl ty3 (gd h rfl)) rfl ?_
  refine st_g rfl rfl rfl (qg _ _) (fun h => qf rfl qc0 rfl) rfl ?_
  refine st_g rfl rfl rfl (qg _ _) (fun h => qi rfl ty3 (gd h rfl)) rfl ?_
  refine st_g rfl rfl rfl (qg _ _) (fun h => zy rfl (gd h rfl) (gd h rfl)) rfl ?_
  refine st rfl rfl (zf rfl rfl rfl rfl) rfl ?_
  refine qe ?_
  refine qm _ rfl (fun h1 => ?_) (fun h1 => ?_)
  ·replace h1 : ((decide ((s89 [(s90 a0.Flown 0 512), (s90 a0.Due 0 512)]) = 0)) && (decide (a0.Due < a0.Flown))) = true := h1
   replace hR := zk hR h1
   refine qb [.p] ?_
   refine st rfl rfl (qc rfl rfl) rfl ?_
   refine qe ?_
   exact ⟨rfl, 11, ⟨rfl, trivial⟩, trivial, rfl, hR, trivial⟩
  ·replace h1 : ((decide ((s89 [(s90 a0.Flown 0 512), (s90 a0.Due 0 512)]) = 0)) && (decide (a0.Due < a0.Flown))) = false := h1
   replace hR := zl hR h1
   refine qo ?_
   exact ⟨rfl, (s89 [(s90 a0.Flown 0 512), (s90 a0.Due 0 512)]), ⟨rfl, trivial⟩, trivial, rfl, hR, trivial⟩
 ·rintro x1 hR
  replace hR : s36_j1 x1 = R := hR
  unfold s36_j1 at hR
  refine qd ?_
  refine qb [.p, .p] ?_
  refine st rfl rfl (qa rfl rfl) rfl ?_
  refine st rfl rfl (qc rfl rfl) rfl ?_
  refine qe ?_
  refine qr ?_
  subst hR
  exact zb rfl (rv_g rfl)
def s105 (a0 : S23) (a1 : S55) : Int :=
 (s84 [(s23 a0), (s85 a1.Flown 0 512), (s85 a1.Due 0 512), (s86 (decide (a1.Due < a1.Flown)) 11)])
theorem c105 {g : List (Nat × List Value)} (a0 : S23) (a1 : S55)    : Con (EG g) 105 [G.agg [G.int a0.Before, G.int a0.After, G.int a0.Notice, G.int a0.Share, G.sl 1 (List.map cStr a0.Causes), G.int a0.Off, G.int a0.Run], G.agg [G.int a1.Flown, G.int a1.Due]] (G.int (s105 a0 a1)) := by
 generalize hR : s105 a0 a1 = R
 unfold s105 at hR
 refine qp Tryz.func105 rfl rfl fun w0 M0 => ?_
 refine qd ?_
 refine qb [.p, .p, .p] ?_
 refine st rfl rfl (zd rfl rfl) rfl ?_
 refine st rfl rfl (zd rfl rfl) rfl ?_
 refine st rfl rfl (qc rfl rfl) rfl ?_
 refine qe ?_
 refine qd ?_
 refine zw [.p, .p, .p, .p, .p, .p, .p, .p, .p, .p, .p, .p, .p, .p, .p, .p, .p] (by kernel_rfl) ?_
 refine st rfl rfl (qt rfl ty24 rfl rfl rfl) rfl ?_
 refine st rfl rfl (qj rfl K23 rfl (c23 a0) (qh rfl qk)) rfl ?_
 refine st rfl rfl (qf rfl qby rfl) rfl ?_
 refine st rfl rfl (qi rfl ty3 rfl) rfl ?_
 refine st rfl rfl (qj rfl K85 rfl (c85 a1.Flown 0 512) (qh rfl (qh rfl (qh rfl qk)))) rfl ?_
 refine st rfl rfl (qf rfl qbc rfl) rfl ?_
 refine st rfl rfl (qi rfl ty3 rfl) rfl ?_
 refine st rfl rfl (qj rfl K85 rfl (c85 a1.Due 0 512) (qh rfl (qh rfl (qh rfl qk)))) rfl ?_
 refine st rfl rfl (qf rfl qby rfl) rfl ?_
 refine st rfl rfl (qi rfl ty3 rfl) rfl ?_
 refine st rfl rfl (qf rfl qbc rfl) rfl ?_
 refine st rfl rfl (qi rfl ty3 rfl) rfl ?_
 refine st rfl rfl (zy rfl rfl rfl) rfl ?_
 refine st rfl rfl (qj rfl K86 rfl (c86 (decide (a1.Due < a1.Flown)) 11) (qh rfl (qh rfl qk))) rfl ?_
 refine st rfl rfl (qu rfl Tryz.underlying170 ty37 z37 rfl (qw rfl (qw rfl (qw rfl (qw rfl z4)))) rfl (by simp []) (by decide)) rfl ?_
 refine st rfl rfl (qj rfl K84 rfl (c84 [(s23 a0), (s85 a1.Flown 0 512), (s85 a1.Due 0 512), (s86 (decide (a1.Due < a1.Flown)) 11)]) (qh rfl qk)) rfl ?_
 refine st rfl rfl (qc rfl rfl) rfl ?_
 refine qe ?_
 refine qr ?_
 subst hR
 exact zb rfl (rv_g rfl)
def s106 (a0 : S23) (a1 : S55) : Bool :=
 (decide (0 < a1.Due)) && (decide (IntKind.i64.wrap (a0.Share * a1.Due) ≤ IntKind.i64.wrap (100 * a1.Flown)))
theorem c106 {g : List (Nat × List Value)} (a0 : S23) (a1 : S55)    : Con (EG g) 106 [G.agg [G.int a0.Before, G.int a0.After, G.int a0.Notice, G.int a0.Share, G.sl 1 (List.map cStr a0.Causes), G.int a0.Off, G.int a0.Run], G.agg [G.int a1.Flown, G.int a1.Due]] (G.bool (s106 a0 a1)) := by
 generalize hR : s106 a0 a1 = R
 unfold s106 at hR
 refine qp Tryz.func106 rfl rfl fun w0 M0 => ?_
 refine qd ?_
 refine qb [.p, .p, .p] ?_
 refine st rfl rfl (zd rfl rfl) rfl ?_
 refine st rfl rfl (zd rfl rfl) rfl ?_
 refine st rfl rfl (qc rfl rfl) rfl ?_
 refine qe ?_
 refine qd ?_
 refine qb [.p, .p, .p, .p, .p, .p, .p, .p, .p, .p, .p, .p, .p, .p, .p] ?_
 refine st rfl rfl (qf rfl qbc rfl) rfl ?_
 refine st rfl rfl (qi rfl ty3 rfl) rfl ?_
 refine st rfl rfl (zy rfl rfl rfl) rfl ?_
 refine st rfl rfl (qa rfl rfl) rfl ?_
 refine st_g rfl rfl rfl (qg _ _) (fun h => qf rfl qby rfl) rfl ?_
 refine st_g rfl rfl rfl (qg _ _) (fun h => qi rfl ty3 (gd h rfl)) rfl ?_
 refine st_g rfl rfl rfl (qg _ _) (fun h => v8 rfl rfl (gd h rfl)) rfl ?_
 refine st_g rfl rfl rfl (qg _ _) (fun h => qf rfl qnf rfl) rfl ?_
 refine st_g rfl rfl rfl (qg _ _) (fun h => qi rfl ty3 (gd h rfl)) rfl ?_
 refine st_g rfl rfl rfl (qg _ _) (fun h => qf rfl qbc rfl) rfl ?_
 refine st_g rfl rfl rfl (qg _ _) (fun h => qi rfl ty3 (gd h rfl)) rfl ?_
 refine st_g rfl rfl rfl (qg _ _) (fun h => v8 rfl (gd h rfl) (gd h rfl)) rfl ?_
 refine st_g rfl rfl rfl (qg _ _) (fun h => vi rfl (gd h rfl) (gd h rfl)) rfl ?_
 refine st rfl rfl (zf rfl rfl rfl rfl) rfl ?_
 refine st rfl rfl (qc rfl rfl) rfl ?_
 refine qe ?_
 refine qr ?_
 subst hR
 exact zb rfl (rv_g rfl)
def s33 (a0 : S23) (a1 : S55) : Bool × Int :=
 (bif decide ((s105 a0 a1) ≠ 0) then (false, (s105 a0 a1)) else ((s106 a0 a1), 0))
theorem c33 {g : List (Nat × List Value)} (a0 : S23) (a1 : S55)    : Con (EG g) 33 [G.agg [G.int a0.Before, G.int a0.After, G.int a0.Notice, G.int a0.Share, G.sl 1 (List.map cStr a0.Causes), G.int a0.Off, G.int a0.Run], G.agg [G.int a1.Flown, G.int a1.Due]] (G.tup [G.bool ((s33 a0 a1).1), G.int ((s33 a0 a1).2)]) := by
 generalize hR : s33 a0 a1 = R
 unfold s33 at hR
 refine qp Tryz.func33 rfl rfl fun w0 M0 => ?_
 refine qd ?_
 refine qb [.p, .p, .p, .p] ?_
 refine st rfl rfl (zd rfl rfl) rfl ?_
 refine st rfl rfl (zd rfl rfl) rfl ?_
 refine st rfl rfl (qc rfl rfl) rfl ?_
 refine st rfl rfl (qc rfl rfl) rfl ?_
 refine qe ?_
 refine qd ?_
 refine qd ?_
 refine qb [.p, .p, .p, .p] ?_
 refine st rfl rfl (qt rfl ty24 rfl rfl rfl) rfl ?_
 refine st rfl rfl (qt rfl ty56 rfl rfl rfl) rfl ?_
 refine st rfl rfl (qj rfl K105 rfl (c105 a0 a1) (qh rfl (qh rfl qk))) rfl ?_
 refine st rfl rfl (qc rfl rfl) rfl ?_
 refine qe ?_
 refine qd ?_
 refine qb [.p, .p] ?_
 refine st rfl rfl (qa rfl rfl) rfl ?_
 refine st rfl rfl (zz rfl rfl rfl) rfl ?_
 refine qe ?_
 refine qm _ rfl (fun h1 => ?_) (fun h1 => ?_)
 ·replace h1 : (decide ((s105 a0 a1) ≠ 0)) = true := h1
  replace hR := zk hR h1
  try simp only [decide_eq_true_eq] at h1
  refine qd ?_
  refine qb [.p, .p, .p] ?_
  refine st rfl rfl (qa rfl rfl) rfl ?_
  refine st rfl rfl (qc rfl rfl) rfl ?_
  refine st rfl rfl (qc rfl rfl) rfl ?_
  refine qe ?_
  refine qr ?_
  subst hR
  exact resN rfl ⟨rv_g rfl, rv_g rfl, trivial⟩ (by simp)
 ·replace h1 : (decide ((s105 a0 a1) ≠ 0)) = false := h1
  replace hR := zl hR h1
  try simp only [decide_eq_false_iff_not] at h1
  refine qo ?_
  refine qd ?_
  refine qb [.p, .p, .p, .p, .p] ?_
  refine st rfl rfl (qt rfl ty24 rfl rfl rfl) rfl ?_
  refine st rfl rfl (qt rfl ty56 rfl rfl rfl) rfl ?_
  refine st rfl rfl (qj rfl K106 rfl (c106 a0 a1) (qh rfl (qh rfl qk))) rfl ?_
  refine st rfl rfl (qc rfl rfl) rfl ?_
  refine st rfl rfl (qc rfl rfl) rfl ?_
  refine qe ?_
  refine qr ?_
  subst hR
  exact resN rfl ⟨rv_g rfl, rv_g rfl, trivial⟩ (by simp)
def s34 (a0 : S23) (a1 : S55) : Int × Int :=
 (bif decide ((s105 a0 a1) ≠ 0) then (0, (s105 a0 a1)) else (max 0 (IntKind.i64.wrap ((IntKind.i64.wrap (Int.tdiv (IntKind.i64.wrap ((IntKind.i64.wrap (a0.Share * a1.Due)) + 99)) 100)) - a1.Flown)), 0))
theorem c34 {g : List (Nat × List Value)} (a0 : S23) (a1 : S55)    : Con (EG g) 34 [G.agg [G.int a0.Before, G.int a0.After, G.int a0.Notice, G.int a0.Share, G.sl 1 (List.map cStr a0.Causes), G.int a0.Off, G.int a0.Run], G.agg [G.int a1.Flown, G.int a1.Due]] (G.tup [G.int ((s34 a0 a1).1), G.int ((s34 a0 a1).2)]) := by
 generalize hR : s34 a0 a1 = R
 unfold s34 at hR
 refine qp Tryz.func34 rfl rfl fun w0 M0 => ?_
 refine qd ?_
 refine qb [.p, .p, .p, .p] ?_
 refine st rfl rfl (zd rfl rfl) rfl ?_
 refine st rfl rfl (zd rfl rfl) rfl ?_
 refine st rfl rfl (qc rfl rfl) rfl ?_
 refine st rfl rfl (qc rfl rfl) rfl ?_
 refine qe ?_
 refine qd ?_
 refine qd ?_
 refine qb [.p, .p, .p, .p] ?_
 refine st rfl rfl (qt rfl ty24 rfl rfl rfl) rfl ?_
 refine st rfl rfl (qt rfl ty56 rfl rfl rfl) rfl ?_
 refine st rfl rfl (qj rfl K105 rfl (c105 a0 a1) (qh rfl (qh rfl qk))) rfl ?_
 refine st rfl rfl (qc rfl rfl) rfl ?_
 refine qe ?_
 refine qd ?_
 refine qb [.p, .p] ?_
 refine st rfl rfl (qa rfl rfl) rfl ?_
 refine st rfl rfl (zz rfl rfl rfl) rfl ?_
 refine qe ?_
 refine qm _ rfl (fun h1 => ?_) (fun h1 => ?_)
 ·replace h1 : (decide ((s105 a0 a1) ≠ 0)) = true := h1
  replace hR := zk hR h1
  try simp only [decide_eq_true_eq] at h1
  refine qd ?_
  refine qb [.p, .p, .p] ?_
  refine st rfl rfl (qa rfl rfl) rfl ?_
  refine st rfl rfl (qc rfl rfl) rfl ?_
  refine st rfl rfl (qc rfl rfl) rfl ?_
  refine qe ?_
  refine qr ?_
  subst hR
  exact resN rfl ⟨rv_g rfl, rv_g rfl, trivial⟩ (by simp)
 ·replace h1 : (decide ((s105 a0 a1) ≠ 0)) = false := h1
  replace hR := zl hR h1
  try simp only [decide_eq_false_iff_not] at h1
  refine qo ?_
  refine qd ?_
  refine qb [.p, .p, .p, .p, .p, .p, .p, .p, .p, .p, .p, .p, .p] ?_
  refine st rfl rfl (qf rfl qnf rfl) rfl ?_
  refine st rfl rfl (qi rfl ty3 rfl) rfl ?_
  refine st rfl rfl (qf rfl qbc rfl) rfl ?_
  refine st rfl rfl (qi rfl ty3 rfl) rfl ?_
  refine st rfl rfl (v8 rfl rfl rfl) rfl ?_
  refine st rfl rfl (j6 rfl rfl rfl) rfl ?_
  refine st rfl rfl (we rfl rfl rfl (by decide)) rfl ?_
  refine st rfl rfl (qf rfl qby rfl) rfl ?_
  refine st rfl rfl (qi rfl ty3 rfl) rfl ?_
  refine st rfl rfl (qaw rfl rfl rfl) rfl ?_
  refine st rfl rfl (qre rfl rfl rfl) rfl ?_
  refine st rfl rfl (qc rfl rfl) rfl ?_
  refine st rfl rfl (qc rfl rfl) rfl ?_
  refine qe ?_
  refine qr ?_
  subst hR
  exact resN rfl ⟨rv_g rfl, rv_g rfl, trivial⟩ (by simp)
def s37 (a0 : S23) (a1 : S55) : Bool :=
 (decide (0 < a1.Due)) && (decide (IntKind.i64.wrap (a0.Share * a1.Due) ≤ IntKind.i64.wrap (100 * a1.Flown)))
theorem c37 {g : List (Nat × List Value)} (a0 : S23) (a1 : S55)    : Con (EG g) 37 [G.agg [G.int a0.Before, G.int a0.After, G.int a0.Notice, G.int a0.Share, G.sl 1 (List.map cStr a0.Causes), G.int a0.Off, G.int a0.Run], G.agg [G.int a1.Flown, G.int a1.Due]] (G.bool (s37 a0 a1)) := by
 generalize hR : s37 a0 a1 = R
 unfold s37 at hR
 refine qp Tryz.func37 rfl rfl fun w0 M0 => ?_
 refine qd ?_
 refine qb [.p, .p, .p] ?_
 refine st rfl rfl (zd rfl rfl) rfl ?_
 refine st rfl rfl (zd rfl rfl) rfl ?_
 refine st rfl rfl (qc rfl rfl) rfl ?_
 refine qe ?_
 refine qd ?_
 refine qb [.p, .p, .p, .p, .p, .p, .p, .p, .p, .p, .p, .p, .p, .p, .p] ?_
 refine st rfl rfl (qf rfl qc0 rfl) rfl ?_
 refine st rfl rfl (qi rfl ty3 rfl) rfl ?_
 refine st rfl rfl (zy rfl rfl rfl) rfl ?_
 refine st rfl rfl (qa rfl rfl) rfl ?_
 refine st_g rfl rfl rfl (qg _ _) (fun h => qf rfl qdy rfl) rfl ?_
 refine st_g rfl rfl rfl (qg _ _) (fun h => qi rfl ty3 (gd h rfl)) rfl ?_
 refine st_g rfl rfl rfl (qg _ _) (fun h => v8 rfl rfl (gd h rfl)) rfl ?_
 refine st_g rfl rfl rfl (qg _ _) (fun h => qf rfl qng rfl) rfl ?_
 refine st_g rfl rfl rfl (qg _ _) (fun h => qi rfl ty3 (gd h rfl)) rfl ?_
 refine st_g rfl rfl rfl (qg _ _) (fun h => qf rfl qc0 rfl) rfl ?_
 refine st_g rfl rfl rfl (qg _ _) (fun h => qi rfl ty3 (gd h rfl)) rfl ?_
 refine st_g rfl rfl rfl (qg _ _) (fun h => v8 rfl (gd h rfl) (gd h rfl)) rfl ?_
 refine st_g rfl rfl rfl (qg _ _) (fun h => vi rfl (gd h rfl) (gd h rfl)) rfl ?_
 refine st rfl rfl (zf rfl rfl rfl rfl) rfl ?_
 refine st rfl rfl (qc rfl rfl) rfl ?_
 refine qe ?_
 refine qr ?_
 subst hR
 exact zb rfl (rv_g rfl)
def s38_l1  : Nat → Int → Int
 | 0, x1 => x1
 | k2 + 1, x1 => s38_l1 k2 (IntKind.i64.wrap (x1 + 1))
def s38 (a0 : S23) (a1 : S55) : Int :=
 s38_l1 (((a0.Share * a1.Due + 99) / 100 - a1.Flown - 0).toNat) 0
theorem c38 {g : List (Nat × List Value)} (a0 : S23) (a1 : S55)  (hs0 : 0 ≤ a0.Share) (hs1 : a0.Share ≤ 100) (hd0 : 0 ≤ a1.Due) (hd1 : a1.Due ≤ 512) (hf0 : 0 ≤ a1.Flown) (hf1 : a1.Flown ≤ 512)  : Con (EG g) 38 [G.agg [G.int a0.Before, G.int a0.After, G.int a0.Notice, G.int a0.Share, G.sl 1 (List.map cStr a0.Causes), G.int a0.Off, G.int a0.Run], G.agg [G.int a1.Flown, G.int a1.Due]] (G.int (s38 a0 a1)) := by
 generalize hR : s38 a0 a1 = R
 unfold s38 at hR
 refine qp Tryz.func38 rfl rfl fun w0 M0 => ?_
 refine qd ?_
 refine qb [.p, .p, .p] ?_
 refine st rfl rfl (zd rfl rfl) rfl ?_
 refine st rfl rfl (zd rfl rfl) rfl ?_
 refine st rfl rfl (qc rfl rfl) rfl ?_
 refine qe ?_
 refine qd ?_
 refine qb [.p] ?_
 refine st rfl rfl (qc rfl rfl) rfl ?_
 refine qe ?_
 refine qd ?_
 refine qn ?_
 refine qx (γ := Nat × Int) (fun g => ([(2, .g (G.ref [G.int a0.Before, G.int a0.After, G.int a0.Notice, G.int a0.Share, G.sl 1 (List.map cStr a0.Causes), G.int a0.Off, G.int a0.Run])), (3, .g (G.ref [G.int a1.Flown, G.int a1.Due])), (5, .g (G.int g.2))], [])) (fun g => g.1 = ((a0.Share * a1.Due + 99) / 100 - a1.Flown - g.2).toNat ∧ 0 ≤ g.2 ∧ g.2 ≤ 600 ∧ s38_l1 g.1 g.2 = R) (fun g => g.1) ⟨rfl, (((a0.Share * a1.Due + 99) / 100 - a1.Flown - 0).toNat, 0), ⟨rfl, rfl, rfl, trivial⟩, trivial, rfl, ⟨rfl, (by first | omega | (dsimp only; omega) | simp), (by first | omega | (dsimp only; omega) | simp), hR⟩, trivial⟩ ?_
 ·rintro ⟨k2, x1⟩ ⟨hk1, iv1_0, iv1_1, hR⟩
  replace hk1 : k2 = ((a0.Share * a1.Due + 99) / 100 - a1.Flown - x1).toNat := hk1
  replace hR : s38_l1 k2 x1 = R := hR
  replace iv1_0 : 0 ≤ x1 := iv1_0
  replace iv1_1 : x1 ≤ 600 := iv1_1
  have hw1 := qle hs0 hs1 hd0 hd1
  obtain ⟨hb1, hb2⟩ := qc4 hs0 hs1 hd0 hd1
  have hw2 : IntKind.i64.wrap (a1.Flown + x1) = a1.Flown + x1 := wrap_i64 (by unfold I64; omega)
  have hw3 : IntKind.i64.wrap (100 * IntKind.i64.wrap (a1.Flown + x1)) = 100 * (a1.Flown + x1) := by rw [hw2]; exact wrap_i64 (by unfold I64; omega)
  have hw4 : IntKind.i64.wrap (x1 + 1) = x1 + 1 := wrap_i64 (by unfold I64; omega)
  refine qd ?_
  refine qd ?_
  refine qb [.p, .p, .p, .p, .p, .p, .p, .p, .p, .p, .p] ?_
  refine st rfl rfl (qf rfl qdy rfl) rfl ?_
  refine st rfl rfl (qi rfl ty3 rfl) rfl ?_
  refine st rfl rfl (qa rfl rfl) rfl ?_
  refine st rfl rfl (j6 rfl rfl rfl) rfl ?_
  refine st rfl rfl (v8 rfl rfl rfl) rfl ?_
  refine st rfl rfl (qf rfl qng rfl) rfl ?_
  refine st rfl rfl (qi rfl ty3 rfl) rfl ?_
  refine st rfl rfl (qf rfl qc0 rfl) rfl ?_
  refine st rfl rfl (qi rfl ty3 rfl) rfl ?_
  refine st rfl rfl (v8 rfl rfl rfl) rfl ?_
  refine st rfl rfl (ze rfl rfl rfl) rfl ?_
  refine qe ?_
  refine qm _ rfl (fun h1 => ?_) (fun h1 => ?_)
  ·replace h1 : (decide (IntKind.i64.wrap (100 * (IntKind.i64.wrap (a1.Flown + x1))) < IntKind.i64.wrap (a0.Share * a1.Due))) = true := h1
   replace h1 := decT h1
   obtain ⟨k2, rfl⟩ : ∃ m, k2 = m + 1 := ⟨k2 - 1, by omega⟩
   rw [s38_l1] at hR
   try dsimp only at hR
   refine qo ?_
   refine qn ?_
   refine qb [.p, .p, .p] ?_
   refine st rfl rfl (qa rfl rfl) rfl ?_
   refine st rfl rfl (j6 rfl rfl rfl) rfl ?_
   refine st rfl rfl (qc rfl rfl) rfl ?_
   refine qe ?_
   exact ⟨rfl, (k2, IntKind.i64.wrap (x1 + 1)), ⟨rfl, rfl, rfl, trivial⟩, trivial, rfl, ⟨(by first | omega | (dsimp only; omega) | (simp at *; omega)), (by first | omega | (dsimp only; omega) | (simp at *; omega)), (by first | omega | (dsimp only; omega) | (simp at *; omega)), hR⟩, by simp⟩
  ·replace h1 : (decide (IntKind.i64.wrap (100 * (IntKind.i64.wrap (a1.Flown + x1))) < IntKind.i64.wrap (a0.Share * a1.Due))) = false := h1
   replace h1 := decF h1
   obtain rfl : k2 = 0 := by omega
   rw [s38_l1] at hR
   refine zg ?_
   refine qd ?_
   refine qb [.p, .p] ?_
   refine st rfl rfl (qa rfl rfl) rfl ?_
   refine st rfl rfl (qc rfl rfl) rfl ?_
   refine qe ?_
   refine qr ?_
   subst hR
   exact zb rfl (rv_g rfl)
end Go.Sim
set_option linter.unusedSimpArgs false
set_option linter.unusedVariables false
set_option maxRecDepth 10000
namespace Go.Sim
open Go.Proofs
def s166 (a0 : S154) (a1 : S154) : Int :=
 (s167 a0.Slot a1.Slot)
def s204 (a0 : Int) (a1 : Int) (a2 : List S151) : Option Int :=
 bindO (ixO a2 a0) fun y1 => bindO (ixO a2 a1) fun y2 => some (s167 y1.Moment y2.Moment)
theorem c204 {g : List (Nat × List Value)} (a0 : Int) (a1 : Int) (a2 : List S151) {R : Int}   (hR : s204 a0 a1 a2 = some R) : Con (EG g) 204 [G.int a0, G.int a1, G.ref [G.sl 3 (List.map S151.c a2)]] (G.int R) := by
 unfold s204 at hR
 refine qp Tryz.func204 rfl rfl fun w0 M0 => ?_
 refine qd ?_
 refine qb [.p] ?_
 refine st rfl rfl (qc rfl rfl) rfl ?_
 refine qe ?_
 refine qd ?_
 obtain ⟨y1, by1, hR⟩ := ql hR
 obtain ⟨y2, by2, hR⟩ := ql hR
 refine zw [.p, .p, .p, .p, .p, .p, .p, .p, .p, .p, .p, .p] (by kernel_rfl) ?_
 refine st rfl rfl (qi rfl ty25 rfl) rfl ?_
 refine st rfl rfl (qa rfl rfl) rfl ?_
 refine st rfl rfl (zi (f := S151.c) (l := a2) (a := y1) rfl Tryz.underlying25 ko rfl rfl (z7 by1) (za by1)) rfl ?_
 refine st rfl rfl (qf rfl vw rfl) rfl ?_
 refine st rfl rfl (qi rfl ty3 rfl) rfl ?_
 refine st rfl rfl (qi rfl ty25 rfl) rfl ?_
 refine st rfl rfl (qa rfl rfl) rfl ?_
 refine st rfl rfl (zi (f := S151.c) (l := a2) (a := y2) rfl Tryz.underlying25 ko rfl rfl (z7 by2) (za by2)) rfl ?_
 refine st rfl rfl (qf rfl vw rfl) rfl ?_
 refine st rfl rfl (qi rfl ty3 rfl) rfl ?_
 refine st rfl rfl (qj rfl K167 rfl (c167 y1.Moment y2.Moment) (qh rfl (qh rfl qk))) rfl ?_
 refine st rfl rfl (qc rfl rfl) rfl ?_
 refine qe ?_
 refine qr ?_
 obtain rfl := Option.some.inj hR
 exact zb rfl (rv_g rfl)
def s168_l1 (a0 : List S151) : List S151 → Nat → (List Int) → Option (List Int)
 | [], k4, x2 => bindO (s203 x2 (fun x0 x1 => s204 x0 x1 a0)) fun r7 => some r7
 | y5 :: t6, k4, x2 => bindO (ixO x2 ((k4 : Nat) : Int)) fun y8 => s168_l1 a0 t6 (k4 + 1) (List.set x2 (Int.toNat ((k4 : Nat) : Int)) ((k4 : Nat) : Int))
def s168 (a0 : List S151) : Option (List Int) :=
 s168_l1 a0 a0 0 (List.replicate (List.length a0) 0)
theorem n168 {g : List (Nat × List Value)} (a0 : List S151) {R : List Int}  (hb0 : a0.length ≤ 12) (hR : s168 a0 = some R) : ConN (EG g) 168 [G.sl 3 (List.map S151.c a0)] 3 1 (List.map cInt R) := by
 unfold s168 at hR
 refine kl Tryz.func168 rfl rfl fun w0 M0 => ?_
 refine zc (f := S151.c) (l := a0) 0 rfl fun hla0 => ?_
 refine qd ?_
 refine qb [.p, .w] ?_
 refine st rfl rfl (zd rfl rfl) rfl ?_
 refine st_w rfl rfl (zu 2 3 1 rfl rfl rfl) rfl ?_
 refine qe ?_
 refine qd ?_
 refine qb [.p, .p, .w, .p] ?_
 refine st rfl rfl (qi rfl ty25 rfl) rfl ?_
 refine st rfl rfl (q9 (f := S151.c) (l := a0) rfl Tryz.underlying25 rfl) rfl ?_
 refine st_w rfl rfl (qgo (f := cInt) (z := 0) 7 rfl mk82 rfl rfl rfl (by first | exact Int.le_refl _ | omega) (by first | decide | omega) rfl rfl rfl) rfl ?_
 refine st rfl rfl (qy rfl rfl) rfl ?_
 refine qe ?_
 refine qd ?_
 refine qd ?_
 refine qb [.p, .p, .p] ?_
 refine st rfl rfl (qi rfl ty25 rfl) rfl ?_
 refine st rfl rfl (q9 (f := S151.c) (l := a0) rfl Tryz.underlying25 rfl) rfl ?_
 refine st rfl rfl (qa rfl rfl) rfl ?_
 refine qe ?_
 refine qn ?_
 refine qx (γ := Nat × (List S151) × (List Int)) (fun g => ([(1, .g (G.ref [G.sl 3 (List.map S151.c a0)])), (3, .osl 7 1 0 (List.length a0)), (9, .g (G.int (List.length a0 : Int))), (10, .g (G.int ((g.1 : Nat) : Int)))], [(7, .arr 3 1 (List.map cInt g.2.2))])) (fun g => List.length g.2.2 = List.length a0 ∧ a0.drop g.1 = g.2.1 ∧ s168_l1 a0 g.2.1 g.1 g.2.2 = some R) (fun g => List.length g.2.1) ⟨rfl, (0, a0, List.replicate (List.length a0) 0), ⟨rfl, rfl, rfl, rfl, trivial⟩, ⟨rfl, trivial⟩, rfl, ⟨List.length_replicate, rfl, hR⟩, trivial⟩ ?_
 ·rintro ⟨k4, t6, x2⟩ ⟨ln3, hd, hR⟩
  replace hd : a0.drop k4 = t6 := hd
  replace hR : s168_l1 a0 t6 k4 x2 = some R := hR
  replace ln3 : List.length x2 = List.length a0 := ln3
  refine qd ?_
  refine qb [.p] ?_
  refine st rfl rfl (ze rfl rfl rfl) rfl ?_
  refine qe ?_
  refine qd ?_
  refine qm _ rfl (fun h1 => ?_) (fun h1 => ?_)
  ·replace h1 : (decide (((k4 : Nat) : Int) < (List.length a0 : Int))) = true := h1
   obtain ⟨y5, t6, rfl, hx1, hd⟩ := zh hd (decT h1)
   replace h1 := decT h1
   rw [s168_l1] at hR
   try dsimp only at hR
   refine qo ?_
   refine qd ?_
   refine qn ?_
   refine qd ?_
   refine qb [.p, .p] ?_
   refine st rfl rfl (qa rfl rfl) rfl ?_
   refine st rfl rfl (qc rfl rfl) rfl ?_
   refine qe ?_
   obtain ⟨y8, by8, hR⟩ := ql hR
   refine qb [.p, .p, .p, .p, .w] ?_
   refine st rfl rfl (qq rfl rfl) rfl ?_
   refine st rfl rfl (qa rfl rfl) rfl ?_
   refine st rfl rfl (qa rfl rfl) rfl ?_
   refine st rfl rfl (ji rfl Tryz.underlying82 ty3 rfl rfl (z7 by8) (Nat.lt_of_lt_of_eq (jf (za by8)) ln3)) rfl ?_
   refine j8 rfl rfl (vg (f := cInt) (l := x2) (a' := ((k4 : Nat) : Int)) rfl ty3 rfl rfl rfl (Nat.lt_of_lt_of_eq (Nat.lt_of_lt_of_eq (jf (za by8)) ln3) (Eq.symm ln3)) rfl (fun _ => rfl)) ?_
   refine qe ?_
   refine qb [.p, .p] ?_
   refine st rfl rfl (zj rfl rfl rfl (by unfold I64; omega)) rfl ?_
   refine st rfl rfl (qa rfl rfl) rfl ?_
   refine qe ?_
   exact ⟨rfl, (k4 + 1, t6, List.set x2 (Int.toNat ((k4 : Nat) : Int)) ((k4 : Nat) : Int)), ⟨rfl, rfl, rfl, rfl, trivial⟩, ⟨rfl, trivial⟩, rfl, ⟨((List.length_set ..).trans ln3), hd, hR⟩, by simp⟩
  ·replace h1 : (decide (((k4 : Nat) : Int) < (List.length a0 : Int))) = false := h1
   obtain rfl := zm hd (decF h1)
   rw [s168_l1] at hR
   refine zg ?_
   refine qd ?_
   obtain ⟨r7, br7, hR⟩ := ql hR
   refine qb [.p, .p, .w] ?_
   refine st rfl rfl (qq rfl rfl) rfl ?_
   refine st rfl rfl (qa0 rfl rfl rfl) rfl ?_
   refine st_w rfl rfl (kq 0 7 rfl K203 rfl (c203 x2 (fun x0 x1 => s204 x0 x1 a0) ln3 qh5 K204 (fun x0 x1 r_ h_ => c204 x0 x1 a0 h_) (by first | assumption | omega | (simp [qv]; omega)) br7) (jb rfl rfl (jb rfl rfl ww)) rfl rfl rfl) rfl ?_
   refine qe ?_
   refine qd ?_
   refine qb [.p, .p] ?_
   refine st rfl rfl (qq rfl rfl) rfl ?_
   refine st rfl rfl (qy rfl rfl) rfl ?_
   refine qe ?_
   refine qr ?_
   obtain rfl := Option.some.inj hR
   exact kx rfl rfl rfl ((List.length_map ..).trans ((qp6 br7).trans ln3))
theorem c168 {g : List (Nat × List Value)} (a0 : List S151) {R : List Int}  (hb0 : a0.length ≤ 12) (hR : s168 a0 = some R) : Con (EG g) 168 [G.sl 3 (List.map S151.c a0)] (G.sl 1 (List.map cInt R)) :=
 ConN.con (by decide) (n168 a0 hb0 hR)
end Go.Sim
namespace Go.Sim
theorem qj6 (a0 : List S151) : ∀ (l : List S151) (k : Nat) (x r : List Int), s168_l1 a0 l k x = some r → r.length = x.length
 | [], k, x, r, h => by
  rw [s168_l1] at h
  obtain ⟨y, h1, h⟩ := ql h
  cases h
  exact qp6 h1
 | y :: l, k, x, r, h => by
  rw [s168_l1] at h
  obtain ⟨z, h1, h⟩ := ql h
  have := qj6 a0 l _ _ _ h
  simpa using this
theorem qp7 {a0 : List S151} {r : List Int} (h : s168 a0 = some r) : r.length = a0.length := by
 have := qj6 a0 _ _ _ _ h
 simpa using this
end Go.Sim
set_option linter.unusedSimpArgs false
set_option linter.unusedVariables false
set_option maxRecDepth 10000
namespace Go.Sim
open Go.Proofs
def s114 (a0 : List S154) : Option (List S154) :=
 bindO (s165 (copyL (List.replicate (List.length a0) (S154.mk 0 0)) a0) (fun x0_ x1_ => some (s166 x0_ x1_))) fun r1 => some r1
def s142 (a0 : S23) (a1 : S151) (a2 : S151) : Bool :=
 ((eqAnd [decide (a2.Name = a1.Name), decide (a2.Moment = a2.Moment), decide (a2.Kind = a1.Kind)]) && (decide (IntKind.i64.wrap (a1.Moment - a0.Before) ≤ a2.Moment))) && (decide (a2.Moment ≤ IntKind.i64.wrap (a1.Moment + a0.After)))
theorem c142 {g : List (Nat × List Value)} (a0 : S23) (a1 : S151) (a2 : S151)    : Con (EG g) 142 [G.agg [G.int a0.Before, G.int a0.After, G.int a0.Notice, G.int a0.Share, G.sl 1 (List.map cStr a0.Causes), G.int a0.Off, G.int a0.Run], G.agg [G.str a1.Name, G.int a1.Moment, G.str a1.Kind], G.agg [G.str a2.Name, G.int a2.Moment, G.str a2.Kind]] (G.bool (s142 a0 a1 a2)) := by
 generalize hR : s142 a0 a1 a2 = R
 unfold s142 at hR
 refine qp Tryz.func142 rfl rfl fun w0 M0 => ?_
 refine qd ?_
 refine qb [.p, .p, .p, .p] ?_
 refine st rfl rfl (zd rfl rfl) rfl ?_
 refine st rfl rfl (zd rfl rfl) rfl ?_
 refine st rfl rfl (zd rfl rfl) rfl ?_
 refine st rfl rfl (qc rfl rfl) rfl ?_
 refine qe ?_
 refine qd ?_
 refine qb [.p, .p, .p, .p, .p, .p, .p, .w, .w] ?_
 refine st rfl rfl (qf rfl w4 rfl) rfl ?_
 refine st rfl rfl (qi rfl ty9 rfl) rfl ?_
 refine st rfl rfl (qf rfl vw rfl) rfl ?_
 refine st rfl rfl (qi rfl ty3 rfl) rfl ?_
 refine st rfl rfl (qf rfl qe8 rfl) rfl ?_
 refine st rfl rfl (qi rfl ty9 rfl) rfl ?_
 refine st rfl rfl (vk rfl z152 rfl quf (j9 rfl (j9 rfl (j9 rfl qaz))) rfl) rfl ?_
 refine st_w rfl rfl (jm 7 rfl z152 rfl rfl) rfl ?_
 refine j8 rfl rfl (zt (tv := .g (G.agg [G.str a1.Name, G.int a2.Moment, G.str a1.Kind])) rfl ko rfl rfl rfl rfl rfl) ?_
 refine qe ?_
 refine qd ?_
 refine qb [.p, .r, .p, .p, .p, .p, .p, .p, .p, .p, .p, .p, .p, .p, .p, .p, .p, .p, .p, .p, .p, .p, .p, .p] ?_
 refine st rfl rfl (qt rfl ko rfl rfl rfl) rfl ?_
 refine st_r rfl rfl (jo rfl ko rfl rfl rfl rfl) rfl ?_
 refine st rfl rfl (qon [.string a2.Name, .int .i64 a2.Moment, .string a2.Kind] [.string a1.Name, .int .i64 a2.Moment, .string a1.Kind] rfl qr4 rfl rfl rfl rfl rfl) rfl ?_
 refine st rfl rfl (qa rfl rfl) rfl ?_
 refine st_g rfl rfl rfl (qg _ _) (fun h => qf rfl vw rfl) rfl ?_
 refine st_g rfl rfl rfl (qg _ _) (fun h => qi rfl ty3 (gd h rfl)) rfl ?_
 refine st_g rfl rfl rfl (qg _ _) (fun h => qf rfl vw rfl) rfl ?_
 refine st_g rfl rfl rfl (qg _ _) (fun h => qi rfl ty3 (gd h rfl)) rfl ?_
 refine st_g rfl rfl rfl (qg _ _) (fun h => qf rfl qp8 rfl) rfl ?_
 refine st_g rfl rfl rfl (qg _ _) (fun h => qi rfl ty3 (gd h rfl)) rfl ?_
 refine st_g rfl rfl rfl (qg _ _) (fun h => qaw rfl (gd h rfl) (gd h rfl)) rfl ?_
 refine st_g rfl rfl rfl (qg _ _) (fun h => vi rfl (gd h rfl) (gd h rfl)) rfl ?_
 refine st rfl rfl (zf rfl rfl rfl rfl) rfl ?_
 refine st rfl rfl (qa rfl rfl) rfl ?_
 refine st_g rfl rfl rfl (qg _ _) (fun h => qf rfl vw rfl) rfl ?_
 refine st_g rfl rfl rfl (qg _ _) (fun h => qi rfl ty3 (gd h rfl)) rfl ?_
 refine st_g rfl rfl rfl (qg _ _) (fun h => qf rfl vw rfl) rfl ?_
 refine st_g rfl rfl rfl (qg _ _) (fun h => qi rfl ty3 (gd h rfl)) rfl ?_
 refine st_g rfl rfl rfl (qg _ _) (fun h => qf rfl qp9 rfl) rfl ?_
 refine st_g rfl rfl rfl (qg _ _) (fun h => qi rfl ty3 (gd h rfl)) rfl ?_
 refine st_g rfl rfl rfl (qg _ _) (fun h => j6 rfl (gd h rfl) (gd h rfl)) rfl ?_
 refine st_g rfl rfl rfl (qg _ _) (fun h => kg rfl (gd h rfl) (gd h rfl)) rfl ?_
 refine st rfl rfl (zf rfl rfl rfl rfl) rfl ?_
 refine st rfl rfl (qc rfl rfl) rfl ?_
 refine qe ?_
 refine qr ?_
 subst hR
 exact zb rfl (rv_g rfl)
def s115_j1 (rec1 : Nat → (List S154) → (List (Int × Bool)) → Option (List S154)) (k6 : Nat) (x9 : List S154) (x10 : List (Int × Bool)) : Option (List S154) :=
 rec1 (k6 + 1) x9 x10
def s115_l2 (rec1 : Nat → (List S154) → (List (Int × Bool)) → Option (List S154)) (a0 : S23) (a1 : List S151) (a2 : List S151) (x3 : List S154) (x5 : List (Int × Bool)) (k6 : Nat) (y7 : Int) : List Int → Nat → Option (List S154)
 | [], k12 => s115_j1 rec1 k6 x3 x5
 | y13 :: t14, k12 => bindO (bif !(mgetD x5 y13 false) then ixO a1 y7 else some default) fun y15 => bindO (bif !(mgetD x5 y13 false) then ixO a2 y13 else some default) fun y16 => (bif (!(mgetD x5 y13 false)) && (s142 a0 y15 y16) then s115_j1 rec1 k6 (x3 ++ [(S154.mk y7 y13)]) (mset x5 y13 true) else s115_l2 rec1 a0 a1 a2 x3 x5 k6 y7 t14 (k12 + 1))
def s115_l1 (a0 : S23) (a1 : List S151) (a2 : List S151) (r1 : List Int) : List Int → Nat → (List S154) → (List (Int × Bool)) → Option (List S154)
 | [], k6, x3, x5 => some x3
 | y7 :: t8, k6, x3, x5 => s115_l2 (fun k_ z0_ z1_ => s115_l1 a0 a1 a2 r1 t8 k_ z0_ z1_) a0 a1 a2 x3 x5 k6 y7 r1 0
def s115 (a0 : S23) (a1 : List S151) (a2 : List S151) : Option (List S154) :=
 bindO (s168 a2) fun r1 => bindO (s168 a1) fun r2 => s115_l1 a0 a1 a2 r1 r2 0 [] []
theorem n115 {g : List (Nat × List Value)} (a0 : S23) (a1 : List S151) (a2 : List S151) {R : List S154}  (hb1 : a1.length ≤ 12) (hb2 : a2.length ≤ 12) (hR : s115 a0 a1 a2 = some R) : ConN (EG g) 115 [G.agg [G.int a0.Before, G.int a0.After, G.int a0.Notice, G.int a0.Share, G.sl 1 (List.map cStr a0.Causes), G.int a0.Off, G.int a0.Run], G.sl 3 (List.map S151.c a1), G.sl 3 (List.map S151.c a2)] 155 2 (List.map S154.c R) := by
 unfold s115 at hR
 refine kl Tryz.func115 rfl rfl fun w0 M0 => ?_
 refine zc (f := S151.c) (l := a1) 1 rfl fun hla1 => ?_
 refine zc (f := S151.c) (l := a2) 2 rfl fun hla2 => ?_
 refine qd ?_
 refine qb [.p, .w] ?_
 refine st rfl rfl (zd rfl rfl) rfl ?_
 refine st_w rfl rfl (zu 6 155 2 rfl rfl rfl) rfl ?_
 refine qe ?_
 refine qd ?_
 refine qb [.w, .p] ?_
 refine st_w rfl rfl (qcv 14 rfl rfl) rfl ?_
 refine st rfl rfl (qcr rfl rfl) rfl ?_
 refine qe ?_
 refine qd ?_
 obtain ⟨r1, br1, hR⟩ := ql hR
 refine qb [.p, .p, .p] ?_
 refine st rfl rfl (qa rfl rfl) rfl ?_
 refine st rfl rfl (qj rfl K168 rfl (c168 a2 (by first | assumption | omega | (simp [qv]; omega)) br1) (qh rfl qk)) rfl ?_
 refine st rfl rfl (qc rfl rfl) rfl ?_
 refine qe ?_
 have hl1 := qp7 br1
 refine qd ?_
 refine qb [.w] ?_
 refine st_w rfl rfl (zu 9 155 2 rfl rfl rfl) rfl ?_
 refine qe ?_
 refine qd ?_
 refine qd ?_
 obtain ⟨r2, br2, hR⟩ := ql hR
 refine qb [.p, .p, .p, .p] ?_
 refine st rfl rfl (qa rfl rfl) rfl ?_
 refine st rfl rfl (qj rfl K168 rfl (c168 a1 (by first | assumption | omega | (simp [qv]; omega)) br2) (qh rfl qk)) rfl ?_
 refine st rfl rfl (q9 (f := cInt) (l := r2) rfl Tryz.underlying82 rfl) rfl ?_
 refine st rfl rfl (qa rfl rfl) rfl ?_
 refine qe ?_
 have hl2 := qp7 br2
 refine qn ?_
 refine qx (γ := Nat × (List Int) × (List S154) × (List (Int × Bool))) (fun g => ([(1, .g (G.sl 3 (List.map S151.c a1))), (2, .g (G.sl 3 (List.map S151.c a2))), (3, .g (G.ref [G.int a0.Before, G.int a0.After, G.int a0.Notice, G.int a0.Share, G.sl 1 (List.map cStr a0.Causes), G.int a0.Off, G.int a0.Run])), (7, .omap 14), (8, .g (G.sl 1 (List.map cInt r1))), (9, .osl 9 2 0 (List.length g.2.2.1)), (18, .g (G.sl 1 (List.map cInt r2))), (19, .g (G.int (List.length r2 : Int))), (20, .g (G.int ((g.1 : Nat) : Int)))], [(9, .arr 155 2 (List.map S154.c g.2.2.1)), (14, mpB (K := Int) (V := Bool) (Value.int .i64) (fun v => G.bool v) g.2.2.2)])) (fun g => g.2.2.1.length ≤ g.1 ∧ r2.drop g.1 = g.2.1 ∧ s115_l1 a0 a1 a2 r1 g.2.1 g.1 g.2.2.1 g.2.2.2 = some R) (fun g => List.length g.2.1) ⟨rfl, (0, r2, [], []), ⟨rfl, rfl, rfl, rfl, rfl, rfl, rfl, rfl, rfl, trivial⟩, ⟨rfl, rfl, trivial⟩, rfl, ⟨(by first | (simp; done) | (simp; omega)), rfl, hR⟩, trivial⟩ ?_
 ·rintro ⟨k6, t8, x3, x5⟩ ⟨iv1_0, hd, hR⟩
  replace hd : r2.drop k6 = t8 := hd
  replace hR : s115_l1 a0 a1 a2 r1 t8 k6 x3 x5 = some R := hR
  replace iv1_0 : x3.length ≤ k6 := iv1_0
  refine qd ?_
  refine qb [.p] ?_
  refine st rfl rfl (ze rfl rfl rfl) rfl ?_
  refine qe ?_
  refine zc (f := cInt) (l := r2) 18 rfl fun hlz1 => ?_
  refine qd ?_
  refine qm _ rfl (fun h1 => ?_) (fun h1 => ?_)
  ·replace h1 : (decide (((k6 : Nat) : Int) < (List.length r2 : Int))) = true := h1
   obtain ⟨y7, t8, rfl, hx1, hd⟩ := zh hd (decT h1)
   replace h1 := decT h1
   rw [s115_l1] at hR
   try dsimp only at hR
   refine qo ?_
   refine jt (γ := (List S154) × (List (Int × Bool))) (fun g => ([(1, .g (G.sl 3 (List.map S151.c a1))), (2, .g (G.sl 3 (List.map S151.c a2))), (3, .g (G.ref [G.int a0.Before, G.int a0.After, G.int a0.Notice, G.int a0.Share, G.sl 1 (List.map cStr a0.Causes), G.int a0.Off, G.int a0.Run])), (7, .omap 14), (8, .g (G.sl 1 (List.map cInt r1))), (9, .osl 9 2 0 (List.length g.1)), (18, .g (G.sl 1 (List.map cInt r2))), (19, .g (G.int (List.length r2 : Int))), (20, .g (G.int ((k6 : Nat) : Int)))], [(9, .arr 155 2 (List.map S154.c g.1)), (14, mpB (K := Int) (V := Bool) (Value.int .i64) (fun v => G.bool v) g.2)])) (fun g => g.1.length ≤ k6 + 1 ∧ s115_j1 (fun k_ z0_ z1_ => s115_l1 a0 a1 a2 r1 t8 k_ z0_ z1_) k6 g.1 g.2 = some R) ?_ ?_
   ·refine qn ?_
    refine qd ?_
    refine qb [.p, .p, .p] ?_
    refine st rfl rfl (zi (f := cInt) (l := r2) (a := y7) rfl Tryz.underlying82 ty3 rfl rfl (Int.natCast_nonneg _) hx1) rfl ?_
    refine st rfl rfl (qi rfl ty3 rfl) rfl ?_
    refine st rfl rfl (qc rfl rfl) rfl ?_
    refine qe ?_
    refine qd ?_
    refine qb [.p, .p, .p] ?_
    refine st rfl rfl (qa rfl rfl) rfl ?_
    refine st rfl rfl (q9 (f := cInt) (l := r1) rfl Tryz.underlying82 rfl) rfl ?_
    refine st rfl rfl (qa rfl rfl) rfl ?_
    refine qe ?_
    refine qn ?_
    refine qx (γ := Nat × (List Int)) (fun g => ([(1, .g (G.sl 3 (List.map S151.c a1))), (2, .g (G.sl 3 (List.map S151.c a2))), (3, .g (G.ref [G.int a0.Before, G.int a0.After, G.int a0.Notice, G.int a0.Share, G.sl 1 (List.map cStr a0.Causes), G.int a0.Off, G.int a0.Run])), (7, .omap 14), (8, .g (G.sl 1 (List.map cInt r1))), (9, .osl 9 2 0 (List.length x3)), (11, .g (G.int y7)), (18, .g (G.sl 1 (List.map cInt r2))), (19, .g (G.int (List.length r2 : Int))), (20, .g (G.int ((k6 : Nat) : Int))), (24, .g (G.sl 1 (List.map cInt r1))), (25, .g (G.int (List.length r1 : Int))), (26, .g (G.int ((g.1 : Nat) : Int)))], [(9, .arr 155 2 (List.map S154.c x3)), (14, mpB (K := Int) (V := Bool) (Value.int .i64) (fun v => G.bool v) x5)])) (fun g => r1.drop g.1 = g.2 ∧ s115_l2 (fun k_ z0_ z1_ => s115_l1 a0 a1 a2 r1 t8 k_ z0_ z1_) a0 a1 a2 x3 x5 k6 y7 g.2 g.1 = some R) (fun g => List.length g.2) ⟨rfl, (0, r1), ⟨rfl, rfl, rfl, rfl, rfl, rfl, rfl, rfl, rfl, rfl, rfl, rfl, rfl, trivial⟩, ⟨rfl, rfl, trivial⟩, rfl, ⟨rfl, hR⟩, trivial⟩ ?_
    ·rintro ⟨k12, t14⟩ ⟨hd, hR⟩
     replace hd : r1.drop k12 = t14 := hd
     replace hR : s115_l2 (fun k_ z0_ z1_ => s115_l1 a0 a1 a2 r1 t8 k_ z0_ z1_) a0 a1 a2 x3 x5 k6 y7 t14 k12 = some R := hR
     refine qd ?_
     refine qb [.p] ?_
     refine st rfl rfl (ze rfl rfl rfl) rfl ?_
     refine qe ?_
     refine zc (f := cInt) (l := r1) 8 rfl fun hlz2 => ?_
     refine qd ?_
     refine qm _ rfl (fun h3 => ?_) (fun h3 => ?_)
     ·replace h3 : (decide (((k12 : Nat) : Int) < (List.length r1 : Int))) = true := h3
      obtain ⟨y13, t14, rfl, hx2, hd⟩ := zh hd (decT h3)
      replace h3 := decT h3
      rw [s115_l2] at hR
      try dsimp only at hR
      refine qo ?_
      refine qd ?_
      refine qn ?_
      refine qd ?_
      refine qb [.p, .p, .p] ?_
      refine st rfl rfl (zi (f := cInt) (l := r1) (a := y13) rfl Tryz.underlying82 ty3 rfl rfl (Int.natCast_nonneg _) hx2) rfl ?_
      refine st rfl rfl (qi rfl ty3 rfl) rfl ?_
      refine st rfl rfl (qc rfl rfl) rfl ?_
      refine qe ?_
      refine qd ?_
      obtain ⟨y15, by15, hR⟩ := ql hR
      obtain ⟨y16, by16, hR⟩ := ql hR
      refine zw [.p, .p, .r, .p, .p, .p, .p, .p, .p, .p, .p, .p, .p, .p, .p, .p] (by kernel_rfl) ?_
      refine st rfl rfl (qay rfl rfl) rfl ?_
      refine st rfl rfl (qa rfl rfl) rfl ?_
      refine st_r rfl rfl (qdu (kf := Value.int .i64) (vf := (fun v => G.bool v)) (m := x5) (k := y13) (z := false) rfl Tryz.underlying220 Tryz.underlying3 zr4 (fun _ _ => rfl) rfl rfl rfl) rfl ?_
      refine st rfl rfl (jx rfl rfl) rfl ?_
      refine st rfl rfl (qa rfl rfl) rfl ?_
      refine st_g rfl rfl rfl (qg _ _) (fun h => qt rfl ty24 rfl rfl rfl) rfl ?_
      refine st_g rfl rfl rfl (qg _ _) (fun h => qa rfl rfl) rfl ?_
      refine st_g rfl rfl rfl (qg _ _) (fun h => qa rfl rfl) rfl ?_
      refine st_g rfl rfl rfl (qg _ _) (fun h => zi (f := S151.c) (l := a1) (a := y15) rfl Tryz.underlying25 ko (gd h rfl) (gd h rfl) (z7 (jn by15 h)) (za (jn by15 h))) rfl ?_
      refine st_g rfl rfl rfl (qg _ _) (fun h => qt rfl ko (gd h rfl) rfl rfl) rfl ?_
      refine st_g rfl rfl rfl (qg _ _) (fun h => qa rfl rfl) rfl ?_
      refine st_g rfl rfl rfl (qg _ _) (fun h => qa rfl rfl) rfl ?_
      refine st_g rfl rfl rfl (qg _ _) (fun h => zi (f := S151.c) (l := a2) (a := y16) rfl Tryz.underlying25 ko (gd h rfl) (gd h rfl) (z7 (jn by16 h)) (za (jn by16 h))) rfl ?_
      refine st_g rfl rfl rfl (qg _ _) (fun h => qt rfl ko (gd h rfl) rfl rfl) rfl ?_
      refine st_g rfl rfl rfl (qg _ _) (fun h => qj rfl K142 rfl (c142 a0 y15 y16) (qh (gd h rfl) (qh (gd h rfl) (qh (gd h rfl) qk)))) rfl ?_
      refine st rfl rfl (zf rfl rfl rfl rfl) rfl ?_
      refine qe ?_
      refine qm _ rfl (fun h5 => ?_) (fun h5 => ?_)
      ·replace h5 : ((!(mgetD x5 y13 false)) && (s142 a0 y15 y16)) = true := h5
       replace hR := zk hR h5
       try simp only [Bool.or_eq_true, Bool.and_eq_true, Bool.or_eq_false_iff, Bool.and_eq_false_iff, Bool.not_eq_true', Bool.not_eq_false', decide_eq_true_eq, decide_eq_false_iff_not] at h5
       refine qd ?_
       refine qb [.p, .p, .w] ?_
       refine st rfl rfl (qay rfl rfl) rfl ?_
       refine st rfl rfl (qa rfl rfl) rfl ?_
       refine j8 rfl rfl (qdv (kf := Value.int .i64) (vf := (fun v => G.bool v)) (m := x5) (k := y13) (v := true) (ins := false) rfl Tryz.underlying220 Tryz.underlying3 rfl rfl rfl rfl) ?_
       refine qe ?_
       refine qd ?_
       refine qb [.p, .p, .p, .p, .p, .k, .p] ?_
       refine st rfl rfl (qq rfl rfl) rfl ?_
       refine st rfl rfl (qa rfl rfl) rfl ?_
       refine st rfl rfl (qa rfl rfl) rfl ?_
       refine st rfl rfl (vk rfl z155 rfl qwh (j9 rfl (j9 rfl qaz)) rfl) rfl ?_
       refine st rfl rfl (qu rfl Tryz.underlying79 qpf z155 rfl (qw rfl z4) rfl (by exact lens rfl) (by decide)) rfl ?_
       refine st_k rfl rfl (z5 (f := S154.c) (out := x3) (new := [(S154.mk y7 y13)]) rfl qwi rfl rfl (kc rfl (vc (by decide) (by simp [S154.c]))) (vp rfl) (by simp; omega)) rfl ?_
       refine st rfl rfl (qy rfl rfl) rfl ?_
       refine qe ?_
       refine zg ?_
       exact ⟨rfl, (x3 ++ [(S154.mk y7 y13)], mset x5 y13 true), ⟨rfl, rfl, rfl, rfl, rfl, rfl, rfl, rfl, rfl, trivial⟩, ⟨rfl, rfl, trivial⟩, rfl, ⟨(by first | omega | (dsimp only; omega) | (simp at *; done) | (simp at *; omega)), hR⟩, trivial⟩
      ·replace h5 : ((!(mgetD x5 y13 false)) && (s142 a0 y15 y16)) = false := h5
       replace hR := zl hR h5
       try simp only [Bool.or_eq_true, Bool.and_eq_true, Bool.or_eq_false_iff, Bool.and_eq_false_iff, Bool.not_eq_true', Bool.not_eq_false', decide_eq_true_eq, decide_eq_false_iff_not] at h5
       refine qo ?_
       refine qb [.p, .p] ?_
       refine st rfl rfl (zj rfl rfl rfl (by unfold I64; omega)) rfl ?_
       refine st rfl rfl (qa rfl rfl) rfl ?_
       refine qe ?_
       exact ⟨rfl, (k12 + 1, t14), ⟨rfl, rfl, rfl, rfl, rfl, rfl, rfl, rfl, rfl, rfl, rfl, rfl, rfl, trivial⟩, ⟨rfl, rfl, trivial⟩, rfl, ⟨hd, hR⟩, by simp⟩
     ·replace h3 : (decide (((k12 : Nat) : Int) < (List.length r1 : Int))) = false := h3
      obtain rfl := zm hd (decF h3)
      rw [s115_l2] at hR
      refine zg ?_
      exact ⟨rfl, (x3, x5), ⟨rfl, rfl, rfl, rfl, rfl, rfl, rfl, rfl, rfl, trivial⟩, ⟨rfl, rfl, trivial⟩, rfl, ⟨(by first | omega | (dsimp only; omega) | (simp at *; done) | (simp at *; omega)), hR⟩, trivial⟩
   ·rintro ⟨x9, x10⟩ ⟨jv1_0, hR⟩
    replace jv1_0 : x9.length ≤ k6 + 1 := jv1_0
    replace hR : s115_j1 (fun k_ z0_ z1_ => s115_l1 a0 a1 a2 r1 t8 k_ z0_ z1_) k6 x9 x10 = some R := hR
    unfold s115_j1 at hR
    refine qb [.p, .p] ?_
    refine st rfl rfl (zj rfl rfl rfl (by unfold I64; omega)) rfl ?_
    refine st rfl rfl (qa rfl rfl) rfl ?_
    refine qe ?_
    exact ⟨rfl, (k6 + 1, t8, x9, x10), ⟨rfl, rfl, rfl, rfl, rfl, rfl, rfl, rfl, rfl, trivial⟩, ⟨rfl, rfl, trivial⟩, rfl, ⟨(by first | omega | (dsimp only; omega) | (simp at *; omega)), hd, hR⟩, by simp⟩
  ·replace h1 : (decide (((k6 : Nat) : Int) < (List.length r2 : Int))) = false := h1
   obtain rfl := zm hd (decF h1)
   rw [s115_l1] at hR
   refine zg ?_
   refine qd ?_
   refine qb [.p, .p] ?_
   refine st rfl rfl (qq rfl rfl) rfl ?_
   refine st rfl rfl (qy rfl rfl) rfl ?_
   refine qe ?_
   refine qr ?_
   obtain rfl := Option.some.inj hR
   exact kx rfl rfl rfl ((List.length_map ..).trans rfl)
def s190_l1 (a1 : Int) : List Int → Nat → Int
 | [], k2 => (-1)
 | y3 :: t4, k2 => (bif decide (a1 = y3) then ((k2 : Nat) : Int) else s190_l1 a1 t4 (k2 + 1))
def s190 (a0 : List Int) (a1 : Int) : Int :=
 s190_l1 a1 a0 0
def s144 (a0 : List Int) (a1 : Int) : Bool :=
 decide (0 ≤ (s190 a0 a1))
def s116_j1 (rec1 : (List Int) → Int → List Int) (x2 : Int) (x5 : List Int) : List Int :=
 rec1 x5 (x2 + 1)
def s116_l1 (a1 : List Int) : Nat → (List Int) → Int → List Int
 | 0, x1, x2 => x1
 | k4 + 1, x1, x2 => (bif !(s144 a1 x2) then s116_j1 (fun z0_ z1_ => s116_l1 a1 k4 z0_ z1_) x2 (x1 ++ [x2]) else s116_j1 (fun z0_ z1_ => s116_l1 a1 k4 z0_ z1_) x2 x1)
def s116 (a0 : Int) (a1 : List Int) : List Int :=
 s116_l1 a1 ((a0 - 0).toNat) [] 0
def s118 (a0 : S154) : Int :=
 a0.Slot
def s119 (a0 : S154) : Int :=
 a0.Record
def s117_l1 (a1 : S154 → Int) : List S154 → Nat → (List Int) → List Int
 | [], k3, x1 => x1
 | y4 :: t5, k3, x1 => s117_l1 a1 t5 (k3 + 1) (x1 ++ [(a1 y4)])
def s117 (a0 : List S154) (a1 : S154 → Int) : List Int :=
 s117_l1 a1 a0 0 []
def s113 (a0 : S23) (a1 : List S151) (a2 : List S151) : Int :=
 (s84 [(s23 a0), (s25 a1), (s25 a2)])
end Go.Sim
namespace Go.Sim
theorem qr5 {l : List S151} (h : s25 l = 0) : l.length ≤ 512 := by
 unfold s25 at h
 by_cases h1 : 512 < l.length
 ·rw [decide_eq_true (by omega)] at h; cases h
 ·omega
theorem qr6 {l : List S151} {n : Int} (h : s19 (s20 l) n = true) : (l.length : Int) ≤ n ∨ 512 < l.length := by
 rw [qgt] at h
 unfold s19 at h
 by_cases h1 : (n < (l.length : Int)) ∧ ((l.length : Int) ≤ 512)
 ·rw [decide_eq_true h1.1, decide_eq_true h1.2] at h; cases h
 ·omega
theorem qc1 {l : List Int} (h : s84 l = 0) : ∀ x ∈ l, x = 0 := by
 have key : ∀ (l : List Int) (k : Nat), s84_l1 l k = 0 → ∀ x ∈ l, x = 0 := by
  intro l
  induction l with
  | nil => intro k _ x hx; cases hx
  | cons y l ih =>
   intro k h x hx
   rw [s84_l1] at h
   by_cases hy : y = 0
   ·subst hy
    simp at h
    rcases List.mem_cons.1 hx with rfl | hx
    ·rfl
    ·exact ih _ h x hx
   ·simp [hy] at h
 exact key l 0 h
end Go.Sim
set_option linter.unusedSimpArgs false
set_option linter.unusedVariables false
set_option maxRecDepth 10000
namespace Go.Sim
open Go.Proofs
def s145 (a0 : S23) (a1 : S151) (a2 : S151) : Bool :=
 (((decide (a1.Name = a2.Name)) && (decide (a1.Kind = a2.Kind))) && (decide (IntKind.i64.wrap (a1.Moment - a0.Before) ≤ a2.Moment))) && (decide (a2.Moment ≤ IntKind.i64.wrap (a1.Moment + a0.After)))
theorem c145 {g : List (Nat × List Value)} (a0 : S23) (a1 : S151) (a2 : S151)    : Con (EG g) 145 [G.agg [G.int a0.Before, G.int a0.After, G.int a0.Notice, G.int a0.Share, G.sl 1 (List.map cStr a0.Causes), G.int a0.Off, G.int a0.Run], G.agg [G.str a1.Name, G.int a1.Moment, G.str a1.Kind], G.agg [G.str a2.Name, G.int a2.Moment, G.str a2.Kind]] (G.bool (s145 a0 a1 a2)) := by
 generalize hR : s145 a0 a1 a2 = R
 unfold s145 at hR
 refine qp Tryz.func145 rfl rfl fun w0 M0 => ?_
 refine qd ?_
 refine qb [.p, .p, .p, .p] ?_
 refine st rfl rfl (zd rfl rfl) rfl ?_
 refine st rfl rfl (zd rfl rfl) rfl ?_
 refine st rfl rfl (zd rfl rfl) rfl ?_
 refine st rfl rfl (qc rfl rfl) rfl ?_
 refine qe ?_
 refine qd ?_
 refine qb [.p, .p, .p, .p, .p, .p, .p, .p, .p, .p, .p, .p, .p, .p, .p, .p, .p, .p, .p, .p, .p, .p, .p, .p, .p, .p, .p, .p, .p, .p, .p, .p, .p] ?_
 refine st rfl rfl (qf rfl xh rfl) rfl ?_
 refine st rfl rfl (qi rfl ty9 rfl) rfl ?_
 refine st rfl rfl (qf rfl xh rfl) rfl ?_
 refine st rfl rfl (qi rfl ty9 rfl) rfl ?_
 refine st rfl rfl (ju rfl rfl rfl) rfl ?_
 refine st rfl rfl (qa rfl rfl) rfl ?_
 refine st_g rfl rfl rfl (qg _ _) (fun h => qf rfl qbm rfl) rfl ?_
 refine st_g rfl rfl rfl (qg _ _) (fun h => qi rfl ty9 (gd h rfl)) rfl ?_
 refine st_g rfl rfl rfl (qg _ _) (fun h => qf rfl qbm rfl) rfl ?_
 refine st_g rfl rfl rfl (qg _ _) (fun h => qi rfl ty9 (gd h rfl)) rfl ?_
 refine st_g rfl rfl rfl (qg _ _) (fun h => ju rfl (gd h rfl) (gd h rfl)) rfl ?_
 refine st rfl rfl (zf rfl rfl rfl rfl) rfl ?_
 refine st rfl rfl (qa rfl rfl) rfl ?_
 refine st_g rfl rfl rfl (qg _ _) (fun h => qf rfl vd rfl) rfl ?_
 refine st_g rfl rfl rfl (qg _ _) (fun h => qi rfl ty3 (gd h rfl)) rfl ?_
 refine st_g rfl rfl rfl (qg _ _) (fun h => qf rfl vd rfl) rfl ?_
 refine st_g rfl rfl rfl (qg _ _) (fun h => qi rfl ty3 (gd h rfl)) rfl ?_
 refine st_g rfl rfl rfl (qg _ _) (fun h => qf rfl qqa rfl) rfl ?_
 refine st_g rfl rfl rfl (qg _ _) (fun h => qi rfl ty3 (gd h rfl)) rfl ?_
 refine st_g rfl rfl rfl (qg _ _) (fun h => qaw rfl (gd h rfl) (gd h rfl)) rfl ?_
 refine st_g rfl rfl rfl (qg _ _) (fun h => vi rfl (gd h rfl) (gd h rfl)) rfl ?_
 refine st rfl rfl (zf rfl rfl rfl rfl) rfl ?_
 refine st rfl rfl (qa rfl rfl) rfl ?_
 refine st_g rfl rfl rfl (qg _ _) (fun h => qf rfl vd rfl) rfl ?_
 refine st_g rfl rfl rfl (qg _ _) (fun h => qi rfl ty3 (gd h rfl)) rfl ?_
 refine st_g rfl rfl rfl (qg _ _) (fun h => qf rfl vd rfl) rfl ?_
 refine st_g rfl rfl rfl (qg _ _) (fun h => qi rfl ty3 (gd h rfl)) rfl ?_
 refine st_g rfl rfl rfl (qg _ _) (fun h => qf rfl qqb rfl) rfl ?_
 refine st_g rfl rfl rfl (qg _ _) (fun h => qi rfl ty3 (gd h rfl)) rfl ?_
 refine st_g rfl rfl rfl (qg _ _) (fun h => j6 rfl (gd h rfl) (gd h rfl)) rfl ?_
 refine st_g rfl rfl rfl (qg _ _) (fun h => kg rfl (gd h rfl) (gd h rfl)) rfl ?_
 refine st rfl rfl (zf rfl rfl rfl rfl) rfl ?_
 refine st rfl rfl (qc rfl rfl) rfl ?_
 refine qe ?_
 refine qr ?_
 subst hR
 exact zb rfl (rv_g rfl)
def s80_l1 (a1 : Int) : List Int → Nat → Bool
 | [], k2 => false
 | y3 :: t4, k2 => (bif decide (y3 = a1) then true else s80_l1 a1 t4 (k2 + 1))
def s80 (a0 : List Int) (a1 : Int) : Bool :=
 s80_l1 a1 a0 0
theorem c80 {g : List (Nat × List Value)} (a0 : List Int) (a1 : Int)    : Con (EG g) 80 [G.sl 1 (List.map cInt a0), G.int a1] (G.bool (s80 a0 a1)) := by
 generalize hR : s80 a0 a1 = R
 unfold s80 at hR
 refine qp Tryz.func80 rfl rfl fun w0 M0 => ?_
 refine zc (f := cInt) (l := a0) 0 rfl fun hla0 => ?_
 refine qd ?_
 refine qb [.p] ?_
 refine st rfl rfl (qc rfl rfl) rfl ?_
 refine qe ?_
 refine qd ?_
 refine qd ?_
 refine qb [.p] ?_
 refine st rfl rfl (qc rfl rfl) rfl ?_
 refine qe ?_
 refine qn ?_
 refine qx (γ := Nat × (List Int)) (fun g => ([(0, .g (G.sl 1 (List.map cInt a0))), (1, .g (G.int a1)), (5, .g (G.int ((g.1 : Nat) : Int)))], [])) (fun g => a0.drop g.1 = g.2 ∧ s80_l1 a1 g.2 g.1 = R) (fun g => List.length g.2) ⟨rfl, (0, a0), ⟨rfl, rfl, rfl, trivial⟩, trivial, rfl, ⟨rfl, hR⟩, trivial⟩ ?_
 ·rintro ⟨k2, t4⟩ ⟨hd, hR⟩
  replace hd : a0.drop k2 = t4 := hd
  replace hR : s80_l1 a1 t4 k2 = R := hR
  refine qd ?_
  refine qd ?_
  refine qb [.p, .p, .p, .p] ?_
  refine st rfl rfl (qa rfl rfl) rfl ?_
  refine st rfl rfl (qa rfl rfl) rfl ?_
  refine st rfl rfl (q9 (f := cInt) (l := a0) rfl Tryz.underlying82 rfl) rfl ?_
  refine st rfl rfl (ze rfl rfl rfl) rfl ?_
  refine qe ?_
  refine zc (f := cInt) (l := a0) 0 rfl fun hlz1 => ?_
  refine qm _ rfl (fun h1 => ?_) (fun h1 => ?_)
  ·replace h1 : (decide (((k2 : Nat) : Int) < (List.length a0 : Int))) = true := h1
   obtain ⟨y3, t4, rfl, hx1, hd⟩ := zh hd (decT h1)
   replace h1 := decT h1
   rw [s80_l1] at hR
   try dsimp only at hR
   refine qo ?_
   refine qd ?_
   refine qn ?_
   refine qd ?_
   refine qb [.p, .p, .p, .p, .p, .p] ?_
   refine st rfl rfl (qa rfl rfl) rfl ?_
   refine st rfl rfl (qa rfl rfl) rfl ?_
   refine st rfl rfl (zi (f := cInt) (l := a0) (a := y3) rfl Tryz.underlying82 ty3 rfl rfl (Int.natCast_nonneg _) hx1) rfl ?_
   refine st rfl rfl (qi rfl ty3 rfl) rfl ?_
   refine st rfl rfl (qa rfl rfl) rfl ?_
   refine st rfl rfl (jq rfl rfl rfl) rfl ?_
   refine qe ?_
   refine qm _ rfl (fun h3 => ?_) (fun h3 => ?_)
   ·replace h3 : (decide (y3 = a1)) = true := h3
    replace hR := zk hR h3
    refine qd ?_
    refine qb [.p] ?_
    refine st rfl rfl (qc rfl rfl) rfl ?_
    refine qe ?_
    refine qr ?_
    subst hR
    exact zb rfl (rv_g rfl)
   ·replace h3 : (decide (y3 = a1)) = false := h3
    replace hR := zl hR h3
    try simp only [decide_eq_false_iff_not] at h3
    refine qo ?_
    refine qb [.p, .p, .p] ?_
    refine st rfl rfl (qa rfl rfl) rfl ?_
    refine st rfl rfl (zj rfl rfl rfl (by unfold I64; omega)) rfl ?_
    refine st rfl rfl (qc rfl rfl) rfl ?_
    refine qe ?_
    exact ⟨rfl, (k2 + 1, t4), ⟨rfl, rfl, rfl, trivial⟩, trivial, rfl, ⟨hd, hR⟩, by simp⟩
  ·replace h1 : (decide (((k2 : Nat) : Int) < (List.length a0 : Int))) = false := h1
   obtain rfl := zm hd (decF h1)
   rw [s80_l1] at hR
   refine zg ?_
   refine qd ?_
   refine qb [.p] ?_
   refine st rfl rfl (qc rfl rfl) rfl ?_
   refine qe ?_
   refine qr ?_
   subst hR
   exact zb rfl (rv_g rfl)
def s83_l1 (a1 : List Int) : List Int → Nat → Option Bool
 | [], k2 => some true
 | y3 :: t4, k2 => bindO (ixO a1 ((k2 : Nat) : Int)) fun y5 => (bif decide (y3 ≠ y5) then some false else s83_l1 a1 t4 (k2 + 1))
def s83 (a0 : List Int) (a1 : List Int) : Option Bool :=
 (bif decide ((List.length a0 : Int) ≠ (List.length a1 : Int)) then some false else s83_l1 a1 a0 0)
def s169_l2 (rec1 : Nat → (List Int) → Option (List Int)) (a0 : List S151) (x1 : List Int) (k3 : Nat) (y4 : S151) : Nat → Int → Option (List Int)
 | 0, _ => none
 | k7 + 1, x6 => bindO (bif decide (x6 < (List.length x1 : Int)) then ixO x1 x6 else some default) fun y8 => bindO (bif decide (x6 < (List.length x1 : Int)) then ixO a0 y8 else some default) fun y9 => (bif (decide (x6 < (List.length x1 : Int))) && (decide (y9.Moment ≤ y4.Moment)) then s169_l2 rec1 a0 x1 k3 y4 k7 (x6 + 1) else rec1 (k3 + 1) ((([] ++ (List.take (Int.toNat x6) x1)) ++ [((k3 : Nat) : Int)]) ++ (List.drop (Int.toNat x6) x1)))
def s169_l1 (a0 : List S151) : List S151 → Nat → (List Int) → Option (List Int)
 | [], k3, x1 => some x1
 | y4 :: t5, k3, x1 => s169_l2 (fun k_ z0_ => s169_l1 a0 t5 k_ z0_) a0 x1 k3 y4 ((((List.length x1 : Int) - 0).toNat) + 1) 0
def s169 (a0 : List S151) : Option (List Int) :=
 s169_l1 a0 a0 0 []
theorem n169 {g : List (Nat × List Value)} (a0 : List S151) {R : List Int}  (hb0 : a0.length ≤ 12) (hR : s169 a0 = some R) : ConN (EG g) 169 [G.sl 3 (List.map S151.c a0)] 3 1 (List.map cInt R) := by
 unfold s169 at hR
 refine kl Tryz.func169 rfl rfl fun w0 M0 => ?_
 refine zc (f := S151.c) (l := a0) 0 rfl fun hla0 => ?_
 refine qd ?_
 refine qb [.w] ?_
 refine st_w rfl rfl (zu 2 3 1 rfl rfl rfl) rfl ?_
 refine qe ?_
 refine qd ?_
 refine qb [.w] ?_
 refine st_w rfl rfl (zu 3 3 1 rfl rfl rfl) rfl ?_
 refine qe ?_
 refine qd ?_
 refine qd ?_
 refine qb [.p] ?_
 refine st rfl rfl (qc rfl rfl) rfl ?_
 refine qe ?_
 refine qn ?_
 refine qx (γ := Nat × (List S151) × (List Int)) (fun g => ([(0, .g (G.sl 3 (List.map S151.c a0))), (3, .osl 3 1 0 (List.length g.2.2)), (4, .g (G.int ((g.1 : Nat) : Int)))], [(3, .arr 3 1 (List.map cInt g.2.2))])) (fun g => g.2.2.length = g.1 ∧ a0.drop g.1 = g.2.1 ∧ s169_l1 a0 g.2.1 g.1 g.2.2 = some R) (fun g => List.length g.2.1) ⟨rfl, (0, a0, []), ⟨rfl, rfl, rfl, trivial⟩, ⟨rfl, trivial⟩, rfl, ⟨(by first | (simp; done) | (simp; omega)), rfl, hR⟩, trivial⟩ ?_
 ·rintro ⟨k3, t5, x1⟩ ⟨iv1_0, hd, hR⟩
  replace hd : a0.drop k3 = t5 := hd
  replace hR : s169_l1 a0 t5 k3 x1 = some R := hR
  replace iv1_0 : x1.length = k3 := iv1_0
  refine qd ?_
  refine qd ?_
  refine qb [.p, .p, .p, .p] ?_
  refine st rfl rfl (qa rfl rfl) rfl ?_
  refine st rfl rfl (qa rfl rfl) rfl ?_
  refine st rfl rfl (q9 (f := S151.c) (l := a0) rfl Tryz.underlying32 rfl) rfl ?_
  refine st rfl rfl (ze rfl rfl rfl) rfl ?_
  refine qe ?_
  refine zc (f := S151.c) (l := a0) 0 rfl fun hlz1 => ?_
  refine qm _ rfl (fun h1 => ?_) (fun h1 => ?_)
  ·replace h1 : (decide (((k3 : Nat) : Int) < (List.length a0 : Int))) = true := h1
   obtain ⟨y4, t5, rfl, hx1, hd⟩ := zh hd (decT h1)
   replace h1 := decT h1
   rw [s169_l1] at hR
   try dsimp only at hR
   refine qo ?_
   refine qd ?_
   refine qn ?_
   refine qd ?_
   refine qb [.p] ?_
   refine st rfl rfl (qc rfl rfl) rfl ?_
   refine qe ?_
   refine qd ?_
   refine qn ?_
   refine qx (γ := Nat × Int) (fun g => ([(0, .g (G.sl 3 (List.map S151.c a0))), (3, .osl 3 1 0 (List.length x1)), (4, .g (G.int ((k3 : Nat) : Int))), (5, .g (G.int g.2))], [(3, .arr 3 1 (List.map cInt x1))])) (fun g => ((List.length x1 : Int) - g.2).toNat < g.1 ∧ 0 ≤ g.2 ∧ g.2 ≤ (List.length x1 : Int) ∧ s169_l2 (fun k_ z0_ => s169_l1 a0 t5 k_ z0_) a0 x1 k3 y4 g.1 g.2 = some R) (fun g => g.1) ⟨rfl, ((((List.length x1 : Int) - 0).toNat) + 1, 0), ⟨rfl, rfl, rfl, rfl, trivial⟩, ⟨rfl, trivial⟩, rfl, ⟨Nat.lt_succ_self _, (by first | omega | (dsimp only; omega) | simp), (by first | omega | (dsimp only; omega) | simp), hR⟩, trivial⟩ ?_
   ·rintro ⟨k7, x6⟩ ⟨hk2, iv2_0, iv2_1, hR⟩
    replace hk2 : ((List.length x1 : Int) - x6).toNat < k7 := hk2
    replace hR : s169_l2 (fun k_ z0_ => s169_l1 a0 t5 k_ z0_) a0 x1 k3 y4 k7 x6 = some R := hR
    replace iv2_0 : 0 ≤ x6 := iv2_0
    replace iv2_1 : x6 ≤ (List.length x1 : Int) := iv2_1
    obtain ⟨k7, rfl⟩ : ∃ m, k7 = m + 1 := ⟨k7 - 1, by omega⟩
    rw [s169_l2] at hR
    try dsimp only at hR
    refine qd ?_
    refine qd ?_
    obtain ⟨y8, by8, hR⟩ := ql hR
    obtain ⟨y9, by9, hR⟩ := ql hR
    refine zw [.p, .p, .p, .p, .p, .p, .p, .p, .p, .r, .p, .p, .p, .p, .p, .p, .p, .p, .p, .p] (by kernel_rfl) ?_
    refine st rfl rfl (qa rfl rfl) rfl ?_
    refine st rfl rfl (qq rfl rfl) rfl ?_
    refine st rfl rfl (qa1 rfl Tryz.underlying82 rfl) rfl ?_
    refine st rfl rfl (ze rfl rfl rfl) rfl ?_
    refine st rfl rfl (qa rfl rfl) rfl ?_
    refine st_g rfl rfl rfl (qg _ _) (fun h => qa rfl rfl) rfl ?_
    refine st_g rfl rfl rfl (qg _ _) (fun h => qq rfl rfl) rfl ?_
    refine st_g rfl rfl rfl (qg _ _) (fun h => qa rfl rfl) rfl ?_
    refine st_g rfl rfl rfl (qg _ _) (fun h => ji rfl Tryz.underlying82 ty3 (gd h rfl) (gd h rfl) (z7 (jn by8 h)) (Nat.lt_of_lt_of_eq (jf (za (jn by8 h))) rfl)) rfl ?_
    refine qbj rfl rfl rfl (qg _ _) (fun h => xg (f := cInt) (l := x1) (a := y8) rfl ty3 (gd h rfl) rfl (za (jn by8 h)) rfl) rfl ?_
    refine st_g rfl rfl rfl (qg _ _) (fun h => zi (f := S151.c) (l := a0) (a := y9) rfl Tryz.underlying32 km (gd h rfl) (gd h rfl) (z7 (jn by9 h)) (za (jn by9 h))) rfl ?_
    refine st_g rfl rfl rfl (qg _ _) (fun h => qf rfl vd (gd h rfl)) rfl ?_
    refine st_g rfl rfl rfl (qg _ _) (fun h => qi rfl ty3 (gd h rfl)) rfl ?_
    refine st_g rfl rfl rfl (qg _ _) (fun h => qa rfl rfl) rfl ?_
    refine st_g rfl rfl rfl (qg _ _) (fun h => qa rfl rfl) rfl ?_
    refine st_g rfl rfl rfl (qg _ _) (fun h => zi (f := S151.c) (l := a0) (a := y4) rfl Tryz.underlying32 km (gd h rfl) (gd h rfl) (Int.natCast_nonneg _) hx1) rfl ?_
    refine st_g rfl rfl rfl (qg _ _) (fun h => qf rfl vd (gd h rfl)) rfl ?_
    refine st_g rfl rfl rfl (qg _ _) (fun h => qi rfl ty3 (gd h rfl)) rfl ?_
    refine st_g rfl rfl rfl (qg _ _) (fun h => kg rfl (gd h rfl) (gd h rfl)) rfl ?_
    refine st rfl rfl (zf rfl rfl rfl rfl) rfl ?_
    refine qe ?_
    refine qm _ rfl (fun h3 => ?_) (fun h3 => ?_)
    ·replace h3 : ((decide (x6 < (List.length x1 : Int))) && (decide (y9.Moment ≤ y4.Moment))) = true := h3
     replace hR := zk hR h3
     try simp only [Bool.or_eq_true, Bool.and_eq_true, Bool.or_eq_false_iff, Bool.and_eq_false_iff, Bool.not_eq_true', Bool.not_eq_false', decide_eq_true_eq, decide_eq_false_iff_not] at h3
     refine qo ?_
     refine qn ?_
     refine qb [.p, .p, .p] ?_
     refine st rfl rfl (qa rfl rfl) rfl ?_
     refine st rfl rfl (zj rfl rfl rfl (by unfold I64; (try dsimp only); omega)) rfl ?_
     refine st rfl rfl (qc rfl rfl) rfl ?_
     refine qe ?_
     exact ⟨rfl, (k7, x6 + 1), ⟨rfl, rfl, rfl, rfl, trivial⟩, ⟨rfl, trivial⟩, rfl, ⟨(by first | omega | (dsimp only; omega) | (simp at *; omega)), (by first | omega | (dsimp only; omega) | (simp at *; omega)), (by first | omega | (dsimp only; omega) | (simp at *; omega)), hR⟩, by simp⟩
    ·replace h3 : ((decide (x6 < (List.length x1 : Int))) && (decide (y9.Moment ≤ y4.Moment))) = false := h3
     replace hR := zl hR h3
     try simp only [Bool.or_eq_true, Bool.and_eq_true, Bool.or_eq_false_iff, Bool.and_eq_false_iff, Bool.not_eq_true', Bool.not_eq_false', decide_eq_true_eq, decide_eq_false_iff_not] at h3
     refine zg ?_
     refine qb8 [.w, .pn 34, .pn 34, .pn 34, .kn 34, .pn 34, .pn 34, .kn 34, .pn 34, .pn 34, .pn 34, .kn 34, .p] (by kernel_rfl) ?_
     refine st_w rfl rfl (qak (xs := List.map cInt []) 34 rfl Tryz.underlying82 ty3 z3 rfl z4 rfl (by simp []) (by decide) rfl) rfl ?_
     refine kz rfl rfl (qq rfl rfl) rfl rfl rfl ?_
     refine kz rfl rfl (qa rfl rfl) rfl rfl rfl ?_
     refine kz rfl rfl (qbl (a := 0) (c := Int.toNat x6) rfl Tryz.underlying82 ty3 rfl xl (xm rfl (by omega)) (by omega) (by omega)) rfl rfl rfl ?_
     refine qdg rfl rfl (z5 (f := cInt) (out := []) (new := List.take (Int.toNat x6) x1) rfl qie rfl rfl (kc rfl (qex (l := x1) rfl rfl (by simp []) (by omega) (by omega))) (vp rfl) (by simp; omega)) rfl ?_
     refine kz rfl rfl (qa rfl rfl) rfl rfl rfl ?_
     refine kz rfl rfl (qu rfl Tryz.underlying82 ty3 z3 rfl (qw rfl z4) rfl (by simp []) (by decide)) rfl rfl rfl ?_
     refine qdg rfl rfl (z5 (f := cInt) (out := [] ++ (List.take (Int.toNat x6) x1)) (new := [((k3 : Nat) : Int)]) rfl qie rfl rfl (kc rfl (vc (by decide) (by simp []))) (vp rfl) (by simp; omega)) rfl ?_
     refine kz rfl rfl (qq rfl rfl) rfl rfl rfl ?_
     refine kz rfl rfl (qa rfl rfl) rfl rfl rfl ?_
     refine kz rfl rfl (qbl (a := Int.toNat x6) (c := List.length x1) rfl Tryz.underlying82 ty3 rfl (xm rfl (by omega)) xl (by omega) (by omega)) rfl rfl rfl ?_
     refine qdg rfl rfl (z5 (f := cInt) (out := ([] ++ (List.take (Int.toNat x6) x1)) ++ [((k3 : Nat) : Int)]) (new := List.drop (Int.toNat x6) x1) rfl qie rfl rfl (kc rfl (qey (l := x1) rfl rfl (by simp []) (by omega) (by omega))) (vp rfl) (by simp; omega)) rfl ?_
     refine st rfl rfl (qy rfl rfl) rfl ?_
     refine qe ?_
     refine qtx [(3, 34)] (l := [(0, .g (G.sl 3 (List.map S151.c a0))), (3, .osl 3 1 0 (List.length ((([] ++ (List.take (Int.toNat x6) x1)) ++ [((k3 : Nat) : Int)]) ++ (List.drop (Int.toNat x6) x1)))), (4, .g (G.int ((k3 : Nat) : Int)))]) (m := [(3, .arr 3 1 (List.map cInt ((([] ++ (List.take (Int.toNat x6) x1)) ++ [((k3 : Nat) : Int)]) ++ (List.drop (Int.toNat x6) x1))))]) ⟨rfl, rfl, rfl, trivial⟩ ⟨rfl, trivial⟩ rfl rfl ?_
     refine qb [.p, .p, .p] ?_
     refine st rfl rfl (qa rfl rfl) rfl ?_
     refine st rfl rfl (zj rfl rfl rfl (by unfold I64; omega)) rfl ?_
     refine st rfl rfl (qc rfl rfl) rfl ?_
     refine qe ?_
     exact ⟨rfl, (k3 + 1, t5, (([] ++ (List.take (Int.toNat x6) x1)) ++ [((k3 : Nat) : Int)]) ++ (List.drop (Int.toNat x6) x1)), ⟨rfl, rfl, rfl, trivial⟩, ⟨rfl, trivial⟩, rfl, ⟨(by first | omega | (dsimp only; omega) | (simp at *; omega)), hd, hR⟩, by simp⟩
  ·replace h1 : (decide (((k3 : Nat) : Int) < (List.length a0 : Int))) = false := h1
   obtain rfl := zm hd (decF h1)
   rw [s169_l1] at hR
   refine zg ?_
   refine qd ?_
   refine qb [.p, .p] ?_
   refine st rfl rfl (qq rfl rfl) rfl ?_
   refine st rfl rfl (qy rfl rfl) rfl ?_
   refine qe ?_
   refine qr ?_
   obtain rfl := Option.some.inj hR
   exact kx rfl rfl rfl ((List.length_map ..).trans rfl)
theorem c169 {g : List (Nat × List Value)} (a0 : List S151) {R : List Int}  (hb0 : a0.length ≤ 12) (hR : s169 a0 = some R) : Con (EG g) 169 [G.sl 3 (List.map S151.c a0)] (G.sl 1 (List.map cInt R)) :=
 ConN.con (by decide) (n169 a0 hb0 hR)
def s48 (a0 : S23) (a1 : List S151) (a2 : List S151) : Int :=
 (s35 [(s24 (s18 a0)), (s26 (s20 a1)), (s26 (s20 a2))])
def s49 (a0 : List Int) (a1 : Int) (a2 : Int) (a3 : List Int) : Option Bool :=
 (bif decide (a2 ≠ 0) then some ((decide ((List.length a0 : Int) = 0)) && (decide (a1 = a2))) else bindO (bif decide (a1 = 0) then s83 a0 a3 else some default) fun r1 => some ((decide (a1 = 0)) && r1))
def s50_l1 (a1 : List S154) : List S154 → Nat → Option Bool
 | [], k2 => some true
 | y3 :: t4, k2 => bindO (ixO a1 ((k2 : Nat) : Int)) fun y5 => (bif !(eqAnd [decide (y3.Slot = y5.Slot), decide (y3.Record = y5.Record)]) then some false else s50_l1 a1 t4 (k2 + 1))
def s50 (a0 : List S154) (a1 : List S154) : Option Bool :=
 (bif decide ((List.length a0 : Int) ≠ (List.length a1 : Int)) then some false else s50_l1 a1 a0 0)
def s51_l1  : List S154 → Nat → (List S154) → List S154
 | [], k3, x1 => x1
 | y4 :: t5, k3, x1 => s51_l1  t5 (k3 + 1) (x1 ++ [y4])
def s51 (a0 : List S154) : List S154 :=
 s51_l1 a0 0 []
end Go.Sim
namespace Go.Sim
theorem qgy (rec1 : Nat → List Int → Option (List Int)) (n : Nat) (a0 : List S151) (x1 : List Int) (hrec : ∀ k x r, rec1 k x = some r → r.length = x.length + n) (k3 : Nat) (y4 : S151) : ∀ (k : Nat) (x : Int) (r : List Int), s169_l2 rec1 a0 x1 k3 y4 k x = some r → r.length = x1.length + (n + 1)
 | 0, _, _, h => by rw [s169_l2] at h; cases h
 | k + 1, x, r, h => by
  rw [s169_l2] at h
  obtain ⟨z1, _, h⟩ := ql h
  obtain ⟨z2, _, h⟩ := ql h
  cases hc : ((decide (x < (List.length x1 : Int))) && (decide (z2.Moment ≤ y4.Moment))) with
  | true => exact qgy rec1 n a0 x1 hrec k3 y4 k _ _ (zk h hc)
  | false =>
   have := hrec _ _ _ (zl h hc)
   rw [this]
   simp
   omega
theorem qgz (a0 : List S151) : ∀ (l : List S151) (k : Nat) (x r : List Int), s169_l1 a0 l k x = some r → r.length = x.length + l.length
 | [], k, x, r, h => by rw [s169_l1] at h; cases h; simp
 | y :: l, k, x, r, h => by
  rw [s169_l1] at h
  have := qgy _ l.length a0 x (fun k x r h => qgz a0 l k x r h) k y _ _ _ h
  simpa using this
theorem qug {a0 : List S151} {r : List Int} (h : s169 a0 = some r) : r.length = a0.length := by
 have := qgz _ _ _ _ _ h
 simpa using this
end Go.Sim
set_option linter.unusedSimpArgs false
set_option linter.unusedVariables false
set_option maxRecDepth 10000
namespace Go.Sim
open Go.Proofs
def s120_j1 (rec1 : Nat → (List S154) → (List Int) → Option (List S154)) (k5 : Nat) (x8 : List S154) (x9 : List Int) : Option (List S154) :=
 rec1 (k5 + 1) x8 x9
def s120_j2 (rec2 : Nat → Int → Option (List S154)) (k12 : Nat) (x15 : Int) : Option (List S154) :=
 rec2 (k12 + 1) x15
def s120_l2 (rec1 : Nat → (List S154) → (List Int) → Option (List S154)) (a0 : S23) (a1 : List S151) (a2 : List S151) (x2 : List S154) (x3 : List Int) (k5 : Nat) (y6 : Int) : List S151 → Nat → Int → Option (List S154)
 | [], k12, x10 => (bif decide (0 ≤ x10) then s120_j1 rec1 k5 (x2 ++ [(S154.mk y6 x10)]) (x3 ++ [x10]) else s120_j1 rec1 k5 x2 x3)
 | y13 :: t14, k12, x10 => bindO (ixO a1 y6) fun y16 => bindO (bif ((s145 a0 y16 y13) && (!(s80 x3 ((k12 : Nat) : Int)))) && (!(decide (x10 < 0))) then ixO a2 x10 else some default) fun y17 => (bif ((s145 a0 y16 y13) && (!(s80 x3 ((k12 : Nat) : Int)))) && ((decide (x10 < 0)) || (decide (y13.Moment < y17.Moment))) then s120_j2 (fun k_ z0_ => s120_l2 rec1 a0 a1 a2 x2 x3 k5 y6 t14 k_ z0_) k12 ((k12 : Nat) : Int) else s120_j2 (fun k_ z0_ => s120_l2 rec1 a0 a1 a2 x2 x3 k5 y6 t14 k_ z0_) k12 x10)
def s120_l1 (a0 : S23) (a1 : List S151) (a2 : List S151) : List Int → Nat → (List S154) → (List Int) → Option (List S154)
 | [], k5, x2, x3 => some x2
 | y6 :: t7, k5, x2, x3 => s120_l2 (fun k_ z0_ z1_ => s120_l1 a0 a1 a2 t7 k_ z0_ z1_) a0 a1 a2 x2 x3 k5 y6 a2 0 (-1)
def s120 (a0 : S23) (a1 : List S151) (a2 : List S151) : Option (List S154) :=
 bindO (s169 a1) fun r1 => s120_l1 a0 a1 a2 r1 0 [] []
theorem n120 {g : List (Nat × List Value)} (a0 : S23) (a1 : List S151) (a2 : List S151) {R : List S154}  (hb1 : a1.length ≤ 12) (hb2 : a2.length ≤ 12) (hR : s120 a0 a1 a2 = some R) : ConN (EG g) 120 [G.agg [G.int a0.Before, G.int a0.After, G.int a0.Notice, G.int a0.Share, G.sl 1 (List.map cStr a0.Causes), G.int a0.Off, G.int a0.Run], G.sl 3 (List.map S151.c a1), G.sl 3 (List.map S151.c a2)] 158 2 (List.map S154.c R) := by
 unfold s120 at hR
 refine kl Tryz.func120 rfl rfl fun w0 M0 => ?_
 refine zc (f := S151.c) (l := a1) 1 rfl fun hla1 => ?_
 refine zc (f := S151.c) (l := a2) 2 rfl fun hla2 => ?_
 refine qd ?_
 refine qb [.p, .w] ?_
 refine st rfl rfl (zd rfl rfl) rfl ?_
 refine st_w rfl rfl (zu 6 158 2 rfl rfl rfl) rfl ?_
 refine qe ?_
 refine qd ?_
 refine qb [.w] ?_
 refine st_w rfl rfl (zu 7 158 2 rfl rfl rfl) rfl ?_
 refine qe ?_
 refine qd ?_
 refine qb [.w] ?_
 refine st_w rfl rfl (zu 8 3 1 rfl rfl rfl) rfl ?_
 refine qe ?_
 refine qd ?_
 obtain ⟨r1, br1, hR⟩ := ql hR
 refine qb [.p, .p, .p] ?_
 refine st rfl rfl (qa rfl rfl) rfl ?_
 refine st rfl rfl (qj rfl K169 rfl (c169 a1 (by first | assumption | omega | (simp [qv]; omega)) br1) (qh rfl qk)) rfl ?_
 refine st rfl rfl (qc rfl rfl) rfl ?_
 refine qe ?_
 have hl1 := qug br1
 refine qd ?_
 refine qd ?_
 refine qb [.p] ?_
 refine st rfl rfl (qc rfl rfl) rfl ?_
 refine qe ?_
 refine qn ?_
 refine qx (γ := Nat × (List Int) × (List S154) × (List Int)) (fun g => ([(1, .g (G.sl 3 (List.map S151.c a1))), (2, .g (G.sl 3 (List.map S151.c a2))), (3, .g (G.ref [G.int a0.Before, G.int a0.After, G.int a0.Notice, G.int a0.Share, G.sl 1 (List.map cStr a0.Causes), G.int a0.Off, G.int a0.Run])), (7, .osl 7 2 0 (List.length g.2.2.1)), (8, .osl 8 1 0 (List.length g.2.2.2)), (9, .g (G.sl 1 (List.map cInt r1))), (10, .g (G.int ((g.1 : Nat) : Int)))], [(7, .arr 158 2 (List.map S154.c g.2.2.1)), (8, .arr 3 1 (List.map cInt g.2.2.2))])) (fun g => g.2.2.1.length ≤ g.1 ∧ g.2.2.2.length ≤ g.1 ∧ r1.drop g.1 = g.2.1 ∧ s120_l1 a0 a1 a2 g.2.1 g.1 g.2.2.1 g.2.2.2 = some R) (fun g => List.length g.2.1) ⟨rfl, (0, r1, [], []), ⟨rfl, rfl, rfl, rfl, rfl, rfl, rfl, trivial⟩, ⟨rfl, rfl, trivial⟩, rfl, ⟨(by first | (simp; done) | (simp; omega)), (by first | (simp; done) | (simp; omega)), rfl, hR⟩, trivial⟩ ?_
 ·rintro ⟨k5, t7, x2, x3⟩ ⟨iv1_0, iv1_1, hd, hR⟩
  replace hd : r1.drop k5 = t7 := hd
  replace hR : s120_l1 a0 a1 a2 t7 k5 x2 x3 = some R := hR
  replace iv1_0 : x2.length ≤ k5 := iv1_0
  replace iv1_1 : x3.length ≤ k5 := iv1_1
  refine qd ?_
  refine qd ?_
  refine qb [.p, .p, .p, .p] ?_
  refine st rfl rfl (qa rfl rfl) rfl ?_
  refine st rfl rfl (qa rfl rfl) rfl ?_
  refine st rfl rfl (q9 (f := cInt) (l := r1) rfl Tryz.underlying82 rfl) rfl ?_
  refine st rfl rfl (ze rfl rfl rfl) rfl ?_
  refine qe ?_
  refine zc (f := cInt) (l := r1) 9 rfl fun hlz1 => ?_
  refine qm _ rfl (fun h1 => ?_) (fun h1 => ?_)
  ·replace h1 : (decide (((k5 : Nat) : Int) < (List.length r1 : Int))) = true := h1
   obtain ⟨y6, t7, rfl, hx1, hd⟩ := zh hd (decT h1)
   replace h1 := decT h1
   rw [s120_l1] at hR
   try dsimp only at hR
   refine qo ?_
   refine jt (γ := (List S154) × (List Int)) (fun g => ([(1, .g (G.sl 3 (List.map S151.c a1))), (2, .g (G.sl 3 (List.map S151.c a2))), (3, .g (G.ref [G.int a0.Before, G.int a0.After, G.int a0.Notice, G.int a0.Share, G.sl 1 (List.map cStr a0.Causes), G.int a0.Off, G.int a0.Run])), (7, .osl 7 2 0 (List.length g.1)), (8, .osl 8 1 0 (List.length g.2)), (9, .g (G.sl 1 (List.map cInt r1))), (10, .g (G.int ((k5 : Nat) : Int)))], [(7, .arr 158 2 (List.map S154.c g.1)), (8, .arr 3 1 (List.map cInt g.2))])) (fun g => g.1.length ≤ k5 + 1 ∧ g.2.length ≤ k5 + 1 ∧ s120_j1 (fun k_ z0_ z1_ => s120_l1 a0 a1 a2 t7 k_ z0_ z1_) k5 g.1 g.2 = some R) ?_ ?_
   ·refine qn ?_
    refine qd ?_
    refine qb [.p] ?_
    refine st rfl rfl (qc rfl rfl) rfl ?_
    refine qe ?_
    refine qd ?_
    refine qd ?_
    refine qb [.p] ?_
    refine st rfl rfl (qc rfl rfl) rfl ?_
    refine qe ?_
    refine qn ?_
    refine qx (γ := Nat × (List S151) × Int) (fun g => ([(1, .g (G.sl 3 (List.map S151.c a1))), (2, .g (G.sl 3 (List.map S151.c a2))), (3, .g (G.ref [G.int a0.Before, G.int a0.After, G.int a0.Notice, G.int a0.Share, G.sl 1 (List.map cStr a0.Causes), G.int a0.Off, G.int a0.Run])), (7, .osl 7 2 0 (List.length x2)), (8, .osl 8 1 0 (List.length x3)), (9, .g (G.sl 1 (List.map cInt r1))), (10, .g (G.int ((k5 : Nat) : Int))), (11, .g (G.int g.2.2)), (12, .g (G.int ((g.1 : Nat) : Int)))], [(7, .arr 158 2 (List.map S154.c x2)), (8, .arr 3 1 (List.map cInt x3))])) (fun g => a2.drop g.1 = g.2.1 ∧ s120_l2 (fun k_ z0_ z1_ => s120_l1 a0 a1 a2 t7 k_ z0_ z1_) a0 a1 a2 x2 x3 k5 y6 g.2.1 g.1 g.2.2 = some R) (fun g => List.length g.2.1) ⟨rfl, (0, a2, (-1)), ⟨rfl, rfl, rfl, rfl, rfl, rfl, rfl, rfl, rfl, trivial⟩, ⟨rfl, rfl, trivial⟩, rfl, ⟨rfl, hR⟩, trivial⟩ ?_
    ·rintro ⟨k12, t14, x10⟩ ⟨hd, hR⟩
     replace hd : a2.drop k12 = t14 := hd
     replace hR : s120_l2 (fun k_ z0_ z1_ => s120_l1 a0 a1 a2 t7 k_ z0_ z1_) a0 a1 a2 x2 x3 k5 y6 t14 k12 x10 = some R := hR
     refine qd ?_
     refine qd ?_
     refine qb [.p, .p, .p, .p] ?_
     refine st rfl rfl (qa rfl rfl) rfl ?_
     refine st rfl rfl (qa rfl rfl) rfl ?_
     refine st rfl rfl (q9 (f := S151.c) (l := a2) rfl Tryz.underlying32 rfl) rfl ?_
     refine st rfl rfl (ze rfl rfl rfl) rfl ?_
     refine qe ?_
     refine zc (f := S151.c) (l := a2) 2 rfl fun hlz2 => ?_
     refine qm _ rfl (fun h3 => ?_) (fun h3 => ?_)
     ·replace h3 : (decide (((k12 : Nat) : Int) < (List.length a2 : Int))) = true := h3
      obtain ⟨y13, t14, rfl, hx2, hd⟩ := zh hd (decT h3)
      replace h3 := decT h3
      rw [s120_l2] at hR
      try dsimp only at hR
      refine qo ?_
      refine jt (γ := Int) (fun g => ([(1, .g (G.sl 3 (List.map S151.c a1))), (2, .g (G.sl 3 (List.map S151.c a2))), (3, .g (G.ref [G.int a0.Before, G.int a0.After, G.int a0.Notice, G.int a0.Share, G.sl 1 (List.map cStr a0.Causes), G.int a0.Off, G.int a0.Run])), (7, .osl 7 2 0 (List.length x2)), (8, .osl 8 1 0 (List.length x3)), (9, .g (G.sl 1 (List.map cInt r1))), (10, .g (G.int ((k5 : Nat) : Int))), (11, .g (G.int g)), (12, .g (G.int ((k12 : Nat) : Int)))], [(7, .arr 158 2 (List.map S154.c x2)), (8, .arr 3 1 (List.map cInt x3))])) (fun g => s120_j2 (fun k_ z0_ => s120_l2 (fun k_ z0_ z1_ => s120_l1 a0 a1 a2 t7 k_ z0_ z1_) a0 a1 a2 x2 x3 k5 y6 t14 k_ z0_) k12 g = some R) ?_ ?_
      ·refine qn ?_
       refine qd ?_
       obtain ⟨y16, by16, hR⟩ := ql hR
       obtain ⟨y17, by17, hR⟩ := ql hR
       refine zw [.p, .p, .p, .p, .p, .p, .p, .p, .p, .p, .p, .p, .p, .p, .p, .p, .r, .p, .p, .p, .p, .p, .p, .p, .p, .p, .p, .p, .p, .p, .p, .p, .p, .p, .p, .p] (by kernel_rfl) ?_
       refine st rfl rfl (qt rfl ty29 rfl rfl rfl) rfl ?_
       refine st rfl rfl (qa rfl rfl) rfl ?_
       refine st rfl rfl (qa rfl rfl) rfl ?_
       refine st rfl rfl (qa rfl rfl) rfl ?_
       refine st rfl rfl (zi (f := cInt) (l := r1) (a := y6) rfl Tryz.underlying82 ty3 rfl rfl (Int.natCast_nonneg _) hx1) rfl ?_
       refine st rfl rfl (qi rfl ty3 rfl) rfl ?_
       refine st rfl rfl (zi (f := S151.c) (l := a1) (a := y16) rfl Tryz.underlying32 km rfl rfl (z7 by16) (za by16)) rfl ?_
       refine st rfl rfl (qt rfl km rfl rfl rfl) rfl ?_
       refine st rfl rfl (qa rfl rfl) rfl ?_
       refine st rfl rfl (qa rfl rfl) rfl ?_
       refine st rfl rfl (zi (f := S151.c) (l := a2) (a := y13) rfl Tryz.underlying32 km rfl rfl (Int.natCast_nonneg _) hx2) rfl ?_
       refine st rfl rfl (qt rfl km rfl rfl rfl) rfl ?_
       refine st rfl rfl (qj rfl K145 rfl (c145 a0 y16 y13) (qh rfl (qh rfl (qh rfl qk)))) rfl ?_
       refine st rfl rfl (qa rfl rfl) rfl ?_
       refine st_g rfl rfl rfl (qg _ _) (fun h => qq rfl rfl) rfl ?_
       refine st_g rfl rfl rfl (qg _ _) (fun h => qa rfl rfl) rfl ?_
       refine qbj rfl rfl rfl (qg _ _) (fun h => qma rfl K80 rfl (c80 x3 ((k12 : Nat) : Int)) (qh9 (gd h rfl) rfl (qa2 (gd h rfl) qh8))) rfl ?_
       refine st_g rfl rfl rfl (qg _ _) (fun h => jx rfl (gd h rfl)) rfl ?_
       refine st rfl rfl (zf rfl rfl rfl rfl) rfl ?_
       refine st rfl rfl (qa rfl rfl) rfl ?_
       refine st_g rfl rfl rfl (qg _ _) (fun h => qa rfl rfl) rfl ?_
       refine st_g rfl rfl rfl (qg _ _) (fun h => ze rfl (gd h rfl) rfl) rfl ?_
       refine st_g rfl rfl rfl (qg _ _) (fun h => qa rfl (gd h rfl)) rfl ?_
       refine st_g rfl rfl rfl (zq _ _ _) (fun h => qa rfl rfl) rfl ?_
       refine st_g rfl rfl rfl (zq _ _ _) (fun h => qa rfl rfl) rfl ?_
       refine st_g rfl rfl rfl (zq _ _ _) (fun h => zi (f := S151.c) (l := a2) (a := y13) rfl Tryz.underlying32 km (gd h rfl) (gd h rfl) (Int.natCast_nonneg _) hx2) rfl ?_
       refine st_g rfl rfl rfl (zq _ _ _) (fun h => qf rfl vd (gd h rfl)) rfl ?_
       refine st_g rfl rfl rfl (zq _ _ _) (fun h => qi rfl ty3 (gd h rfl)) rfl ?_
       refine st_g rfl rfl rfl (zq _ _ _) (fun h => qa rfl rfl) rfl ?_
       refine st_g rfl rfl rfl (zq _ _ _) (fun h => qa rfl rfl) rfl ?_
       refine st_g rfl rfl rfl (zq _ _ _) (fun h => zi (f := S151.c) (l := a2) (a := y17) rfl Tryz.underlying32 km (gd h rfl) (gd h rfl) (z7 (qty by17 h)) (za (qty by17 h))) rfl ?_
       refine st_g rfl rfl rfl (zq _ _ _) (fun h => qf rfl vd (gd h rfl)) rfl ?_
       refine st_g rfl rfl rfl (zq _ _ _) (fun h => qi rfl ty3 (gd h rfl)) rfl ?_
       refine st_g rfl rfl rfl (zq _ _ _) (fun h => ze rfl (gd h rfl) (gd h rfl)) rfl ?_
       refine st_g rfl rfl rfl (qg _ _) (fun h => z8 rfl (gd h rfl) rfl (gd2 h rfl)) rfl ?_
       refine st rfl rfl (zf rfl rfl rfl rfl) rfl ?_
       refine qe ?_
       refine qm _ rfl (fun h6 => ?_) (fun h6 => ?_)
       ·replace h6 : (((s145 a0 y16 y13) && (!(s80 x3 ((k12 : Nat) : Int)))) && ((decide (x10 < 0)) || (decide (y13.Moment < y17.Moment)))) = true := h6
        replace hR := zk hR h6
        refine qb [.p, .p] ?_
        refine st rfl rfl (qa rfl rfl) rfl ?_
        refine st rfl rfl (qc rfl rfl) rfl ?_
        refine qe ?_
        exact ⟨rfl, ((k12 : Nat) : Int), ⟨rfl, rfl, rfl, rfl, rfl, rfl, rfl, rfl, rfl, trivial⟩, ⟨rfl, rfl, trivial⟩, rfl, hR, trivial⟩
       ·replace h6 : (((s145 a0 y16 y13) && (!(s80 x3 ((k12 : Nat) : Int)))) && ((decide (x10 < 0)) || (decide (y13.Moment < y17.Moment)))) = false := h6
        replace hR := zl hR h6
        refine qo ?_
        exact ⟨rfl, x10, ⟨rfl, rfl, rfl, rfl, rfl, rfl, rfl, rfl, rfl, trivial⟩, ⟨rfl, rfl, trivial⟩, rfl, hR, trivial⟩
      ·rintro x15 hR
       replace hR : s120_j2 (fun k_ z0_ => s120_l2 (fun k_ z0_ z1_ => s120_l1 a0 a1 a2 t7 k_ z0_ z1_) a0 a1 a2 x2 x3 k5 y6 t14 k_ z0_) k12 x15 = some R := hR
       unfold s120_j2 at hR
       refine qb [.p, .p, .p] ?_
       refine st rfl rfl (qa rfl rfl) rfl ?_
       refine st rfl rfl (zj rfl rfl rfl (by unfold I64; omega)) rfl ?_
       refine st rfl rfl (qc rfl rfl) rfl ?_
       refine qe ?_
       exact ⟨rfl, (k12 + 1, t14, x15), ⟨rfl, rfl, rfl, rfl, rfl, rfl, rfl, rfl, rfl, trivial⟩, ⟨rfl, rfl, trivial⟩, rfl, ⟨hd, hR⟩, by simp⟩
     ·replace h3 : (decide (((k12 : Nat) : Int) < (List.length a2 : Int))) = false := h3
      obtain rfl := zm hd (decF h3)
      rw [s120_l2] at hR
      refine zg ?_
      refine qd ?_
      refine qb [.p, .p] ?_
      refine st rfl rfl (qa rfl rfl) rfl ?_
      refine st rfl rfl (vi rfl rfl rfl) rfl ?_
      refine qe ?_
      refine qm _ rfl (fun h5 => ?_) (fun h5 => ?_)
      ·replace h5 : (decide (0 ≤ x10)) = true := h5
       replace hR := zk hR h5
       try simp only [decide_eq_true_eq] at h5
       refine qd ?_
       refine qb [.p, .p, .p, .p, .p, .p, .p, .p, .k, .p] ?_
       refine st rfl rfl (qq rfl rfl) rfl ?_
       refine st rfl rfl (qa rfl rfl) rfl ?_
       refine st rfl rfl (qa rfl rfl) rfl ?_
       refine st rfl rfl (zi (f := cInt) (l := r1) (a := y6) rfl Tryz.underlying82 ty3 rfl rfl (Int.natCast_nonneg _) hx1) rfl ?_
       refine st rfl rfl (qi rfl ty3 rfl) rfl ?_
       refine st rfl rfl (qa rfl rfl) rfl ?_
       refine st rfl rfl (vk rfl z158 rfl qwj (j9 rfl (j9 rfl qaz)) rfl) rfl ?_
       refine st rfl rfl (qu rfl Tryz.underlying89 qt1 z158 rfl (qw rfl z4) rfl (by exact lens rfl) (by decide)) rfl ?_
       refine st_k rfl rfl (z5 (f := S154.c) (out := x2) (new := [(S154.mk y6 x10)]) rfl qwk rfl rfl (kc rfl (vc (by decide) (by simp [S154.c]))) (vp rfl) (by simp; omega)) rfl ?_
       refine st rfl rfl (qy rfl rfl) rfl ?_
       refine qe ?_
       refine qb [.p, .p, .p, .k, .p] ?_
       refine st rfl rfl (qq rfl rfl) rfl ?_
       refine st rfl rfl (qa rfl rfl) rfl ?_
       refine st rfl rfl (qu rfl Tryz.underlying82 ty3 z3 rfl (qw rfl z4) rfl (by simp []) (by decide)) rfl ?_
       refine st_k rfl rfl (z5 (f := cInt) (out := x3) (new := [x10]) rfl qie rfl rfl (kc rfl (vc (by decide) (by simp []))) (vp rfl) (by simp; omega)) rfl ?_
       refine st rfl rfl (qy rfl rfl) rfl ?_
       refine qe ?_
       exact ⟨rfl, (x2 ++ [(S154.mk y6 x10)], x3 ++ [x10]), ⟨rfl, rfl, rfl, rfl, rfl, rfl, rfl, trivial⟩, ⟨rfl, rfl, trivial⟩, rfl, ⟨(by first | omega | (dsimp only; omega) | (simp at *; done) | (simp at *; omega)), (by first | omega | (dsimp only; omega) | (simp at *; done) | (simp at *; omega)), hR⟩, trivial⟩
      ·replace h5 : (decide (0 ≤ x10)) = false := h5
       replace hR := zl hR h5
       try simp only [decide_eq_false_iff_not] at h5
       refine qo ?_
       exact ⟨rfl, (x2, x3), ⟨rfl, rfl, rfl, rfl, rfl, rfl, rfl, trivial⟩, ⟨rfl, rfl, trivial⟩, rfl, ⟨(by first | omega | (dsimp only; omega) | (simp at *; done) | (simp at *; omega)), (by first | omega | (dsimp only; omega) | (simp at *; done) | (simp at *; omega)), hR⟩, trivial⟩
   ·rintro ⟨x8, x9⟩ ⟨jv2_0, jv2_1, hR⟩
    replace jv2_0 : x8.length ≤ k5 + 1 := jv2_0
    replace jv2_1 : x9.length ≤ k5 + 1 := jv2_1
    replace hR : s120_j1 (fun k_ z0_ z1_ => s120_l1 a0 a1 a2 t7 k_ z0_ z1_) k5 x8 x9 = some R := hR
    unfold s120_j1 at hR
    refine qb [.p, .p, .p] ?_
    refine st rfl rfl (qa rfl rfl) rfl ?_
    refine st rfl rfl (zj rfl rfl rfl (by unfold I64; omega)) rfl ?_
    refine st rfl rfl (qc rfl rfl) rfl ?_
    refine qe ?_
    exact ⟨rfl, (k5 + 1, t7, x8, x9), ⟨rfl, rfl, rfl, rfl, rfl, rfl, rfl, trivial⟩, ⟨rfl, rfl, trivial⟩, rfl, ⟨(by first | omega | (dsimp only; omega) | (simp at *; omega)), (by first | omega | (dsimp only; omega) | (simp at *; omega)), hd, hR⟩, by simp⟩
  ·replace h1 : (decide (((k5 : Nat) : Int) < (List.length r1 : Int))) = false := h1
   obtain rfl := zm hd (decF h1)
   rw [s120_l1] at hR
   refine zg ?_
   refine qd ?_
   refine qb [.p, .p] ?_
   refine st rfl rfl (qq rfl rfl) rfl ?_
   refine st rfl rfl (qy rfl rfl) rfl ?_
   refine qe ?_
   refine qr ?_
   obtain rfl := Option.some.inj hR
   exact kx rfl rfl rfl ((List.length_map ..).trans rfl)
end Go.Sim
namespace Go.Sim
end Go.Sim
namespace Go.Sim
def idxs (n : Nat) : List Int := List.map (fun i : Nat => (i : Int)) (List.range n)
theorem qe9 (n : Nat) : (idxs n).length = n := by simp [idxs]
theorem xn {n : Nat} {i : Int} : i ∈ idxs n ↔ 0 ≤ i ∧ i.toNat < n := by
 simp only [idxs, List.mem_map, List.mem_range]
 constructor
 ·rintro ⟨a, h, rfl⟩; simp; exact h
 ·rintro ⟨h1, h2⟩; exact ⟨i.toNat, h2, by omega⟩
theorem qbd (n : Nat) : idxs (n + 1) = idxs n ++ [(n : Int)] := by simp [idxs, List.range_succ]
theorem qnh (n : Nat) : (idxs n).Pairwise (· < ·) := by
 unfold idxs
 rw [List.pairwise_map]
 exact List.pairwise_lt_range.imp fun h => by omega
theorem qlf (n : Nat) : (idxs n).Nodup := (qnh n).imp fun h => by omega
theorem qqc {α : Type} {l : List α} {i : Int} (h0 : 0 ≤ i) (h : i.toNat < l.length) : ixO l i = some l[i.toNat] := by
 unfold ixO; rw [decide_eq_true h0, cond_true, List.getElem?_eq_getElem h]
theorem xp {α : Type} {l : List α} {i : Int} (h : i ∈ idxs l.length) : ∃ x, ixO l i = some x ∧ l[i.toNat]? = some x := by
 obtain ⟨h1, h2⟩ := xn.1 h
 exact ⟨_, qqc h1 h2, List.getElem?_eq_getElem h2⟩
theorem qc5 {α : Type} {l : List α} {i : Nat} {x : α} (h : l[i]? = some x) : ixO l (i : Int) = some x := by
 unfold ixO; rw [decide_eq_true (by omega), cond_true]; simpa using h
def momI (l : List S151) (i : Int) : Int := match l[i.toNat]? with
 | some s => s.Moment
 | none => 0
theorem qam {l : List S151} {i : Int} {x : S151} (h : l[i.toNat]? = some x) : momI l i = x.Moment := by unfold momI; rw [h]
def RelM (l : List S151) (i j : Int) : Prop := momI l i < momI l j ∨ (momI l i = momI l j ∧ i < j)
theorem RelM.tr {l : List S151} (a b c : Int) (h : RelM l a b) (k : RelM l b c) : RelM l a c := by unfold RelM at *; omega
theorem RelM.as {l : List S151} {a b : Int} (h : RelM l a b) (k : RelM l b a) : False := by unfold RelM at *; omega
def ordI (l : List S151) : List Int := isort (fun i j => decide (momI l i < momI l j)) (idxs l.length)
theorem qc6 (l : List S151) : (ordI l).Perm (idxs l.length) := vx _ _
theorem wk {l : List S151} {i : Int} : i ∈ ordI l ↔ i ∈ idxs l.length := (qc6 l).mem_iff
theorem qlg (l : List S151) : (ordI l).Nodup := (qc6 l).nodup_iff.2 (qlf _)
theorem qc7 (l : List S151) : (ordI l).Pairwise (RelM l) := by
 refine w5 RelM.tr ((qnh l.length).imp ?_)
 intro y x hyx
 simp only [decide_eq_true_eq, decide_eq_false_iff_not]
 unfold RelM
 constructor <;> intro h <;> omega
theorem qio {l : List S151} {Q : List Int} (hp : Q.Perm (idxs l.length)) (hs : Q.Pairwise (RelM l)) : Q = ordI l :=
 xc (hp.trans (qc6 l).symm) hs (qc7 l) fun _ _ _ _ h k => (RelM.as h k).elim
theorem qr7 (a b : Int) : decide (s167 a b < 0) = decide (a < b) := by
 have h : ∀ x, s202 x = false := fun x => by unfold s202; simp
 unfold s167
 rw [h, h]
 by_cases h1 : a < b
 ·simp [h1]
 ·by_cases h2 : b < a <;> simp [h1, h2]
theorem qg0 (l : List S151) : ∀ (rest : List S151) (k : Nat), s168_l1 l rest k (idxs k ++ List.replicate rest.length 0) = s168_l1 l [] (k + rest.length) (idxs (k + rest.length))
 | [], k => by simp
 | y :: rest, k => by
  have h1 : ixO (idxs k ++ List.replicate (y :: rest).length 0) ((k : Nat) : Int) = some 0 := by
   rw [List.length_cons, List.replicate_succ]; exact vn (by rw [qe9])
  have h2 : List.set (idxs k ++ List.replicate (y :: rest).length 0) (Int.toNat ((k : Nat) : Int)) ((k : Nat) : Int) = idxs (k + 1) ++ List.replicate rest.length 0 := by
   rw [List.length_cons, List.replicate_succ, w6 (by rw [qe9]; simp), qbd]
   simp
  conv => lhs; rw [s168_l1, h1]
  simp only [bindO]
  rw [h2, qg0 l rest (k + 1), List.length_cons]
  have e : k + 1 + rest.length = k + (rest.length + 1) := by omega
  rw [e]
theorem qni (l : List S151) : s168 l = some (ordI l) := by
 unfold s168
 have := qg0 l l 0
 simp only [Nat.zero_add] at this
 rw [show List.replicate l.length (0 : Int) = idxs 0 ++ List.replicate l.length 0 by simp [idxs], this, s168_l1]
 rw [qr8 (lt := fun i j => decide (momI l i < momI l j)) (fun y hy x hx => ?_)]
 ·rfl
 ·obtain ⟨a, ha, ha'⟩ := xp hx
  obtain ⟨b, hb, hb'⟩ := xp hy
  refine ⟨s167 a.Moment b.Moment, ?_, ?_⟩
  ·simp only [s204, ha, hb, bindO]
  ·rw [qr7, qam ha', qam hb']
theorem qj7 (rec1 : Nat → List Int → Option (List Int)) (l : List S151) (k3 : Nat) (y : S151) (A : List Int) : ∀ (B C : List Int) (k : Nat), (∀ b ∈ B, b ∈ idxs l.length) → B.length < k → (∀ c ∈ C, momI l c ≤ y.Moment) →
  ∃ C' D, C ++ B = C' ++ D ∧ (∀ c ∈ C', momI l c ≤ y.Moment) ∧ (∀ d D', D = d :: D' → y.Moment < momI l d) ∧ s169_l2 rec1 l (C ++ B) k3 y k (C.length : Int) = rec1 (k3 + 1) (C' ++ (k3 : Int) :: D)
 | [], C, 0, _, h, _ => by simp at h
 | [], C, k + 1, _, _, hC => by
  refine ⟨C, [], rfl, hC, (fun d D' h => by cases h), ?_⟩
  rw [s169_l2]
  have e : decide ((C.length : Int) < ((C ++ ([] : List Int)).length : Int)) = false := by simp
  simp only [e, cond_false, bindO, Bool.false_and]
  simp
 | b :: B, C, 0, _, h, _ => by simp at h
 | b :: B, C, k + 1, hB, h, hC => by
  obtain ⟨x, hx, hx'⟩ := xp (hB b List.mem_cons_self)
  have e : decide ((C.length : Int) < ((C ++ b :: B).length : Int)) = true := by simp; omega
  rw [s169_l2]
  simp only [e, cond_true, qip, hx, bindO, Bool.true_and]
  by_cases hm : x.Moment ≤ y.Moment
  ·obtain ⟨C', D, h1, h2, h3, h4⟩ := qj7 rec1 l k3 y A B (C ++ [b]) k (fun z hz => hB z (List.mem_cons_of_mem _ hz)) (by simp at h; omega) (fun c hc => by
    rcases List.mem_append.1 hc with hc | hc
    ·exact hC c hc
    ·rw [List.mem_singleton.1 hc, qam hx']; exact hm)
   refine ⟨C', D, by rw [← h1]; simp, h2, h3, ?_⟩
   rw [decide_eq_true hm, cond_true, ← h4]
   simp
  ·refine ⟨C, b :: B, rfl, hC, ?_, ?_⟩
   ·intro d D' h; cases h; rw [qam hx']; omega
   ·rw [decide_eq_false hm, cond_false]
    simp
theorem qlh {l : List S151} {C D : List Int} {k : Nat} {y : S151} (hk : l[k]? = some y) (hs : (C ++ D).Pairwise (RelM l)) (hlt : ∀ z ∈ C ++ D, z < (k : Int)) (hC : ∀ c ∈ C, momI l c ≤ y.Moment) (hD : ∀ d D', D = d :: D' → y.Moment < momI l d) :
  (C ++ (k : Int) :: D).Pairwise (RelM l) := by
 have hm : momI l (k : Int) = y.Moment := qam (by simpa using hk)
 obtain ⟨h1, h2, h3⟩ := List.pairwise_append.1 hs
 refine List.pairwise_append.2 ⟨h1, List.pairwise_cons.2 ⟨fun d hd => ?_, h2⟩, fun c hc z hz => ?_⟩
 ·cases D with
  | nil => cases hd
  | cons d0 D' =>
   have h4 := hD d0 D' rfl
   rcases List.mem_cons.1 hd with rfl | hd
   ·unfold RelM; omega
   ·have := (List.pairwise_cons.1 h2).1 d hd
    unfold RelM at *; omega
 ·rcases List.mem_cons.1 hz with rfl | hz
  ·have := hC c hc
   have := hlt c (List.mem_append_left _ hc)
   unfold RelM; omega
  ·exact h3 c hc z hz
theorem qg1 (l : List S151) : ∀ (rest : List S151) (k : Nat) (P : List Int), l.drop k = rest → P.Perm (idxs k) → P.Pairwise (RelM l) → k + rest.length = l.length → ∃ Q, s169_l1 l rest k P = some Q ∧ Q.Perm (idxs l.length) ∧ Q.Pairwise (RelM l)
 | [], k, P, _, hp, hs, hk => by
  refine ⟨P, by rw [s169_l1], ?_, hs⟩
  have : k = l.length := by simpa using hk
  rw [← this]; exact hp
 | y :: rest, k, P, hd, hp, hs, hk => by
  have hlen : P.length = k := by rw [hp.length_eq, qe9]
  have hkl : k < l.length := by simp at hk; omega
  have hy : l[k]? = some y := by
   have : (l.drop k)[0]? = some y := by rw [hd]; rfl
   simpa using this
  have hmem : ∀ b ∈ P, b ∈ idxs l.length := fun b hb => by
   have := xn.1 (hp.mem_iff.1 hb)
   exact xn.2 ⟨this.1, by omega⟩
  obtain ⟨C', D, h1, h2, h3, h4⟩ := qj7 (fun k_ z0_ => s169_l1 l rest k_ z0_) l k y [] P [] (((List.length P : Int) - 0).toNat + 1) hmem (by simp) (fun c hc => by cases hc)
  simp only [List.nil_append] at h1 h4
  have h5 := qlh hy (by rw [← h1]; exact hs) (fun z hz => by
   have := xn.1 (hp.mem_iff.1 (by rw [h1]; exact hz))
   omega) h2 h3
  have h6 : (C' ++ (k : Int) :: D).Perm (idxs (k + 1)) := by
   rw [qbd]
   refine (List.perm_middle.trans ?_)
   rw [← h1]
   exact (List.Perm.cons _ hp).trans (List.perm_append_singleton _ _).symm
  obtain ⟨Q, q1, q2, q3⟩ := qg1 l rest (k + 1) _ (by
   have : l.drop (k + 1) = (l.drop k).drop 1 := by rw [List.drop_drop]
   rw [this, hd]; rfl) h6 h5 (by simp at hk; omega)
  refine ⟨Q, ?_, q2, q3⟩
  rw [s169_l1]
  have : s169_l2 (fun k_ z0_ => s169_l1 l rest k_ z0_) l P k y (((List.length P : Int) - 0).toNat + 1) 0 = s169_l1 l rest (k + 1) (C' ++ (k : Int) :: D) := by simpa using h4
  rw [this, q1]
theorem qr9 (l : List S151) : s169 l = some (ordI l) := by
 obtain ⟨Q, h1, h2, h3⟩ := qg1 l l 0 [] rfl (by simp [idxs]) List.Pairwise.nil (by simp)
 unfold s169
 rw [h1, qio h2 h3]
end Go.Sim
namespace Go.Sim
theorem qnj {K V : Type} [DecidableEq K] (m : List (K × V)) (k j : K) (v : V) : mget (mset m k v) j = if k = j then some v else mget m j := by
 induction m with
 | nil => by_cases h : k = j <;> simp [mset, mget, h]
 | cons p m ih =>
  obtain ⟨a, b⟩ := p
  by_cases ha : a = k
  ·subst ha
   by_cases h : a = j <;> simp [mset, mget, h]
  ·by_cases h : a = j
   ·subst h
    have hk : ¬ k = a := fun h => ha h.symm
    simp [mset, mget, ha, hk]
   ·simp [mset, mget, ha, h, ih]
theorem qd5 {K V : Type} [DecidableEq K] (m : List (K × V)) (k j : K) (v z : V) : mgetD (mset m k v) j z = if k = j then v else mgetD m j z := by
 unfold mgetD
 rw [qnj]
 by_cases h : k = j <;> simp [h]
theorem qnk (T : List Int) (j : Int) : s80 T j = decide (j ∈ T) := by
 have key : ∀ (T : List Int) (k : Nat), s80_l1 j T k = decide (j ∈ T) := by
  intro T
  induction T with
  | nil => intro k; simp [s80_l1]
  | cons y T ih =>
   intro k
   rw [s80_l1, ih]
   by_cases h : y = j
   ·subst h; simp
   ·have h' : ¬ j = y := fun e => h e.symm
    simp [h, h']
 exact key T 0
theorem qsa (a0 : S23) (a b : S151) : s142 a0 a b = s145 a0 a b := by
 unfold s142 s145
 have e1 : decide (b.Name = a.Name) = decide (a.Name = b.Name) := by rw [decide_eq_decide]; exact eq_comm
 have e2 : decide (b.Kind = a.Kind) = decide (a.Kind = b.Kind) := by rw [decide_eq_decide]; exact eq_comm
 rw [e1, e2]
 simp [eqAnd]
def okI (a0 : S23) (u v : List S151) (i k : Int) : Bool := match u[i.toNat]?, v[k.toNat]? with
 | some a, some b => s142 a0 a b
 | _, _ => false
theorem qqd {a0 : S23} {u v : List S151} {i k : Int} {a b : S151} (h : u[i.toNat]? = some a) (h' : v[k.toNat]? = some b) : okI a0 u v i k = s142 a0 a b := by unfold okI; rw [h, h']
theorem qg2 (rec1 : Nat → List S154 → List (Int × Bool) → Option (List S154)) (a0 : S23) (u v : List S151) (x : List S154) (m : List (Int × Bool)) (k6 : Nat) (i : Int) (hi : i ∈ idxs u.length) : ∀ (l : List Int) (k : Nat), (∀ j ∈ l, j ∈ idxs v.length) →
  s115_l2 rec1 a0 u v x m k6 i l k = match l.find? (fun j => !(mgetD m j false) && okI a0 u v i j) with
   | some j => rec1 (k6 + 1) (x ++ [⟨i, j⟩]) (mset m j true)
   | none => rec1 (k6 + 1) x m
 | [], k, _ => by rw [s115_l2]; rfl
 | j :: l, k, h => by
  obtain ⟨a, ha, ha'⟩ := xp hi
  obtain ⟨b, hb, hb'⟩ := xp (h j List.mem_cons_self)
  have ih := qg2 rec1 a0 u v x m k6 i hi l (k + 1) (fun z hz => h z (List.mem_cons_of_mem _ hz))
  rw [s115_l2, List.find?_cons, qqd ha' hb', ha, hb, ih]
  cases hm : mgetD m j false
  ·simp only [Bool.not_false, cond_true, bindO, Bool.true_and]
   cases hs : s142 a0 a b
   ·rfl
   ·rfl
  ·simp only [Bool.not_true, cond_false, bindO, Bool.false_and]
def Best (v : List S151) (P : Int → Bool) (b : Int) (k : Nat) : Prop :=
 (b = -1 ∧ ∀ j ∈ idxs k, P j = false) ∨ (b ∈ idxs k ∧ P b = true ∧ ∀ j ∈ idxs k, P j = true → j ≠ b → RelM v b j)
theorem vo {k : Nat} {j : Int} (h : j ∈ idxs (k + 1)) : j ∈ idxs k ∨ j = (k : Int) := by
 rw [qbd] at h
 rcases List.mem_append.1 h with h | h
 ·exact .inl h
 ·exact .inr (List.mem_singleton.1 h)
theorem qan {k : Nat} {j : Int} (h : j ∈ idxs k) : j ∈ idxs (k + 1) := by
 rw [qbd]; exact List.mem_append_left _ h
theorem wl (k : Nat) : (k : Int) ∈ idxs (k + 1) := xn.2 ⟨by omega, by omega⟩
theorem qnl {v : List S151} {P : Int → Bool} {b : Int} (h : Best v P b v.length) : (ordI v).find? P = if 0 ≤ b then some b else none := by
 rcases h with ⟨rfl, h⟩ | ⟨hb, hp, h⟩
 ·rw [if_neg (by omega), List.find?_eq_none]
  intro x hx hpx
  rw [h x (wk.1 hx)] at hpx
  cases hpx
 ·rw [if_pos (xn.1 hb).1]
  cases hf : (ordI v).find? P with
  | none => exact absurd hp (List.find?_eq_none.1 hf b (wk.2 hb))
  | some x =>
   obtain ⟨hpx, l1, l2, he, hn⟩ := List.find?_eq_some_iff_append.1 hf
   by_cases hx : x = b
   ·rw [hx]
   ·have hxm : x ∈ ordI v := by rw [he]; simp
    have h1 := h x (wk.1 hxm) hpx hx
    have hbm : b ∈ l1 ++ x :: l2 := by rw [← he]; exact wk.2 hb
    have hs := qc7 v
    rw [he] at hs
    rcases List.mem_append.1 hbm with h2 | h2
    ·have := hn b h2
     rw [hp] at this; cases this
    ·rcases List.mem_cons.1 h2 with h2 | h2
     ·exact absurd h2.symm hx
     ·have := (List.pairwise_cons.1 (List.pairwise_append.1 hs).2.1).1 b h2
      exact (RelM.as h1 this).elim
theorem qg3 (rec1 : Nat → List S154 → List Int → Option (List S154)) (a0 : S23) (u v : List S151) (x : List S154) (T : List Int) (k5 : Nat) (i : Int) (hi : i ∈ idxs u.length) : ∀ (l : List S151) (k : Nat) (b : Int), v.drop k = l → k + l.length = v.length →
  Best v (fun j => !(s80 T j) && okI a0 u v i j) b k →
  ∃ b', Best v (fun j => !(s80 T j) && okI a0 u v i j) b' v.length ∧ s120_l2 rec1 a0 u v x T k5 i l k b = bif decide (0 ≤ b') then rec1 (k5 + 1) (x ++ [⟨i, b'⟩]) (T ++ [b']) else rec1 (k5 + 1) x T
 | [], k, b, hd, hk, hb => by
  refine ⟨b, by rw [← hk]; exact hb, ?_⟩
  rw [s120_l2]; rfl
 | y :: l, k, b, hd, hk, hb => by
  obtain ⟨a, ha, ha'⟩ := xp hi
  have hy : v[k]? = some y := by
   have : (v.drop k)[0]? = some y := by rw [hd]; rfl
   simpa using this
  have hd' : v.drop (k + 1) = l := by
   have : v.drop (k + 1) = (v.drop k).drop 1 := by rw [List.drop_drop]
   rw [this, hd]; rfl
  have hok : okI a0 u v i (k : Int) = s145 a0 a y := by rw [qqd ha' (b := y) (by simpa using hy), qsa]
  have hmk : momI v (k : Int) = y.Moment := qam (by simpa using hy)
  have hkl : k + 1 + l.length = v.length := by simp at hk; omega
  have go : ∀ b1, Best v (fun j => !(s80 T j) && okI a0 u v i j) b1 (k + 1) → s120_l2 rec1 a0 u v x T k5 i (y :: l) k b = s120_l2 rec1 a0 u v x T k5 i l (k + 1) b1 → ∃ b', Best v (fun j => !(s80 T j) && okI a0 u v i j) b' v.length ∧ s120_l2 rec1 a0 u v x T k5 i (y :: l) k b = bif decide (0 ≤ b') then rec1 (k5 + 1) (x ++ [⟨i, b'⟩]) (T ++ [b']) else rec1 (k5 + 1) x T := by
   intro b1 h1 h2
   obtain ⟨b', h3, h4⟩ := qg3 rec1 a0 u v x T k5 i hi l (k + 1) b1 hd' hkl h1
   exact ⟨b', h3, h2.trans h4⟩
  cases hP : s145 a0 a y && !(s80 T (k : Int))
  ·-- this record is out
   have hPk : (!(s80 T (k : Int)) && okI a0 u v i (k : Int)) = false := by rw [hok, Bool.and_comm]; exact hP
   refine go b ?_ (by rw [s120_l2, ha]; simp only [hP, Bool.false_and, cond_false, bindO]; rfl)
   rcases hb with ⟨rfl, h⟩ | ⟨h1, h2, h3⟩
   ·refine .inl ⟨rfl, fun j hj => ?_⟩
    rcases vo hj with hj | rfl
    ·exact h j hj
    ·exact hPk
   ·refine .inr ⟨qan h1, h2, fun j hj hp hne => ?_⟩
    rcases vo hj with hj | rfl
    ·exact h3 j hj hp hne
    ·exact absurd hp (by simp only [hPk]; decide)
  ·have hPk : (!(s80 T (k : Int)) && okI a0 u v i (k : Int)) = true := by rw [hok, Bool.and_comm]; exact hP
   rcases hb with ⟨rfl, h⟩ | ⟨h1, h2, h3⟩
   ·refine go (k : Int) ?_ ?_
    ·refine .inr ⟨wl k, hPk, fun j hj hp hne => ?_⟩
     rcases vo hj with hj | rfl
     ·rw [h j hj] at hp; cases hp
     ·exact absurd rfl hne
    ·rw [s120_l2, ha]; simp only [hP, Bool.true_and, bindO]; rfl
   ·obtain ⟨hb0, hbk⟩ := xn.1 h1
    have hbv : b.toNat < v.length := by omega
    obtain ⟨z, hz, hz'⟩ := xp (l := v) (xn.2 ⟨hb0, hbv⟩)
    have hneg : decide (b < 0) = false := decide_eq_false (by omega)
    have hmb : momI v b = z.Moment := qam hz'
    by_cases hlt : y.Moment < z.Moment
    ·refine go (k : Int) ?_ ?_
     ·refine .inr ⟨wl k, hPk, fun j hj hp hne => ?_⟩
      have hkb : RelM v (k : Int) b := .inl (by omega)
      rcases vo hj with hj | rfl
      ·by_cases hjb : j = b
       ·rw [hjb]; exact hkb
       ·exact RelM.tr _ _ _ hkb (h3 j hj hp hjb)
      ·exact absurd rfl hne
     ·rw [s120_l2, ha]; simp only [hP, hneg, hz, Bool.true_and, Bool.not_false, cond_true, bindO, Bool.false_or, decide_eq_true hlt]; rfl
    ·refine go b ?_ ?_
     ·refine .inr ⟨qan h1, h2, fun j hj hp hne => ?_⟩
      rcases vo hj with hj | rfl
      ·exact h3 j hj hp hne
      ·by_cases he : y.Moment = z.Moment
       ·exact .inr ⟨by omega, by omega⟩
       ·exact .inl (by omega)
     ·rw [s120_l2, ha]; simp only [hP, hneg, hz, Bool.true_and, Bool.not_false, cond_true, bindO, Bool.false_or, decide_eq_false hlt, cond_false]; rfl
theorem qbt (a0 : S23) (u v : List S151) : ∀ (rest : List Int) (k k' : Nat) (x : List S154) (m : List (Int × Bool)) (T : List Int), (∀ i ∈ rest, i ∈ idxs u.length) → (∀ j, mgetD m j false = s80 T j) →
  ∃ M, s115_l1 a0 u v (ordI v) rest k x m = some (x ++ M) ∧ s120_l1 a0 u v rest k' x T = some (x ++ M) ∧ (M.map S154.Slot).Sublist rest ∧ ∀ e ∈ M, e.Record ∈ idxs v.length
 | [], k, k', x, m, T, _, _ => ⟨[], by simp [s115_l1], by simp [s120_l1], by simp, by simp⟩
 | i :: rest, k, k', x, m, T, hr, hm => by
  have hi := hr i List.mem_cons_self
  have hr' : ∀ j ∈ rest, j ∈ idxs u.length := fun j hj => hr j (List.mem_cons_of_mem _ hj)
  obtain ⟨b, hb, h1⟩ := qg3 (fun k_ z0_ z1_ => s120_l1 a0 u v rest k_ z0_ z1_) a0 u v x T k' i hi v 0 (-1) rfl (by simp) (.inl ⟨rfl, fun j hj => by simp [idxs] at hj⟩)
  have h2 := qg2 (fun k_ z0_ z1_ => s115_l1 a0 u v (ordI v) rest k_ z0_ z1_) a0 u v x m k i hi (ordI v) 0 (fun j hj => wk.1 hj)
  have hf := qnl hb
  have hfun : (fun j => !(mgetD m j false) && okI a0 u v i j) = fun j => !(s80 T j) && okI a0 u v i j := funext fun j => by rw [hm]
  rw [hfun, hf] at h2
  rw [s115_l1, s120_l1, h1, h2]
  by_cases h0 : 0 ≤ b
  ·rw [if_pos h0, decide_eq_true h0, cond_true]
   obtain ⟨M, g1, g2, g3, g4⟩ := qbt a0 u v rest (k + 1) (k' + 1) (x ++ [⟨i, b⟩]) (mset m b true) (T ++ [b]) hr' (fun j => by
    rw [qd5, hm, qnk, qnk]
    by_cases hj : b = j
    ·subst hj; simp
    ·have : ¬ j = b := fun e => hj e.symm
     simp [hj, this])
   refine ⟨⟨i, b⟩ :: M, by simpa using g1, by simpa using g2, by simpa using g3, ?_⟩
   intro e he
   rcases List.mem_cons.1 he with rfl | he
   ·rcases hb with ⟨rfl, _⟩ | ⟨hb, _, _⟩
    ·omega
    ·exact hb
   ·exact g4 e he
  ·rw [if_neg h0, decide_eq_false h0, cond_false]
   obtain ⟨M, g1, g2, g3, g4⟩ := qbt a0 u v rest (k + 1) (k' + 1) x m T hr' hm
   exact ⟨M, g1, g2, g3.cons _, g4⟩
theorem qpg (a0 : S23) (u v : List S151) : ∃ M, s115 a0 u v = some M ∧ s120 a0 u v = some M ∧ (M.map S154.Slot).Nodup ∧ (∀ e ∈ M, e.Slot ∈ idxs u.length) ∧ ∀ e ∈ M, e.Record ∈ idxs v.length := by
 obtain ⟨M, h1, h2, h3, h4⟩ := qbt a0 u v (ordI u) 0 0 [] [] [] (fun i hi => wk.1 hi) (fun j => by simp [mgetD, mget, qnk])
 refine ⟨M, ?_, ?_, (qlg u).sublist h3, fun e he => wk.1 (h3.subset (List.mem_map_of_mem he)), h4⟩
 ·unfold s115
  rw [qni, qni]
  simpa [bindO] using h1
 ·unfold s120
  rw [qr9]
  simpa [bindO] using h2
end Go.Sim
