/-
  What is proved: the walk of the weekdays and of the reference table.
-/
import Derived.Test.YtdfgeoefbbkcnaaGreatDoorVaA4
import Derived.Test.YtdfgeoefbbkcnaaGreatDoorVsF6
import Derived.Test.YtdfgeoefbbkcnaaGreatDoorVsJ2
import Derived.Test.YtdfgeoefbbkcnaaGreatDoorVsF7
import Derived.Test.YtdfgeoefbbkcnaaGreatDoorVsJ1
set_option linter.unusedSectionVars false
set_option linter.unusedSimpArgs false
set_option linter.unusedVariables false
set_option linter.unnecessarySimpa false
set_option linter.deprecated false
set_option linter.unusedSimpArgs false
set_option linter.unusedVariables false
set_option maxRecDepth 10000
namespace Go.Sim
open Go.Proofs
theorem qwr {g : List (Nat × List Value)} {l : List S55} {i : Nat} {a0 : S55} (a1 : Int) (ha : l[i]? = some a0) : ConB (EG g) 126 [.eptr 0 2 i 0, .g (G.int a1)] [(0, .arr 218 2 (l.map S55.c))] (G.tup []) [(0, .arr 218 2 ((l.set i (s126 a0 a1)).map S55.c))] := by
 generalize hR : s126 a0 a1 = R
 unfold s126 at hR
 have hi : i < l.length := (List.getElem?_eq_some_iff.1 ha).1
 refine kh Tryz.func126 rfl rfl rfl fun w0 M0 x => ?_
 refine jt (γ := Int) (fun g => ([(0, .eptr 0 2 i 0), (1, .g (G.int a1))], [(0, .arr 218 2 ((l.set i (S55.mk a0.Flown g)).map S55.c))])) (fun g => s126_j1 a0 a1 g = R) ?_ ?_
 ·refine qd ?_
  refine qb [.p, .p] ?_
  refine st rfl rfl (qa rfl rfl) rfl ?_
  refine st rfl rfl (zz rfl rfl rfl) rfl ?_
  refine qe ?_
  refine qm _ rfl (fun h2 => ?_) (fun h2 => ?_)
  ·replace h2 : (decide (a1 ≠ 0)) = true := h2
   replace hR := zk hR h2
   refine qb [.p, .p, .p, .r, .p, .p, .p, .w] ?_
   refine st rfl rfl (qge rfl rfl) rfl ?_
   refine st rfl rfl (qb7 rfl rfl) rfl ?_
   refine st rfl rfl (xf rfl qbc rfl) rfl ?_
   refine st_r rfl rfl (xg rfl ty3 rfl rfl ha rfl) rfl ?_
   refine st rfl rfl (j6 rfl rfl rfl) rfl ?_
   refine st rfl rfl (qb7 rfl rfl) rfl ?_
   refine st rfl rfl (xf rfl qbc rfl) rfl ?_
   refine j8 rfl rfl (qju (a' := S55.mk a0.Flown (IntKind.i64.wrap (a0.Due + 1))) rfl ty3 rfl rfl rfl ha rfl rfl rfl) ?_
   refine qe ?_
   exact ⟨rfl, IntKind.i64.wrap (a0.Due + 1), ⟨rfl, rfl, trivial⟩, ⟨rfl, trivial⟩, rfl, hR, trivial⟩
  ·replace h2 : (decide (a1 ≠ 0)) = false := h2
   replace hR := zl hR h2
   refine qo ?_
   refine ⟨rfl, a0.Due, ⟨rfl, rfl, trivial⟩, ⟨?_, trivial⟩, rfl, hR, trivial⟩
   show some (Blk.arr 218 2 (l.map S55.c)) = some (Blk.arr 218 2 ((l.set i ⟨a0.Flown, a0.Due⟩).map S55.c))
   rw [qou ha]
 ·rintro x1 hR
  replace hR : s126_j1 a0 a1 x1 = R := hR
  unfold s126_j1 at hR
  have hb : (l.set i (S55.mk a0.Flown x1))[i]? = some (S55.mk a0.Flown x1) := List.getElem?_set_self hi
  refine qd ?_
  refine qb [.p, .p, .p, .p, .p, .p] ?_
  refine st rfl rfl (qa rfl rfl) rfl ?_
  refine st rfl rfl (jq rfl rfl rfl) rfl ?_
  refine st rfl rfl (qa rfl rfl) rfl ?_
  refine st_g rfl rfl rfl (qg _ _) (fun h => qa rfl rfl) rfl ?_
  refine st_g rfl rfl rfl (qg _ _) (fun h => jq rfl (gd h rfl) rfl) rfl ?_
  refine st rfl rfl (z8 rfl rfl rfl rfl) rfl ?_
  refine qe ?_
  refine qm _ rfl (fun h1 => ?_) (fun h1 => ?_)
  ·replace h1 : ((decide (a1 = 1)) || (decide (a1 = 2))) = true := h1
   replace hR := zk hR h1
   refine qb [.p, .p, .p, .r, .p, .p, .p, .w] ?_
   refine st rfl rfl (qge rfl rfl) rfl ?_
   refine st rfl rfl (qb7 rfl rfl) rfl ?_
   refine st rfl rfl (xf rfl qby rfl) rfl ?_
   refine st_r rfl rfl (xg rfl ty3 rfl rfl hb rfl) rfl ?_
   refine st rfl rfl (j6 rfl rfl rfl) rfl ?_
   refine st rfl rfl (qb7 rfl rfl) rfl ?_
   refine st rfl rfl (xf rfl qby rfl) rfl ?_
   refine j8 rfl rfl (qju (a' := S55.mk (IntKind.i64.wrap (a0.Flown + 1)) x1) rfl ty3 rfl rfl rfl hb rfl rfl rfl) ?_
   refine qe ?_
   subst hR
   show ResOk _ _ _ _ ∧ MemL _ _
   have hss : (l.set i (S55.mk a0.Flown x1)).set i (S55.mk (IntKind.i64.wrap (a0.Flown + 1)) x1) = l.set i (S55.mk (IntKind.i64.wrap (a0.Flown + 1)) x1) := List.set_set ..
   exact ⟨res0 rfl, ⟨congrArg (fun z : List S55 => some (Blk.arr 218 2 (List.map S55.c z))) hss, trivial⟩⟩
  ·replace h1 : ((decide (a1 = 1)) || (decide (a1 = 2))) = false := h1
   replace hR := zl hR h1
   refine qo ?_
   subst hR
   show ResOk _ _ _ _ ∧ MemL _ _
   exact ⟨res0 rfl, ⟨rfl, trivial⟩⟩
end Go.Sim
set_option linter.unusedSimpArgs false
set_option linter.unusedVariables false
set_option maxRecDepth 10000
namespace Go.Sim
open Go.Proofs
def s140 (a0 : Int) : Int × Int :=
 (bif decide ((s153 a0) ≠ 0) then (0, (s153 a0)) else ((s188 a0), 0))
theorem c140 {g : List (Nat × List Value)} (a0 : Int)    : Con (EG g) 140 [G.int a0] (G.tup [G.int ((s140 a0).1), G.int ((s140 a0).2)]) := by
 generalize hR : s140 a0 = R
 unfold s140 at hR
 refine qp Tryz.func140 rfl rfl fun w0 M0 => ?_
 refine qd ?_
 refine qb [.p, .p] ?_
 refine st rfl rfl (qc rfl rfl) rfl ?_
 refine st rfl rfl (qc rfl rfl) rfl ?_
 refine qe ?_
 refine qd ?_
 refine qd ?_
 refine qb [.p, .p, .p] ?_
 refine st rfl rfl (qa rfl rfl) rfl ?_
 refine st rfl rfl (qj rfl K153 rfl (c153 a0) (qh rfl qk)) rfl ?_
 refine st rfl rfl (qc rfl rfl) rfl ?_
 refine qe ?_
 refine qd ?_
 refine qb [.p, .p] ?_
 refine st rfl rfl (qa rfl rfl) rfl ?_
 refine st rfl rfl (zz rfl rfl rfl) rfl ?_
 refine qe ?_
 refine qm _ rfl (fun h1 => ?_) (fun h1 => ?_)
 ·replace h1 : (decide ((s153 a0) ≠ 0)) = true := h1
  replace hR := zk hR h1
  try simp only [decide_eq_true_eq] at h1
  refine qd ?_
  refine qb [.p, .p, .p] ?_
  refine st rfl rfl (qa rfl rfl) rfl ?_
  refine st rfl rfl (qc rfl rfl) rfl ?_
  refine st rfl rfl (qc rfl rfl) rfl ?_
  refine qe ?_
  refine qr ?_
  subst hR
  exact resN rfl ⟨rv_g rfl, rv_g rfl, trivial⟩ (by simp)
 ·replace h1 : (decide ((s153 a0) ≠ 0)) = false := h1
  replace hR := zl hR h1
  try simp only [decide_eq_false_iff_not] at h1
  refine qo ?_
  refine qd ?_
  refine qb [.p, .p, .p, .p] ?_
  refine st rfl rfl (qa rfl rfl) rfl ?_
  refine st rfl rfl (qj rfl K188 rfl (c188 a0) (qh rfl qk)) rfl ?_
  refine st rfl rfl (qc rfl rfl) rfl ?_
  refine st rfl rfl (qc rfl rfl) rfl ?_
  refine qe ?_
  refine qr ?_
  subst hR
  exact resN rfl ⟨rv_g rfl, rv_g rfl, trivial⟩ (by simp)
end Go.Sim
set_option linter.unusedSimpArgs false
set_option linter.unusedVariables false
set_option maxRecDepth 10000
namespace Go.Sim
open Go.Proofs
def s74_j1 (rec1 : Int → Int → Int → Option Int) (x3 : Int) (x4 : Int) (x7 : Int) : Option Int :=
 rec1 x7 (IntKind.i64.wrap (2 * x3)) (x4 + 1)
def s74_l1 (a0 : S23) (a1 : List S151) (r1 : List ByteArray) : Nat → Int → Int → Int → Option Int
 | 0, x2, x3, x4 => some x2
 | k6 + 1, x2, x3, x4 => bindO (s130 a1 r1 (⟨#[]⟩) x4) fun r8 => (bif (s37 a0 r8) then s74_j1 (fun z0_ z1_ z2_ => s74_l1 a0 a1 r1 k6 z0_ z1_ z2_) x3 x4 (IntKind.i64.wrap (x2 + x3)) else s74_j1 (fun z0_ z1_ z2_ => s74_l1 a0 a1 r1 k6 z0_ z1_ z2_) x3 x4 x2)
def s74 (a0 : S23) (a1 : List S151) (a2 : List S104) : Option Int :=
 bindO (s61 a0 a1 a2) fun r1 => s74_l1 a0 a1 r1 (((7 : Int) - 0).toNat) 0 1 0
theorem c74 {g : List (Nat × List Value)} (a0 : S23) (a1 : List S151) (a2 : List S104) {R : Int}  (hb1 : a1.length ≤ 12) (hb2 : a2.length ≤ 12) (hR : s74 a0 a1 a2 = some R) : Con (EG g) 74 [G.agg [G.int a0.Before, G.int a0.After, G.int a0.Notice, G.int a0.Share, G.sl 1 (List.map cStr a0.Causes), G.int a0.Off, G.int a0.Run], G.sl 3 (List.map S151.c a1), G.sl 8 (List.map S104.c a2)] (G.int R) := by
 unfold s74 at hR
 refine qp Tryz.func74 rfl rfl fun w0 M0 => ?_
 refine zc (f := S151.c) (l := a1) 1 rfl fun hla1 => ?_
 refine zc (f := S104.c) (l := a2) 2 rfl fun hla2 => ?_
 refine qd ?_
 refine qb [.p, .p] ?_
 refine st rfl rfl (zd rfl rfl) rfl ?_
 refine st rfl rfl (qc rfl rfl) rfl ?_
 refine qe ?_
 refine qd ?_
 obtain ⟨r1, br1, hR⟩ := ql hR
 refine qb [.p, .p, .p, .p, .p] ?_
 refine st rfl rfl (qt rfl ty29 rfl rfl rfl) rfl ?_
 refine st rfl rfl (qa rfl rfl) rfl ?_
 refine st rfl rfl (qa rfl rfl) rfl ?_
 refine st rfl rfl (qj rfl K61 rfl (c61 a0 a1 a2 (by first | assumption | omega | (simp [qv]; omega)) (by first | assumption | omega | (simp [qv]; omega)) br1) (qh rfl (qh rfl (qh rfl qk)))) rfl ?_
 refine st rfl rfl (qc rfl rfl) rfl ?_
 refine qe ?_
 refine qd ?_
 refine qb [.p, .p] ?_
 refine st rfl rfl (qc rfl rfl) rfl ?_
 refine st rfl rfl (qc rfl rfl) rfl ?_
 refine qe ?_
 refine qd ?_
 refine qd ?_
 refine qb [.p] ?_
 refine st rfl rfl (qc rfl rfl) rfl ?_
 refine qe ?_
 refine qn ?_
 obtain ⟨n0, hn0⟩ : ∃ n0, n0 = ((7 : Int) - 0).toNat := ⟨_, rfl⟩
 rw [← hn0] at hR
 refine qx (γ := Nat × Int × Int × Int) (fun g => ([(1, .g (G.sl 3 (List.map S151.c a1))), (3, .g (G.ref [G.int a0.Before, G.int a0.After, G.int a0.Notice, G.int a0.Share, G.sl 1 (List.map cStr a0.Causes), G.int a0.Off, G.int a0.Run])), (7, .g (G.sl 1 (List.map cStr r1))), (8, .g (G.int g.2.1)), (9, .g (G.int g.2.2.1)), (10, .g (G.int g.2.2.2))], [])) (fun g => g.1 = ((7 : Int) - g.2.2.2).toNat ∧ 0 ≤ g.2.2.2 ∧ s74_l1 a0 a1 r1 g.1 g.2.1 g.2.2.1 g.2.2.2 = some R) (fun g => g.1) ⟨rfl, (n0, 0, 1, 0), ⟨rfl, rfl, rfl, rfl, rfl, rfl, trivial⟩, trivial, rfl, ⟨hn0, (by first | omega | (dsimp only; omega) | simp), hR⟩, trivial⟩ ?_
 ·rintro ⟨k6, x2, x3, x4⟩ ⟨hk1, iv1_0, hR⟩
  replace hk1 : k6 = ((7 : Int) - x4).toNat := hk1
  replace hR : s74_l1 a0 a1 r1 k6 x2 x3 x4 = some R := hR
  replace iv1_0 : 0 ≤ x4 := iv1_0
  refine qd ?_
  refine qd ?_
  refine qb [.p, .p] ?_
  refine st rfl rfl (qa rfl rfl) rfl ?_
  refine st rfl rfl (ze rfl rfl rfl) rfl ?_
  refine qe ?_
  refine qm _ rfl (fun h1 => ?_) (fun h1 => ?_)
  ·replace h1 : (decide (x4 < 7)) = true := h1
   replace h1 := decT h1
   obtain ⟨k6, rfl⟩ : ∃ m, k6 = m + 1 := ⟨k6 - 1, by omega⟩
   rw [s74_l1] at hR
   try dsimp only at hR
   refine qo ?_
   refine qd ?_
   refine qn ?_
   refine jt (γ := Int) (fun g => ([(1, .g (G.sl 3 (List.map S151.c a1))), (3, .g (G.ref [G.int a0.Before, G.int a0.After, G.int a0.Notice, G.int a0.Share, G.sl 1 (List.map cStr a0.Causes), G.int a0.Off, G.int a0.Run])), (7, .g (G.sl 1 (List.map cStr r1))), (8, .g (G.int g)), (9, .g (G.int x3)), (10, .g (G.int x4))], [])) (fun g => s74_j1 (fun z0_ z1_ z2_ => s74_l1 a0 a1 r1 k6 z0_ z1_ z2_) x3 x4 g = some R) ?_ ?_
   ·refine qd ?_
    obtain ⟨r8, br8, hR⟩ := ql hR
    refine zw [.p, .p, .p, .p, .p, .p] (by kernel_rfl) ?_
    refine st rfl rfl (qt rfl ty29 rfl rfl rfl) rfl ?_
    refine st rfl rfl (qa rfl rfl) rfl ?_
    refine st rfl rfl (qa rfl rfl) rfl ?_
    refine st rfl rfl (qa rfl rfl) rfl ?_
    refine st rfl rfl (qj rfl K130 rfl (c130 a1 r1 (⟨#[]⟩) x4 br8) (qh rfl (qh rfl (qh rfl (qh rfl qk))))) rfl ?_
    refine st rfl rfl (qj rfl K37 rfl (c37 a0 r8) (qh rfl (qh rfl qk))) rfl ?_
    refine qe ?_
    refine qm _ rfl (fun h3 => ?_) (fun h3 => ?_)
    ·replace h3 : ((s37 a0 r8)) = true := h3
     replace hR := zk hR h3
     refine qb [.p, .p, .p, .p] ?_
     refine st rfl rfl (qa rfl rfl) rfl ?_
     refine st rfl rfl (qa rfl rfl) rfl ?_
     refine st rfl rfl (j6 rfl rfl rfl) rfl ?_
     refine st rfl rfl (qc rfl rfl) rfl ?_
     refine qe ?_
     exact ⟨rfl, IntKind.i64.wrap (x2 + x3), ⟨rfl, rfl, rfl, rfl, rfl, rfl, trivial⟩, trivial, rfl, hR, trivial⟩
    ·replace h3 : ((s37 a0 r8)) = false := h3
     replace hR := zl hR h3
     refine qo ?_
     exact ⟨rfl, x2, ⟨rfl, rfl, rfl, rfl, rfl, rfl, trivial⟩, trivial, rfl, hR, trivial⟩
   ·rintro x7 hR
    replace hR : s74_j1 (fun z0_ z1_ z2_ => s74_l1 a0 a1 r1 k6 z0_ z1_ z2_) x3 x4 x7 = some R := hR
    unfold s74_j1 at hR
    refine qb [.p, .p, .p] ?_
    refine st rfl rfl (qa rfl rfl) rfl ?_
    refine st rfl rfl (v8 rfl rfl rfl) rfl ?_
    refine st rfl rfl (qc rfl rfl) rfl ?_
    refine qe ?_
    refine qb [.p, .p, .p] ?_
    refine st rfl rfl (qa rfl rfl) rfl ?_
    refine st rfl rfl (zj rfl rfl rfl (by (try dsimp only); unfold I64; omega)) rfl ?_
    refine st rfl rfl (qc rfl rfl) rfl ?_
    refine qe ?_
    exact ⟨rfl, (k6, x7, IntKind.i64.wrap (2 * x3), x4 + 1), ⟨rfl, rfl, rfl, rfl, rfl, rfl, trivial⟩, trivial, rfl, ⟨(by first | omega | (dsimp only; omega) | (simp at *; omega)), (by first | omega | (dsimp only; omega) | (simp at *; omega)), hR⟩, by simp⟩
  ·replace h1 : (decide (x4 < 7)) = false := h1
   replace h1 := decF h1
   obtain rfl : k6 = 0 := by omega
   rw [s74_l1] at hR
   refine zg ?_
   refine qd ?_
   refine qb [.p, .p] ?_
   refine st rfl rfl (qa rfl rfl) rfl ?_
   refine st rfl rfl (qc rfl rfl) rfl ?_
   refine qe ?_
   refine qr ?_
   obtain rfl := Option.some.inj hR
   exact zb rfl (rv_g rfl)
end Go.Sim
set_option linter.unusedSimpArgs false
set_option linter.unusedVariables false
set_option maxRecDepth 10000
namespace Go.Sim
open Go.Proofs
def s73_j1 (rec1 : Nat → (List S137) → Option (List S137)) (k4 : Nat) (x7 : List S137) : Option (List S137) :=
 rec1 (k4 + 1) x7
def s73_l2 (rec1 : Nat → (List S137) → Option (List S137)) (a0 : S23) (a1 : List S151) (r1 : List ByteArray) (x2 : List S137) (k4 : Nat) (y5 : S151) : Nat → Int → Option (List S137)
 | 0, _ => none
 | k9 + 1, x8 => bindO (bif decide (x8 < (List.length x2 : Int)) then ixO x2 x8 else some default) fun y10 => (bif (decide (x8 < (List.length x2 : Int))) && (strLt y10.Name y5.Name) then s73_l2 rec1 a0 a1 r1 x2 k4 y5 k9 (x8 + 1) else bindO (bif decide (x8 < (List.length x2 : Int)) then ixO x2 x8 else some default) fun y11 => (bif (decide (x8 < (List.length x2 : Int))) && (decide (y11.Name = y5.Name)) then s73_j1 rec1 k4 x2 else bindO (s130 a1 r1 y5.Name (-1)) fun r12 => s73_j1 rec1 k4 ((([] ++ (List.take (Int.toNat x8) x2)) ++ [(S137.mk y5.Name (S55.mk r12.Flown r12.Due) (s37 a0 (S55.mk r12.Flown r12.Due)))]) ++ (List.drop (Int.toNat x8) x2))))
def s73_l1 (a0 : S23) (a1 : List S151) (r1 : List ByteArray) : List S151 → Nat → (List S137) → Option (List S137)
 | [], k4, x2 => some x2
 | y5 :: t6, k4, x2 => s73_l2 (fun k_ z0_ => s73_l1 a0 a1 r1 t6 k_ z0_) a0 a1 r1 x2 k4 y5 ((((List.length x2 : Int) - 0).toNat) + 1) 0
def s73 (a0 : S23) (a1 : List S151) (a2 : List S104) : Option (List S137) :=
 bindO (s61 a0 a1 a2) fun r1 => s73_l1 a0 a1 r1 a1 0 []
theorem n73 {g : List (Nat × List Value)} (a0 : S23) (a1 : List S151) (a2 : List S104) {R : List S137}  (hb1 : a1.length ≤ 12) (hb2 : a2.length ≤ 12) (hR : s73 a0 a1 a2 = some R) : ConN (EG g) 73 [G.agg [G.int a0.Before, G.int a0.After, G.int a0.Notice, G.int a0.Share, G.sl 1 (List.map cStr a0.Causes), G.int a0.Off, G.int a0.Run], G.sl 3 (List.map S151.c a1), G.sl 8 (List.map S104.c a2)] 138 4 (List.map S137.c R) := by
 unfold s73 at hR
 refine kl Tryz.func73 rfl rfl fun w0 M0 => ?_
 refine zc (f := S151.c) (l := a1) 1 rfl fun hla1 => ?_
 refine zc (f := S104.c) (l := a2) 2 rfl fun hla2 => ?_
 refine qd ?_
 refine qb [.p, .w] ?_
 refine st rfl rfl (zd rfl rfl) rfl ?_
 refine st_w rfl rfl (zu 6 138 4 rfl rfl rfl) rfl ?_
 refine qe ?_
 refine qd ?_
 obtain ⟨r1, br1, hR⟩ := ql hR
 refine qb [.p, .p, .p, .p, .p] ?_
 refine st rfl rfl (qt rfl ty29 rfl rfl rfl) rfl ?_
 refine st rfl rfl (qa rfl rfl) rfl ?_
 refine st rfl rfl (qa rfl rfl) rfl ?_
 refine st rfl rfl (qj rfl K61 rfl (c61 a0 a1 a2 (by first | assumption | omega | (simp [qv]; omega)) (by first | assumption | omega | (simp [qv]; omega)) br1) (qh rfl (qh rfl (qh rfl qk)))) rfl ?_
 refine st rfl rfl (qc rfl rfl) rfl ?_
 refine qe ?_
 refine qd ?_
 refine qb [.w] ?_
 refine st_w rfl rfl (zu 8 138 4 rfl rfl rfl) rfl ?_
 refine qe ?_
 refine qd ?_
 refine qd ?_
 refine qb [.p] ?_
 refine st rfl rfl (qc rfl rfl) rfl ?_
 refine qe ?_
 refine qn ?_
 refine qx (γ := Nat × (List S151) × (List S137)) (fun g => ([(1, .g (G.sl 3 (List.map S151.c a1))), (3, .g (G.ref [G.int a0.Before, G.int a0.After, G.int a0.Notice, G.int a0.Share, G.sl 1 (List.map cStr a0.Causes), G.int a0.Off, G.int a0.Run])), (7, .g (G.sl 1 (List.map cStr r1))), (8, .osl 8 4 0 (List.length g.2.2)), (9, .g (G.int ((g.1 : Nat) : Int)))], [(8, .arr 138 4 (List.map S137.c g.2.2))])) (fun g => g.2.2.length ≤ g.1 ∧ a1.drop g.1 = g.2.1 ∧ s73_l1 a0 a1 r1 g.2.1 g.1 g.2.2 = some R) (fun g => List.length g.2.1) ⟨rfl, (0, a1, []), ⟨rfl, rfl, rfl, rfl, rfl, trivial⟩, ⟨rfl, trivial⟩, rfl, ⟨(by first | (simp; done) | (simp; omega)), rfl, hR⟩, trivial⟩ ?_
 ·rintro ⟨k4, t6, x2⟩ ⟨iv1_0, hd, hR⟩
  replace hd : a1.drop k4 = t6 := hd
  replace hR : s73_l1 a0 a1 r1 t6 k4 x2 = some R := hR
  replace iv1_0 : x2.length ≤ k4 := iv1_0
  refine qd ?_
  refine qd ?_
  refine qb [.p, .p, .p, .p] ?_
  refine st rfl rfl (qa rfl rfl) rfl ?_
  refine st rfl rfl (qa rfl rfl) rfl ?_
  refine st rfl rfl (q9 (f := S151.c) (l := a1) rfl Tryz.underlying32 rfl) rfl ?_
  refine st rfl rfl (ze rfl rfl rfl) rfl ?_
  refine qe ?_
  refine zc (f := S151.c) (l := a1) 1 rfl fun hlz1 => ?_
  refine qm _ rfl (fun h1 => ?_) (fun h1 => ?_)
  ·replace h1 : (decide (((k4 : Nat) : Int) < (List.length a1 : Int))) = true := h1
   obtain ⟨y5, t6, rfl, hx1, hd⟩ := zh hd (decT h1)
   replace h1 := decT h1
   rw [s73_l1] at hR
   try dsimp only at hR
   refine qo ?_
   refine jt (γ := (List S137)) (fun g => ([(1, .g (G.sl 3 (List.map S151.c a1))), (3, .g (G.ref [G.int a0.Before, G.int a0.After, G.int a0.Notice, G.int a0.Share, G.sl 1 (List.map cStr a0.Causes), G.int a0.Off, G.int a0.Run])), (7, .g (G.sl 1 (List.map cStr r1))), (8, .osl 8 4 0 (List.length g)), (9, .g (G.int ((k4 : Nat) : Int)))], [(8, .arr 138 4 (List.map S137.c g))])) (fun g => g.length ≤ k4 + 1 ∧ s73_j1 (fun k_ z0_ => s73_l1 a0 a1 r1 t6 k_ z0_) k4 g = some R) ?_ ?_
   ·refine qn ?_
    refine qd ?_
    refine qb [.p, .p, .p, .p, .p, .p] ?_
    refine st rfl rfl (qa rfl rfl) rfl ?_
    refine st rfl rfl (qa rfl rfl) rfl ?_
    refine st rfl rfl (zi (f := S151.c) (l := a1) (a := y5) rfl Tryz.underlying32 km rfl rfl (Int.natCast_nonneg _) hx1) rfl ?_
    refine st rfl rfl (qf rfl xh rfl) rfl ?_
    refine st rfl rfl (qi rfl ty9 rfl) rfl ?_
    refine st rfl rfl (qc rfl rfl) rfl ?_
    refine qe ?_
    refine qd ?_
    refine qb [.p] ?_
    refine st rfl rfl (qc rfl rfl) rfl ?_
    refine qe ?_
    refine qd ?_
    refine qn ?_
    refine qx (γ := Nat × Int) (fun g => ([(1, .g (G.sl 3 (List.map S151.c a1))), (3, .g (G.ref [G.int a0.Before, G.int a0.After, G.int a0.Notice, G.int a0.Share, G.sl 1 (List.map cStr a0.Causes), G.int a0.Off, G.int a0.Run])), (7, .g (G.sl 1 (List.map cStr r1))), (8, .osl 8 4 0 (List.length x2)), (9, .g (G.int ((k4 : Nat) : Int))), (10, .g (G.str y5.Name)), (11, .g (G.int g.2))], [(8, .arr 138 4 (List.map S137.c x2))])) (fun g => ((List.length x2 : Int) - g.2).toNat < g.1 ∧ 0 ≤ g.2 ∧ g.2 ≤ (List.length x2 : Int) ∧ s73_l2 (fun k_ z0_ => s73_l1 a0 a1 r1 t6 k_ z0_) a0 a1 r1 x2 k4 y5 g.1 g.2 = some R) (fun g => g.1) ⟨rfl, ((((List.length x2 : Int) - 0).toNat) + 1, 0), ⟨rfl, rfl, rfl, rfl, rfl, rfl, rfl, trivial⟩, ⟨rfl, trivial⟩, rfl, ⟨Nat.lt_succ_self _, (by first | omega | (dsimp only; omega) | simp), (by first | omega | (dsimp only; omega) | simp), hR⟩, trivial⟩ ?_
    ·rintro ⟨k9, x8⟩ ⟨hk2, iv2_0, iv2_1, hR⟩
     replace hk2 : ((List.length x2 : Int) - x8).toNat < k9 := hk2
     replace hR : s73_l2 (fun k_ z0_ => s73_l1 a0 a1 r1 t6 k_ z0_) a0 a1 r1 x2 k4 y5 k9 x8 = some R := hR
     replace iv2_0 : 0 ≤ x8 := iv2_0
     replace iv2_1 : x8 ≤ (List.length x2 : Int) := iv2_1
     obtain ⟨k9, rfl⟩ : ∃ m, k9 = m + 1 := ⟨k9 - 1, by omega⟩
     rw [s73_l2] at hR
     try dsimp only at hR
     refine qd ?_
     refine qd ?_
     obtain ⟨y10, by10, hR⟩ := ql hR
     refine qb [.p, .p, .p, .p, .p, .p, .p, .p, .p, .r, .p, .p, .p] ?_
     refine st rfl rfl (qa rfl rfl) rfl ?_
     refine st rfl rfl (qq rfl rfl) rfl ?_
     refine st rfl rfl (qa1 rfl Tryz.underlying134 rfl) rfl ?_
     refine st rfl rfl (ze rfl rfl rfl) rfl ?_
     refine st rfl rfl (qa rfl rfl) rfl ?_
     refine st_g rfl rfl rfl (qg _ _) (fun h => qq rfl rfl) rfl ?_
     refine st_g rfl rfl rfl (qg _ _) (fun h => qa rfl rfl) rfl ?_
     refine st_g rfl rfl rfl (qg _ _) (fun h => ji rfl Tryz.underlying134 qfc (gd h rfl) (gd h rfl) (z7 (jn by10 h)) (Nat.lt_of_lt_of_eq (jf (za (jn by10 h))) rfl)) rfl ?_
     refine st_g rfl rfl rfl (qg _ _) (fun h => xf rfl qiv (gd h rfl)) rfl ?_
     refine qbj rfl rfl rfl (qg _ _) (fun h => xg (f := S137.c) (l := x2) (a := y10) rfl ty9 (gd h rfl) rfl (za (jn by10 h)) rfl) rfl ?_
     refine st_g rfl rfl rfl (qg _ _) (fun h => qa rfl rfl) rfl ?_
     refine st_g rfl rfl rfl (qg _ _) (fun h => qh2 rfl (gd h rfl) (gd h rfl)) rfl ?_
     refine st rfl rfl (zf rfl rfl rfl rfl) rfl ?_
     refine qe ?_
     refine qm _ rfl (fun h3 => ?_) (fun h3 => ?_)
     ·replace h3 : ((decide (x8 < (List.length x2 : Int))) && (strLt y10.Name y5.Name)) = true := h3
      replace hR := zk hR h3
      try simp only [Bool.or_eq_true, Bool.and_eq_true, Bool.or_eq_false_iff, Bool.and_eq_false_iff, Bool.not_eq_true', Bool.not_eq_false', decide_eq_true_eq, decide_eq_false_iff_not] at h3
      refine qo ?_
      refine qn ?_
      refine qb [.p, .p, .p] ?_
      refine st rfl rfl (qa rfl rfl) rfl ?_
      refine st rfl rfl (zj rfl rfl rfl (by unfold I64; (try dsimp only); omega)) rfl ?_
      refine st rfl rfl (qc rfl rfl) rfl ?_
      refine qe ?_
      exact ⟨rfl, (k9, x8 + 1), ⟨rfl, rfl, rfl, rfl, rfl, rfl, rfl, trivial⟩, ⟨rfl, trivial⟩, rfl, ⟨(by first | omega | (dsimp only; omega) | (simp at *; omega)), (by first | omega | (dsimp only; omega) | (simp at *; omega)), (by first | omega | (dsimp only; omega) | (simp at *; omega)), hR⟩, by simp⟩
     ·replace h3 : ((decide (x8 < (List.length x2 : Int))) && (strLt y10.Name y5.Name)) = false := h3
      replace hR := zl hR h3
      try simp only [Bool.or_eq_true, Bool.and_eq_true, Bool.or_eq_false_iff, Bool.and_eq_false_iff, Bool.not_eq_true', Bool.not_eq_false', decide_eq_true_eq, decide_eq_false_iff_not] at h3
      refine zg ?_
      refine qd ?_
      refine qd ?_
      obtain ⟨y11, by11, hR⟩ := ql hR
      refine qb [.p, .p, .p, .p, .p, .p, .p, .p, .p, .r, .p, .p, .p] ?_
      refine st rfl rfl (qa rfl rfl) rfl ?_
      refine st rfl rfl (qq rfl rfl) rfl ?_
      refine st rfl rfl (qa1 rfl Tryz.underlying134 rfl) rfl ?_
      refine st rfl rfl (ze rfl rfl rfl) rfl ?_
      refine st rfl rfl (qa rfl rfl) rfl ?_
      refine st_g rfl rfl rfl (qg _ _) (fun h => qq rfl rfl) rfl ?_
      refine st_g rfl rfl rfl (qg _ _) (fun h => qa rfl rfl) rfl ?_
      refine st_g rfl rfl rfl (qg _ _) (fun h => ji rfl Tryz.underlying134 qfc (gd h rfl) (gd h rfl) (z7 (jn by11 h)) (Nat.lt_of_lt_of_eq (jf (za (jn by11 h))) rfl)) rfl ?_
      refine st_g rfl rfl rfl (qg _ _) (fun h => xf rfl qiv (gd h rfl)) rfl ?_
      refine qbj rfl rfl rfl (qg _ _) (fun h => xg (f := S137.c) (l := x2) (a := y11) rfl ty9 (gd h rfl) rfl (za (jn by11 h)) rfl) rfl ?_
      refine st_g rfl rfl rfl (qg _ _) (fun h => qa rfl rfl) rfl ?_
      refine st_g rfl rfl rfl (qg _ _) (fun h => ju rfl (gd h rfl) (gd h rfl)) rfl ?_
      refine st rfl rfl (zf rfl rfl rfl rfl) rfl ?_
      refine qe ?_
      refine qm _ rfl (fun h4 => ?_) (fun h4 => ?_)
      ·replace h4 : ((decide (x8 < (List.length x2 : Int))) && (decide (y11.Name = y5.Name))) = true := h4
       replace hR := zk hR h4
       try simp only [Bool.or_eq_true, Bool.and_eq_true, Bool.or_eq_false_iff, Bool.and_eq_false_iff, Bool.not_eq_true', Bool.not_eq_false', decide_eq_true_eq, decide_eq_false_iff_not] at h4
       refine zg ?_
       exact ⟨rfl, x2, ⟨rfl, rfl, rfl, rfl, rfl, trivial⟩, ⟨rfl, trivial⟩, rfl, ⟨(by first | omega | (dsimp only; omega) | (simp at *; done) | (simp at *; omega)), hR⟩, trivial⟩
      ·replace h4 : ((decide (x8 < (List.length x2 : Int))) && (decide (y11.Name = y5.Name))) = false := h4
       replace hR := zl hR h4
       try simp only [Bool.or_eq_true, Bool.and_eq_true, Bool.or_eq_false_iff, Bool.and_eq_false_iff, Bool.not_eq_true', Bool.not_eq_false', decide_eq_true_eq, decide_eq_false_iff_not] at h4
       refine qo ?_
       refine qd ?_
       obtain ⟨r12, br12, hR⟩ := ql hR
       refine qb [.p, .p, .p, .p, .w, .w] ?_
       refine st rfl rfl (qa rfl rfl) rfl ?_
       refine st rfl rfl (qa rfl rfl) rfl ?_
       refine st rfl rfl (qa rfl rfl) rfl ?_
       refine st rfl rfl (qj rfl K130 rfl (c130 a1 r1 y5.Name (-1) br12) (qh rfl (qh rfl (qh rfl (qh rfl qk))))) rfl ?_
       refine st_w rfl rfl (jm 12 rfl z63 rfl rfl) rfl ?_
       refine j8 rfl rfl (zt (tv := .g (G.agg [G.int r12.Flown, G.int r12.Due])) rfl ty63 rfl rfl rfl rfl rfl) ?_
       refine qe ?_
       refine wx (l := [(1, .g (G.sl 3 (List.map S151.c a1))), (3, .g (G.ref [G.int a0.Before, G.int a0.After, G.int a0.Notice, G.int a0.Share, G.sl 1 (List.map cStr a0.Causes), G.int a0.Off, G.int a0.Run])), (7, .g (G.sl 1 (List.map cStr r1))), (8, .osl 8 4 0 (List.length x2)), (9, .g (G.int ((k4 : Nat) : Int))), (10, .g (G.str y5.Name)), (11, .g (G.int x8)), (12, .g (G.ref [G.int r12.Flown, G.int r12.Due]))]) (m := [(8, .arr 138 4 (List.map S137.c x2))]) 12 rfl ⟨.inl ⟨rfl, rfl⟩, .inl ⟨rfl, rfl⟩, .inl ⟨rfl, rfl⟩, .inl ⟨rfl, rfl⟩, .inl ⟨rfl, rfl⟩, .inl ⟨rfl, rfl⟩, .inl ⟨rfl, rfl⟩, .inr (qev rfl), trivial⟩ ⟨rfl, trivial⟩ rfl rfl ?_
       refine qmp ?_
       refine qb8 [.w, .pn 60, .pn 60, .pn 60, .kn 60, .pn 60, .pn 60, .pn 60, .pn 60, .pn 60, .pn 60, .pn 60, .kn 60, .pn 60, .pn 60, .pn 60, .kn 60, .p] (by kernel_rfl) ?_
       refine st_w rfl rfl (qak (xs := List.map S137.c []) 60 rfl Tryz.underlying134 qfc z138 rfl z4 rfl (by simp [S137.c, S55.c]) (by decide) rfl) rfl ?_
       refine kz rfl rfl (qq rfl rfl) rfl rfl rfl ?_
       refine kz rfl rfl (qa rfl rfl) rfl rfl rfl ?_
       refine kz rfl rfl (qbl (a := 0) (c := Int.toNat x8) rfl Tryz.underlying134 qfc rfl xl (xm rfl (by omega)) (by omega) (by omega)) rfl rfl rfl ?_
       refine qdg rfl rfl (z5 (f := S137.c) (out := []) (new := List.take (Int.toNat x8) x2) rfl qnm rfl rfl (kc rfl (qex (l := x2) rfl rfl (by simp [S137.c, S55.c]) (by omega) (by omega))) (vp rfl) (by simp; omega)) rfl ?_
       refine kz rfl rfl (qa rfl rfl) rfl rfl rfl ?_
       refine kz rfl rfl (qt rfl ty63 rfl rfl rfl) rfl rfl rfl ?_
       refine kz rfl rfl (qt rfl ty29 rfl rfl rfl) rfl rfl rfl ?_
       refine kz rfl rfl (qt rfl ty63 rfl rfl rfl) rfl rfl rfl ?_
       refine kz rfl rfl (qj rfl K37 rfl (c37 a0 (S55.mk r12.Flown r12.Due)) (qh rfl (qh rfl qk))) rfl rfl rfl ?_
       refine kz rfl rfl (vk rfl z138 rfl qwo (j9 rfl (j9 rfl (j9 rfl qaz))) rfl) rfl rfl rfl ?_
       refine kz rfl rfl (qu rfl Tryz.underlying134 qfc z138 rfl (qw rfl z4) rfl (by exact lens rfl) (by decide)) rfl rfl rfl ?_
       refine qdg rfl rfl (z5 (f := S137.c) (out := [] ++ (List.take (Int.toNat x8) x2)) (new := [(S137.mk y5.Name (S55.mk r12.Flown r12.Due) (s37 a0 (S55.mk r12.Flown r12.Due)))]) rfl qnm rfl rfl (kc rfl (vc (by decide) (by simp [S137.c, S55.c]))) (vp rfl) (by simp; omega)) rfl ?_
       refine kz rfl rfl (qq rfl rfl) rfl rfl rfl ?_
       refine kz rfl rfl (qa rfl rfl) rfl rfl rfl ?_
       refine kz rfl rfl (qbl (a := Int.toNat x8) (c := List.length x2) rfl Tryz.underlying134 qfc rfl (xm rfl (by omega)) xl (by omega) (by omega)) rfl rfl rfl ?_
       refine qdg rfl rfl (z5 (f := S137.c) (out := ([] ++ (List.take (Int.toNat x8) x2)) ++ [(S137.mk y5.Name (S55.mk r12.Flown r12.Due) (s37 a0 (S55.mk r12.Flown r12.Due)))]) (new := List.drop (Int.toNat x8) x2) rfl qnm rfl rfl (kc rfl (qey (l := x2) rfl rfl (by simp [S137.c, S55.c]) (by omega) (by omega))) (vp rfl) (by simp; omega)) rfl ?_
       refine st rfl rfl (qy rfl rfl) rfl ?_
       refine qe ?_
       refine ⟨[(8, 60)], [(1, .g (G.sl 3 (List.map S151.c a1))), (3, .g (G.ref [G.int a0.Before, G.int a0.After, G.int a0.Notice, G.int a0.Share, G.sl 1 (List.map cStr a0.Causes), G.int a0.Off, G.int a0.Run])), (7, .g (G.sl 1 (List.map cStr r1))), (8, .osl 8 4 0 (List.length ((([] ++ (List.take (Int.toNat x8) x2)) ++ [(S137.mk y5.Name (S55.mk r12.Flown r12.Due) (s37 a0 (S55.mk r12.Flown r12.Due)))]) ++ (List.drop (Int.toNat x8) x2)))), (9, .g (G.int ((k4 : Nat) : Int)))], [(8, .arr 138 4 (List.map S137.c ((([] ++ (List.take (Int.toNat x8) x2)) ++ [(S137.mk y5.Name (S55.mk r12.Flown r12.Due) (s37 a0 (S55.mk r12.Flown r12.Due)))]) ++ (List.drop (Int.toNat x8) x2))))], ⟨rfl, rfl, rfl, rfl, rfl, trivial⟩, ⟨rfl, trivial⟩, rfl, rfl, rfl, ?_⟩
       exact ⟨rfl, (([] ++ (List.take (Int.toNat x8) x2)) ++ [(S137.mk y5.Name (S55.mk r12.Flown r12.Due) (s37 a0 (S55.mk r12.Flown r12.Due)))]) ++ (List.drop (Int.toNat x8) x2), ⟨rfl, rfl, rfl, rfl, rfl, trivial⟩, ⟨rfl, trivial⟩, rfl, ⟨(by first | omega | (dsimp only; omega) | (simp at *; done) | (simp at *; omega)), hR⟩, trivial⟩
   ·rintro x7 ⟨jv1_0, hR⟩
    replace jv1_0 : x7.length ≤ k4 + 1 := jv1_0
    replace hR : s73_j1 (fun k_ z0_ => s73_l1 a0 a1 r1 t6 k_ z0_) k4 x7 = some R := hR
    unfold s73_j1 at hR
    refine qb [.p, .p, .p] ?_
    refine st rfl rfl (qa rfl rfl) rfl ?_
    refine st rfl rfl (zj rfl rfl rfl (by unfold I64; omega)) rfl ?_
    refine st rfl rfl (qc rfl rfl) rfl ?_
    refine qe ?_
    exact ⟨rfl, (k4 + 1, t6, x7), ⟨rfl, rfl, rfl, rfl, rfl, trivial⟩, ⟨rfl, trivial⟩, rfl, ⟨(by first | omega | (dsimp only; omega) | (simp at *; omega)), hd, hR⟩, by simp⟩
  ·replace h1 : (decide (((k4 : Nat) : Int) < (List.length a1 : Int))) = false := h1
   obtain rfl := zm hd (decF h1)
   rw [s73_l1] at hR
   refine zg ?_
   refine qd ?_
   refine qb [.p, .p] ?_
   refine st rfl rfl (qq rfl rfl) rfl ?_
   refine st rfl rfl (qy rfl rfl) rfl ?_
   refine qe ?_
   refine qr ?_
   obtain rfl := Option.some.inj hR
   exact kx rfl rfl rfl ((List.length_map ..).trans rfl)
theorem c73 {g : List (Nat × List Value)} (a0 : S23) (a1 : List S151) (a2 : List S104) {R : List S137}  (hb1 : a1.length ≤ 12) (hb2 : a2.length ≤ 12) (hR : s73 a0 a1 a2 = some R) : Con (EG g) 73 [G.agg [G.int a0.Before, G.int a0.After, G.int a0.Notice, G.int a0.Share, G.sl 1 (List.map cStr a0.Causes), G.int a0.Off, G.int a0.Run], G.sl 3 (List.map S151.c a1), G.sl 8 (List.map S104.c a2)] (G.sl 4 (List.map S137.c R)) :=
 ConN.con (by decide) (n73 a0 a1 a2 hb1 hb2 hR)
end Go.Sim
namespace Go.Sim
theorem qva {a b c : Int} (h : s85 a b c = 0) : b ≤ a ∧ a ≤ c := by
 unfold s85 s86 at h
 by_cases h1 : a < b
 ·simp [h1] at h
 ·by_cases h2 : c < a
  ·simp [h2] at h
  ·omega
theorem qns (l : List S151) (f : S151 → Int) : s93 l f = l.map f := by
 have key : ∀ (l : List S151) (k : Nat) (x : List Int), s93_l1 f l k x = x ++ l.map f := by
  intro l
  induction l with
  | nil => intro k x; simp [s93_l1]
  | cons y l ih => intro k x; rw [s93_l1, ih]; simp
 unfold s93; rw [key]; rfl
theorem qsp {l : List S151} (h : s25 l = 0) {s : S151} (hs : s ∈ l) : 0 ≤ s.Moment ∧ s.Moment ≤ 143999999 := by
 unfold s25 at h
 by_cases h1 : 512 < (l.length : Int)
 ·rw [decide_eq_true h1] at h; cases h
 ·rw [decide_eq_false h1, cond_false, qns] at h
  have h2 := qc1 h (s94 s) (List.mem_map_of_mem hs)
  unfold s94 at h2
  exact qva (qc1 h2 (s85 s.Moment 0 143999999) (by simp))
end Go.Sim
namespace Go.Sim
end Go.Sim
set_option linter.unusedSimpArgs false
set_option linter.unusedVariables false
set_option maxRecDepth 10000
namespace Go.Sim
open Go.Proofs
theorem qke (d : Int) : 0 ≤ (s140 d).1 ∧ (s140 d).1 < 7 := by
 unfold s140
 by_cases h : s153 d = 0
 ·rw [decide_eq_false (by simpa using h), cond_false]
  have h1 : 0 ≤ d ∧ d ≤ 99999 := by
   unfold s153 s155 s154 at h
   by_cases h1 : d < 0
   ·simp [h1] at h
   ·by_cases h2 : 99999 < d
    ·simp [h2] at h
    ·omega
  show 0 ≤ s188 d ∧ s188 d < 7
  unfold s188
  rw [wrap_i64 ⟨by omega, by omega⟩, Int.tmod_eq_emod_of_nonneg (by omega)]
  omega
 ·rw [decide_eq_true h, cond_true]; exact ⟨Int.le_refl 0, (by decide : (0 : Int) < 7)⟩
def s72_l2 (a0 : S23) : List S55 → Nat → Int → Int
 | [], _, x => x
 | y :: t, k, x => bif s106 a0 y then s72_l2 a0 t (k + 1) (orI x (shlI 1 ((k : Nat) : Int))) else s72_l2 a0 t (k + 1) x
def s72_l1 (a0 : S23) (a1 : List S151) : List Int → Nat → List S55 → Option (Int × Int)
 | [], _, x => some (s72_l2 a0 x 0 0, 0)
 | y :: t, k, x => bindO (ixO a1 ((k : Nat) : Int)) fun y8 => bindO (ixO x (s140 (y8.Moment / 1440)).1) fun z => s72_l1 a0 a1 t (k + 1) (x.set (s140 (y8.Moment / 1440)).1.toNat (s126 z y))
def s72 (a0 : S23) (a1 : List S151) (a2 : List S104) : Option (Int × Int) :=
 (bif decide ((s122 a0 a1 a2) ≠ 0) then some (0, (s122 a0 a1 a2)) else bindO (s124 a0 a1 a2) fun r1 => s72_l1 a0 a1 r1 0 (List.replicate 7 (S55.mk 0 0)))
theorem qqi : Tryz.prog.underlying 218 = some (.array 7 56) := by kernel_rfl
set_option maxHeartbeats 4000000 in
theorem c72 (a0 : S23) (a1 : List S151) (a2 : List S104) {R : Int × Int} (hb : ¬ s122 a0 a1 a2 ≠ 0 → (a1.length ≤ 12 ∧ a2.length ≤ 12) ∧ ∀ s ∈ a1, 0 ≤ s.Moment ∧ s.Moment ≤ 143999999) (hc1 : a1.length * 40 ≤ 140737488351232) (hc2 : a2.length * 96 ≤ 140737488351232) (hR : s72 a0 a1 a2 = some R) :
  Con (EG glT) 72 [G.agg [G.int a0.Before, G.int a0.After, G.int a0.Notice, G.int a0.Share, G.sl 1 (List.map cStr a0.Causes), G.int a0.Off, G.int a0.Run], G.sl 3 (List.map S151.c a1), G.sl 8 (List.map S104.c a2)] (G.tup [G.int R.1, G.int R.2]) := by
 unfold s72 at hR
 refine qp Tryz.func72 rfl rfl fun w0 M0 => ?_
 refine zc (f := S151.c) (l := a1) 1 rfl fun hla1 => ?_
 refine zc (f := S104.c) (l := a2) 2 rfl fun hla2 => ?_
 refine qd ?_
 refine qb [.p, .p, .p] ?_
 refine st rfl rfl (zd rfl rfl) rfl ?_
 refine st rfl rfl (qc rfl rfl) rfl ?_
 refine st rfl rfl (qc rfl rfl) rfl ?_
 refine qe ?_
 refine qd ?_
 refine qd ?_
 refine qb [.p, .p, .p, .p, .p] ?_
 refine st rfl rfl (qt rfl ty24 rfl rfl rfl) rfl ?_
 refine st rfl rfl (qa rfl rfl) rfl ?_
 refine st rfl rfl (qa rfl rfl) rfl ?_
 refine st rfl rfl (qj rfl K122 rfl (c122 a0 a1 a2 hc1 hc2) (qh rfl (qh rfl (qh rfl qk)))) rfl ?_
 refine st rfl rfl (qc rfl rfl) rfl ?_
 refine qe ?_
 refine qd ?_
 refine qb [.p, .p] ?_
 refine st rfl rfl (qa rfl rfl) rfl ?_
 refine st rfl rfl (zz rfl rfl rfl) rfl ?_
 refine qe ?_
 refine qm _ rfl (fun h1 => ?_) (fun h1 => ?_)
 ·replace h1 : (decide ((s122 a0 a1 a2) ≠ 0)) = true := h1
  replace hR := zk hR h1
  refine qd ?_
  refine qb [.p, .p, .p] ?_
  refine st rfl rfl (qa rfl rfl) rfl ?_
  refine st rfl rfl (qc rfl rfl) rfl ?_
  refine st rfl rfl (qc rfl rfl) rfl ?_
  refine qe ?_
  refine qr ?_
  obtain rfl := Option.some.inj hR
  exact resN rfl ⟨rv_g rfl, rv_g rfl, trivial⟩ (by simp)
 ·replace h1 : (decide ((s122 a0 a1 a2) ≠ 0)) = false := h1
  replace hR := zl hR h1
  obtain ⟨⟨hb1, hb2⟩, hmo⟩ := hb (of_decide_eq_false h1)
  refine qo ?_
  refine qd ?_
  refine qb [.w] ?_
  refine st_w rfl rfl (qk6 (N := 7) (c := [G.int 0, G.int 0]) 9 rfl z218 rfl (by decide) rfl rfl rfl) rfl ?_
  refine qe ?_
  refine qd ?_
  refine qd ?_
  refine Exists.elim (ql hR) (fun r1 hq_ => ?_)
  have br1 := hq_.1
  replace hR := hq_.2
  clear hq_
  refine qb [.p, .p, .p, .p, .p, .p] ?_
  refine st rfl rfl (qt rfl ty24 rfl rfl rfl) rfl ?_
  refine st rfl rfl (qa rfl rfl) rfl ?_
  refine st rfl rfl (qa rfl rfl) rfl ?_
  refine st rfl rfl (qj rfl K124 rfl (c124 a0 a1 a2 hb1 hb2 br1) (qh rfl (qh rfl (qh rfl qk)))) rfl ?_
  refine st rfl rfl (q9 (f := cInt) (l := r1) rfl Tryz.underlying82 rfl) rfl ?_
  refine st rfl rfl (qa rfl rfl) rfl ?_
  refine qe ?_
  refine qn ?_
  refine qx (γ := Nat × (List Int) × (List S55)) (fun g => ([(1, .g (G.sl 3 (List.map S151.c a1))), (3, .g (G.ref [G.int a0.Before, G.int a0.After, G.int a0.Notice, G.int a0.Share, G.sl 1 (List.map cStr a0.Causes), G.int a0.Off, G.int a0.Run])), (9, .eptr 9 2 0 0), (27, .g (G.sl 1 (List.map cInt r1))), (28, .g (G.int (List.length r1 : Int))), (29, .g (G.int ((g.1 : Nat) : Int)))], [(9, .arr 218 2 (List.map S55.c g.2.2))])) (fun g => g.2.2.length = 7 ∧ r1.drop g.1 = g.2.1 ∧ s72_l1 a0 a1 g.2.1 g.1 g.2.2 = some R) (fun g => g.2.1.length) ⟨rfl, (0, r1, List.replicate 7 (S55.mk 0 0)), ⟨rfl, rfl, rfl, rfl, rfl, rfl, trivial⟩, ⟨rfl, trivial⟩, rfl, ⟨rfl, rfl, hR⟩, trivial⟩ ?_
  ·rintro ⟨k4, u6, x3⟩ ⟨hx7, hd, hR⟩
   replace hd : r1.drop k4 = u6 := hd
   replace hR : s72_l1 a0 a1 u6 k4 x3 = some R := hR
   replace hx7 : x3.length = 7 := hx7
   refine qd ?_
   refine qb [.p] ?_
   refine st rfl rfl (ze rfl rfl rfl) rfl ?_
   refine qe ?_
   refine zc (f := cInt) (l := r1) 27 rfl fun hlz1 => ?_
   refine qd ?_
   refine qm _ rfl (fun h2 => ?_) (fun h2 => ?_)
   ·replace h2 : (decide (((k4 : Nat) : Int) < (List.length r1 : Int))) = true := h2
    refine Exists.elim (zh hd (decT h2)) (fun y5 hq_ => ?_)
    refine Exists.elim hq_ (fun t6 hqq_ => ?_)
    have et6 := hqq_.1
    have hx1 := hqq_.2.1
    replace hd := hqq_.2.2
    clear hqq_ hq_
    rw [et6] at hR
    replace h2 := decT h2
    rw [s72_l1] at hR
    refine qo ?_
    refine qd ?_
    refine qn ?_
    refine qd ?_
    refine qb [.p, .p, .p, .p, .p] ?_
    refine st rfl rfl (qa rfl rfl) rfl ?_
    refine st rfl rfl (zi (f := cInt) (l := r1) (a := y5) rfl Tryz.underlying82 ty3 rfl rfl (Int.natCast_nonneg _) hx1) rfl ?_
    refine st rfl rfl (qi rfl ty3 rfl) rfl ?_
    refine st rfl rfl (qc rfl rfl) rfl ?_
    refine st rfl rfl (qc rfl rfl) rfl ?_
    refine qe ?_
    refine qd ?_
    refine Exists.elim (ql hR) (fun y8 hq_ => ?_)
    have by8 := hq_.1
    replace hR := hq_.2
    clear hq_
    refine Exists.elim (ql hR) (fun z hq_ => ?_)
    have bz := hq_.1
    replace hR := hq_.2
    clear hq_
    have hm8 := hmo y8 (List.mem_of_getElem? (za by8))
    have hw8 := qke (y8.Moment / 1440)
    refine qb [.p, .p, .p, .p, .p, .p, .p, .p, .p, .p, .p, .p] ?_
    refine st rfl rfl (qa rfl rfl) rfl ?_
    refine st rfl rfl (qa rfl rfl) rfl ?_
    refine st rfl rfl (zi (f := S151.c) (l := a1) (a := y8) rfl Tryz.underlying25 ko rfl rfl (z7 by8) (za by8)) rfl ?_
    refine st rfl rfl (qf rfl vw rfl) rfl ?_
    refine st rfl rfl (qi rfl ty3 rfl) rfl ?_
    refine st rfl rfl (qq6 rfl rfl rfl hm8.1 (by decide) (by unfold I64; omega)) rfl ?_
    refine st rfl rfl (qj rfl K140 rfl (c140 (y8.Moment / 1440)) (qh rfl qk)) rfl ?_
    refine st rfl rfl (qa rfl rfl) rfl ?_
    refine st rfl rfl (zp rfl rfl rfl) rfl ?_
    refine st rfl rfl (zp rfl rfl rfl) rfl ?_
    refine st rfl rfl (qc rfl rfl) rfl ?_
    refine st rfl rfl (qc rfl rfl) rfl ?_
    refine qe ?_
    refine qb [.p, .p, .p, .w] ?_
    refine st rfl rfl (qa rfl rfl) rfl ?_
    refine st rfl rfl (qk7 rfl qqi ty56 rfl rfl hw8.1 (by omega)) rfl ?_
    refine st rfl rfl (qa rfl rfl) rfl ?_
    refine st_w rfl rfl (qk9 0 9 rfl K126 rfl (qwr y5 (za bz)) (qot rfl (jb rfl rfl ww)) rfl rfl rfl) rfl ?_
    refine qe ?_
    refine qb [.p, .p] ?_
    refine st rfl rfl (zj rfl rfl rfl (by unfold I64; omega)) rfl ?_
    refine st rfl rfl (qa rfl rfl) rfl ?_
    refine qe ?_
    exact ⟨rfl, (k4 + 1, t6, x3.set (s140 (y8.Moment / 1440)).1.toNat (s126 z y5)), ⟨rfl, rfl, rfl, rfl, rfl, rfl, trivial⟩, ⟨rfl, trivial⟩, rfl, ⟨(List.length_set ..).trans hx7, hd, hR⟩, by simp [et6]⟩
   ·replace h2 : (decide (((k4 : Nat) : Int) < (List.length r1 : Int))) = false := h2
    have hn_ := zm hd (decF h2)
    rw [hn_] at hR
    rw [s72_l1] at hR
    replace hR := Option.some.inj hR
    refine zg ?_
    refine qd ?_
    refine qb [.p] ?_
    refine st rfl rfl (qc rfl rfl) rfl ?_
    refine qe ?_
    refine qd ?_
    refine qd ?_
    refine qb [.r, .p] ?_
    refine st_r rfl rfl (qmr rfl qwq rfl rfl (by rw [List.length_map, hx7])) rfl ?_
    refine st rfl rfl (qa rfl rfl) rfl ?_
    refine qe ?_
    refine qn ?_
    refine qx (γ := Nat × (List S55) × Int) (fun g => ([(3, .g (G.ref [G.int a0.Before, G.int a0.After, G.int a0.Notice, G.int a0.Share, G.sl 1 (List.map cStr a0.Causes), G.int a0.Off, G.int a0.Run])), (14, .g (G.int g.2.2)), (49, .g (G.agg (List.map S55.c x3).flatten)), (50, .g (G.int ((g.1 : Nat) : Int)))], [])) (fun g => x3.drop g.1 = g.2.1 ∧ (s72_l2 a0 g.2.1 g.1 g.2.2, (0 : Int)) = R) (fun g => g.2.1.length) ⟨rfl, (0, x3, 0), ⟨rfl, rfl, rfl, rfl, trivial⟩, trivial, rfl, ⟨rfl, hR⟩, trivial⟩ ?_
    ·rintro ⟨k7, u7, x14⟩ ⟨hd, hR⟩
     replace hd : x3.drop k7 = u7 := hd
     replace hR : (s72_l2 a0 u7 k7 x14, (0 : Int)) = R := hR
     refine qd ?_
     refine qb [.p] ?_
     refine st rfl rfl (ze rfl rfl rfl) rfl ?_
     refine qe ?_
     refine qd ?_
     refine qm _ rfl (fun h3 => ?_) (fun h3 => ?_)
     ·replace h3 : (decide (((k7 : Nat) : Int) < 7)) = true := h3
      have h3' := decT h3
      refine Exists.elim (zh hd (by omega)) (fun y7 hq_ => ?_)
      refine Exists.elim hq_ (fun t7 hqq_ => ?_)
      have et7 := hqq_.1
      have hx2 := hqq_.2.1
      replace hd := hqq_.2.2
      clear hqq_ hq_
      rw [et7] at hR
      rw [s72_l2] at hR
      have hgx : (List.map S55.c x3)[(((k7 : Nat) : Int)).toNat]? = some (S55.c y7) := by rw [Int.toNat_natCast, List.getElem?_map, hx2]; rfl
      refine qo ?_
      refine qd ?_
      refine qn ?_
      refine qd ?_
      refine qb [.p, .p, .w, .p, .w] ?_
      refine st rfl rfl (qa rfl rfl) rfl ?_
      refine st rfl rfl (qk8 (c := S55.c y7) rfl qqi ty56 rfl rfl (Int.natCast_nonneg _) (by omega) (fun c hc => by
       obtain ⟨s, _, rfl⟩ := List.mem_map.1 hc; rfl) hgx) rfl ?_
      refine st_w rfl rfl (jm 16 rfl z56 rfl rfl) rfl ?_
      refine st rfl rfl (qc rfl rfl) rfl ?_
      refine j8 rfl rfl (zt (tv := .g (G.agg [G.int y7.Flown, G.int y7.Due])) rfl ty56 rfl rfl rfl rfl rfl) ?_
      refine qe ?_
      refine qd ?_
      refine qb [.p, .r, .p] ?_
      refine st rfl rfl (qt rfl ty24 rfl rfl rfl) rfl ?_
      refine st_r rfl rfl (jo rfl ty56 rfl rfl rfl rfl) rfl ?_
      refine st rfl rfl (qj rfl K106 rfl (c106 a0 y7) (qh rfl (qh rfl qk))) rfl ?_
      refine qe ?_
      refine qm _ rfl (fun h4 => ?_) (fun h4 => ?_)
      ·replace h4 : s106 a0 y7 = true := h4
       rw [h4, cond_true] at hR
       refine qb [.p, .p, .p, .p, .p] ?_
       refine st rfl rfl (qa rfl rfl) rfl ?_
       refine st rfl rfl (qa rfl rfl) rfl ?_
       refine st rfl rfl (qrh rfl rfl rfl (by omega)) rfl ?_
       refine st rfl rfl (qrg rfl rfl rfl) rfl ?_
       refine st rfl rfl (qc rfl rfl) rfl ?_
       refine qe ?_
       refine qb [.p, .p] ?_
       refine st rfl rfl (zj rfl rfl rfl (by unfold I64; omega)) rfl ?_
       refine st rfl rfl (qa rfl rfl) rfl ?_
       refine qe ?_
       exact ⟨rfl, (k7 + 1, t7, orI x14 (shlI 1 ((k7 : Nat) : Int))), ⟨rfl, rfl, rfl, rfl, trivial⟩, trivial, rfl, ⟨hd, hR⟩, by simp [et7]⟩
      ·replace h4 : s106 a0 y7 = false := h4
       rw [h4, cond_false] at hR
       refine qo ?_
       refine qb [.p, .p] ?_
       refine st rfl rfl (zj rfl rfl rfl (by unfold I64; omega)) rfl ?_
       refine st rfl rfl (qa rfl rfl) rfl ?_
       refine qe ?_
       exact ⟨rfl, (k7 + 1, t7, x14), ⟨rfl, rfl, rfl, rfl, trivial⟩, trivial, rfl, ⟨hd, hR⟩, by simp [et7]⟩
     ·replace h3 : (decide (((k7 : Nat) : Int) < 7)) = false := h3
      have h3' := decF h3
      have hn_ := zm hd (by omega)
      rw [hn_] at hR
      rw [s72_l2] at hR
      refine zg ?_
      refine qd ?_
      refine qb [.p, .p, .p] ?_
      refine st rfl rfl (qa rfl rfl) rfl ?_
      refine st rfl rfl (qc rfl rfl) rfl ?_
      refine st rfl rfl (qc rfl rfl) rfl ?_
      refine qe ?_
      refine qr ?_
      subst hR
      exact resN rfl ⟨rv_g rfl, rv_g rfl, trivial⟩ (by simp)
end Go.Sim
namespace Go.Sim
theorem qnt {a0 : S23} {a1 : List S151} {a2 : List S104} {p q : Prop} (h : ((p ∧ q) ∧ s19 (s20 a1) 10 = true) ∧ s21 (s22 a2) 10 = true) : ¬ s122 a0 a1 a2 ≠ 0 → (a1.length ≤ 12 ∧ a2.length ≤ 12) ∧ ∀ s ∈ a1, 0 ≤ s.Moment ∧ s.Moment ≤ 143999999 := by
 intro h0
 obtain ⟨_, g1, g2⟩ := qmt (by omega : s122 a0 a1 a2 = 0)
 have k1 := qr5 g1
 have k2 := qrn g2
 have m1 := qr6 h.1.2
 have m2 := qro h.2
 exact ⟨⟨by omega, by omega⟩, fun s hs => qsp g1 hs⟩
end Go.Sim
