/-
  What is proved: the sorts: what they compute is the stable sort by insertion.
-/
import Derived.Test.YtdfgeoefbbkcnaaGreatDoorVaF1
import Derived.Test.YtdfgeoefbbkcnaaGreatDoorVaA7
import Derived.Test.YtdfgeoefbbkcnaaGreatDoorVaA4
set_option linter.unusedSectionVars false
set_option linter.unusedSimpArgs false
set_option linter.unusedVariables false
set_option linter.unnecessarySimpa false
set_option linter.deprecated false
set_option linter.unusedSimpArgs false
set_option linter.unusedVariables false
set_option maxRecDepth 10000
namespace Go.Sim
open Go.Proofs
def s202 (a0 : Int) : Bool :=
 decide (a0 ≠ a0)
theorem c202 {g : List (Nat × List Value)} (a0 : Int)    : Con (EG g) 202 [G.int a0] (G.bool (s202 a0)) := by
 generalize hR : s202 a0 = R
 unfold s202 at hR
 refine qp Tryz.func202 rfl rfl fun w0 M0 => ?_
 refine qd ?_
 refine qb [.p] ?_
 refine st rfl rfl (qc rfl rfl) rfl ?_
 refine qe ?_
 refine qd ?_
 refine qb [.p, .p, .p, .p] ?_
 refine st rfl rfl (qa rfl rfl) rfl ?_
 refine st rfl rfl (qa rfl rfl) rfl ?_
 refine st rfl rfl (zz rfl rfl rfl) rfl ?_
 refine st rfl rfl (qc rfl rfl) rfl ?_
 refine qe ?_
 refine qr ?_
 subst hR
 exact zb rfl (rv_g rfl)
def s252_l2 (rec1 : Int → (List Int) → Option (List Int)) (a1 : Int) (a3 : Int → Int → Option Int) (x1 : Int) : Nat → Int → (List Int) → Option (List Int)
 | 0, _, _ => none
 | k8 + 1, x5, x6 => bindO (bif decide (a1 < x5) then ixO x6 x5 else some default) fun y9 => bindO (bif decide (a1 < x5) then ixO x6 (x5 - 1) else some default) fun y10 => bindO (bif decide (a1 < x5) then a3 y9 y10 else some default) fun r11 => (bif (decide (a1 < x5)) && (decide (r11 < 0)) then bindO (ixO x6 (x5 - 1)) fun y12 => bindO (ixO x6 x5) fun y13 => bindO (ixO x6 x5) fun y14 => bindO (ixO (List.set x6 (Int.toNat x5) y12) (x5 - 1)) fun y15 => s252_l2 rec1 a1 a3 x1 k8 (x5 - 1) (List.set (List.set x6 (Int.toNat x5) y12) (Int.toNat (x5 - 1)) y13) else rec1 (x1 + 1) x6)
def s252_l1 (a1 : Int) (a3 : Int → Int → Option Int) : Nat → Int → (List Int) → Option (List Int)
 | 0, x1, x2 => some x2
 | k4 + 1, x1, x2 => s252_l2 (fun z0_ z1_ => s252_l1 a1 a3 k4 z0_ z1_) a1 a3 x1 (((x1 - a1).toNat) + 1) x1 x2
def s252 (a0 : List Int) (a1 : Int) (a2 : Int) (a3 : Int → Int → Option Int) : Option (List Int) :=
 s252_l1 a1 a3 ((a2 - (a1 + 1)).toNat) (a1 + 1) a0
theorem c252 {g : List (Nat × List Value)} (a0 : List Int) (a1 : Int) (a2 : Int) (a3 : Int → Int → Option Int) {R : List Int} {N0 : Nat} (hN0 : List.length a0 = N0) {ca3 : G} {ia3 : FuncId} {ka3 : List G} (ha3 : FnIs ca3 ia3 ka3) (Ka3 : Known Tryz.prog ia3) (Ha3 : ∀ (x0 : Int) (x1 : Int) (r : Int), a3 x0 x1 = some r → Con (EG g) ia3 ([G.int x0, G.int x1] ++ ka3) (G.int r)) (hA : 0 ≤ a1) (hA2 : a1 ≤ 1000000) (hB : a2 ≤ 1000000) (hR : s252 a0 a1 a2 a3 = some R) : ConB (EG g) 252 [.osl 0 1 0 N0, .g (G.int a1), .g (G.int a2), .g (ca3)] [(0, .arr 3 1 (List.map cInt a0))] (G.tup []) [(0, .arr 3 1 (List.map cInt R))] := by
 unfold s252 at hR
 refine kh Tryz.func252 rfl rfl rfl fun w0 M0 x => ?_
 refine wg (f := cInt) (l := a0) 0 rfl fun hla0 => ?_
 refine qd ?_
 refine qb [.p, .p, .p] ?_
 refine st rfl rfl (qa rfl rfl) rfl ?_
 refine st rfl rfl (zj rfl rfl rfl (by unfold I64; (try dsimp only); omega)) rfl ?_
 refine st rfl rfl (qc rfl rfl) rfl ?_
 refine qe ?_
 refine qn ?_
 refine qx (γ := Nat × Int × (List Int)) (fun g => ([(0, .osl 0 1 0 (N0)), (1, .g (G.int a1)), (2, .g (G.int a2)), (3, .g (ca3)), (8, .g (G.int g.2.1))], [(0, .arr 3 1 (List.map cInt g.2.2))])) (fun g => g.1 = (a2 - g.2.1).toNat ∧ (a1 + 1) ≤ g.2.1 ∧ List.length g.2.2 = N0 ∧ s252_l1 a1 a3 g.1 g.2.1 g.2.2 = some R) (fun g => g.1) ⟨rfl, ((a2 - (a1 + 1)).toNat, a1 + 1, a0), ⟨rfl, rfl, rfl, rfl, rfl, trivial⟩, ⟨rfl, trivial⟩, rfl, ⟨rfl, (by first | omega | (dsimp only; omega) | simp), hN0, hR⟩, trivial⟩ ?_
 ·rintro ⟨k4, x1, x2⟩ ⟨hk1, iv1_0, ln3, hR⟩
  replace hk1 : k4 = (a2 - x1).toNat := hk1
  replace hR : s252_l1 a1 a3 k4 x1 x2 = some R := hR
  replace iv1_0 : (a1 + 1) ≤ x1 := iv1_0
  replace ln3 : List.length x2 = N0 := ln3
  refine qd ?_
  refine qd ?_
  refine qb [.p, .p, .p] ?_
  refine st rfl rfl (qa rfl rfl) rfl ?_
  refine st rfl rfl (qa rfl rfl) rfl ?_
  refine st rfl rfl (ze rfl rfl rfl) rfl ?_
  refine qe ?_
  refine qm _ rfl (fun h1 => ?_) (fun h1 => ?_)
  ·replace h1 : (decide (x1 < a2)) = true := h1
   replace h1 := decT h1
   obtain ⟨k4, rfl⟩ : ∃ m, k4 = m + 1 := ⟨k4 - 1, by omega⟩
   rw [s252_l1] at hR
   try dsimp only at hR
   refine qo ?_
   refine qd ?_
   refine qn ?_
   refine qd ?_
   refine qb [.p, .p] ?_
   refine st rfl rfl (qa rfl rfl) rfl ?_
   refine st rfl rfl (qc rfl rfl) rfl ?_
   refine qe ?_
   refine qn ?_
   refine qx (γ := Nat × Int × (List Int)) (fun g => ([(0, .osl 0 1 0 (N0)), (1, .g (G.int a1)), (2, .g (G.int a2)), (3, .g (ca3)), (8, .g (G.int x1)), (9, .g (G.int g.2.1))], [(0, .arr 3 1 (List.map cInt g.2.2))])) (fun g => (g.2.1 - a1).toNat < g.1 ∧ a1 ≤ g.2.1 ∧ g.2.1 ≤ 1000000 ∧ List.length g.2.2 = N0 ∧ s252_l2 (fun z0_ z1_ => s252_l1 a1 a3 k4 z0_ z1_) a1 a3 x1 g.1 g.2.1 g.2.2 = some R) (fun g => g.1) ⟨rfl, (((x1 - a1).toNat) + 1, x1, x2), ⟨rfl, rfl, rfl, rfl, rfl, rfl, trivial⟩, ⟨rfl, trivial⟩, rfl, ⟨Nat.lt_succ_self _, (by first | omega | (dsimp only; omega) | simp), (by first | omega | (dsimp only; omega) | simp), ln3, hR⟩, trivial⟩ ?_
   ·rintro ⟨k8, x5, x6⟩ ⟨hk2, iv2_0, iv2_1, ln7, hR⟩
    replace hk2 : (x5 - a1).toNat < k8 := hk2
    replace hR : s252_l2 (fun z0_ z1_ => s252_l1 a1 a3 k4 z0_ z1_) a1 a3 x1 k8 x5 x6 = some R := hR
    replace iv2_0 : a1 ≤ x5 := iv2_0
    replace iv2_1 : x5 ≤ 1000000 := iv2_1
    replace ln7 : List.length x6 = N0 := ln7
    obtain ⟨k8, rfl⟩ : ∃ m, k8 = m + 1 := ⟨k8 - 1, by omega⟩
    rw [s252_l2] at hR
    try dsimp only at hR
    refine qd ?_
    refine qd ?_
    obtain ⟨y9, by9, hR⟩ := ql hR
    obtain ⟨y10, by10, hR⟩ := ql hR
    obtain ⟨r11, br11, hR⟩ := ql hR
    refine zw [.p, .p, .p, .p, .p, .p, .p, .p, .r, .p, .p, .p, .p, .r, .p, .p, .p] (by kernel_rfl) ?_
    refine st rfl rfl (qa rfl rfl) rfl ?_
    refine st rfl rfl (qa rfl rfl) rfl ?_
    refine st rfl rfl (zy rfl rfl rfl) rfl ?_
    refine st rfl rfl (qa rfl rfl) rfl ?_
    refine st_g rfl rfl rfl (qg _ _) (fun h => qa rfl rfl) rfl ?_
    refine st_g rfl rfl rfl (qg _ _) (fun h => qq rfl rfl) rfl ?_
    refine st_g rfl rfl rfl (qg _ _) (fun h => qa rfl rfl) rfl ?_
    refine st_g rfl rfl rfl (qg _ _) (fun h => ji rfl Tryz.underlying82 ty3 (gd h rfl) (gd h rfl) (z7 (jn by9 h)) (Nat.lt_of_lt_of_eq (jf (za (jn by9 h))) ln7)) rfl ?_
    refine qbj rfl rfl rfl (qg _ _) (fun h => xg (f := cInt) (l := x6) (a := y9) rfl ty3 (gd h rfl) rfl (za (jn by9 h)) rfl) rfl ?_
    refine st_g rfl rfl rfl (qg _ _) (fun h => qq rfl rfl) rfl ?_
    refine st_g rfl rfl rfl (qg _ _) (fun h => qa rfl rfl) rfl ?_
    refine st_g rfl rfl rfl (qg _ _) (fun h => vj rfl (gd h rfl) rfl (by unfold I64; (try dsimp only); omega)) rfl ?_
    refine st_g rfl rfl rfl (qg _ _) (fun h => ji rfl Tryz.underlying82 ty3 (gd h rfl) (gd h rfl) (z7 (jn by10 h)) (Nat.lt_of_lt_of_eq (jf (za (jn by10 h))) ln7)) rfl ?_
    refine qbj rfl rfl rfl (qg _ _) (fun h => xg (f := cInt) (l := x6) (a := y10) rfl ty3 (gd h rfl) rfl (za (jn by10 h)) rfl) rfl ?_
    refine st_g rfl rfl rfl (qg _ _) (fun h => v5 rfl ha3 Ka3 (gd h rfl) (Con.lend (Ha3 y9 y10 _ (jn br11 h))) (qh (gd h rfl) (qh (gd h rfl) qk))) rfl ?_
    refine st_g rfl rfl rfl (qg _ _) (fun h => ze rfl (gd h rfl) rfl) rfl ?_
    refine st rfl rfl (zf rfl rfl rfl rfl) rfl ?_
    refine qe ?_
    refine qm _ rfl (fun h3 => ?_) (fun h3 => ?_)
    ·replace h3 : ((decide (a1 < x5)) && (decide (r11 < 0))) = true := h3
     replace hR := zk hR h3
     try simp only [Bool.or_eq_true, Bool.and_eq_true, Bool.or_eq_false_iff, Bool.and_eq_false_iff, Bool.not_eq_true', Bool.not_eq_false', decide_eq_true_eq, decide_eq_false_iff_not] at h3
     refine qo ?_
     refine qd ?_
     refine qn ?_
     obtain ⟨y12, by12, hR⟩ := ql hR
     obtain ⟨y13, by13, hR⟩ := ql hR
     obtain ⟨y14, by14, hR⟩ := ql hR
     obtain ⟨y15, by15, hR⟩ := ql hR
     refine zw [.p, .p, .p, .p, .p, .p, .p, .p, .p, .r, .p, .p, .p, .r, .p, .w, .p, .w] (by kernel_rfl) ?_
     refine st rfl rfl (qq rfl rfl) rfl ?_
     refine st rfl rfl (qa rfl rfl) rfl ?_
     refine st rfl rfl (qq rfl rfl) rfl ?_
     refine st rfl rfl (qa rfl rfl) rfl ?_
     refine st rfl rfl (vj rfl rfl rfl (by unfold I64; (try dsimp only); omega)) rfl ?_
     refine st rfl rfl (qq rfl rfl) rfl ?_
     refine st rfl rfl (qa rfl rfl) rfl ?_
     refine st rfl rfl (vj rfl rfl rfl (by unfold I64; (try dsimp only); omega)) rfl ?_
     refine st rfl rfl (ji rfl Tryz.underlying82 ty3 rfl rfl (z7 by12) (Nat.lt_of_lt_of_eq (jf (za by12)) ln7)) rfl ?_
     refine st_r rfl rfl (xg (f := cInt) (l := x6) (a := y12) rfl ty3 rfl rfl (za by12) rfl) rfl ?_
     refine st rfl rfl (qq rfl rfl) rfl ?_
     refine st rfl rfl (qa rfl rfl) rfl ?_
     refine st rfl rfl (ji rfl Tryz.underlying82 ty3 rfl rfl (z7 by13) (Nat.lt_of_lt_of_eq (jf (za by13)) ln7)) rfl ?_
     refine st_r rfl rfl (xg (f := cInt) (l := x6) (a := y13) rfl ty3 rfl rfl (za by13) rfl) rfl ?_
     refine st rfl rfl (ji rfl Tryz.underlying82 ty3 rfl rfl (z7 by14) (Nat.lt_of_lt_of_eq (jf (za by14)) ln7)) rfl ?_
     refine j8 rfl rfl (vg (f := cInt) (l := x6) (a' := y12) rfl ty3 rfl rfl rfl (Nat.lt_of_lt_of_eq (Nat.lt_of_lt_of_eq (jf (za by14)) ln7) (Eq.symm ln7)) rfl (fun _ => rfl)) ?_
     refine st rfl rfl (ji rfl Tryz.underlying82 ty3 rfl rfl (z7 by15) (Nat.lt_of_lt_of_eq (jf (za by15)) ((List.length_set ..).trans ln7))) rfl ?_
     refine j8 rfl rfl (vg (f := cInt) (l := List.set x6 (Int.toNat x5) y12) (a' := y13) rfl ty3 rfl rfl rfl (Nat.lt_of_lt_of_eq (Nat.lt_of_lt_of_eq (jf (za by15)) ((List.length_set ..).trans ln7)) (Eq.symm ((List.length_set ..).trans ln7))) rfl (fun _ => rfl)) ?_
     refine qe ?_
     refine qb [.p, .p, .p] ?_
     refine st rfl rfl (qa rfl rfl) rfl ?_
     refine st rfl rfl (vj rfl rfl rfl (by unfold I64; (try dsimp only); omega)) rfl ?_
     refine st rfl rfl (qc rfl rfl) rfl ?_
     refine qe ?_
     exact ⟨rfl, (k8, x5 - 1, List.set (List.set x6 (Int.toNat x5) y12) (Int.toNat (x5 - 1)) y13), ⟨(by simp only [List.length_set]; rfl), rfl, rfl, rfl, rfl, rfl, trivial⟩, ⟨rfl, trivial⟩, rfl, ⟨(by first | omega | (dsimp only; omega) | (simp at *; omega)), (by first | omega | (dsimp only; omega) | (simp at *; omega)), (by first | omega | (dsimp only; omega) | (simp at *; omega)), ((List.length_set ..).trans ((List.length_set ..).trans ln7)), hR⟩, by simp⟩
    ·replace h3 : ((decide (a1 < x5)) && (decide (r11 < 0))) = false := h3
     replace hR := zl hR h3
     try simp only [Bool.or_eq_true, Bool.and_eq_true, Bool.or_eq_false_iff, Bool.and_eq_false_iff, Bool.not_eq_true', Bool.not_eq_false', decide_eq_true_eq, decide_eq_false_iff_not] at h3
     refine zg ?_
     refine qb [.p, .p, .p] ?_
     refine st rfl rfl (qa rfl rfl) rfl ?_
     refine st rfl rfl (zj rfl rfl rfl (by (try dsimp only); unfold I64; omega)) rfl ?_
     refine st rfl rfl (qc rfl rfl) rfl ?_
     refine qe ?_
     exact ⟨rfl, (k4, x1 + 1, x6), ⟨rfl, rfl, rfl, rfl, rfl, trivial⟩, ⟨rfl, trivial⟩, rfl, ⟨(by first | omega | (dsimp only; omega) | (simp at *; omega)), (by first | omega | (dsimp only; omega) | (simp at *; omega)), ln7, hR⟩, by simp⟩
  ·replace h1 : (decide (x1 < a2)) = false := h1
   replace h1 := decF h1
   obtain rfl : k4 = 0 := by omega
   rw [s252_l1] at hR
   refine zg ?_
   obtain rfl := Option.some.inj hR
   show ResOk _ _ _ _ ∧ MemL _ _
   exact ⟨res0 rfl, ⟨rfl, trivial⟩⟩
end Go.Sim
set_option linter.unusedVariables false
namespace Go.Sim
theorem qhf (rec1 : Int → List Int → Option (List Int)) (hrec : ∀ x l r, rec1 x l = some r → r.length = l.length) (a1 : Int) (a3 : Int → Int → Option Int) (x1 : Int) : ∀ (k : Nat) (x : Int) (l r : List Int), s252_l2 rec1 a1 a3 x1 k x l = some r → r.length = l.length
 | 0, _, _, _, h => by rw [s252_l2] at h; cases h
 | k + 1, x, l, r, h => by
  rw [s252_l2] at h
  obtain ⟨y1, _, h⟩ := ql h
  obtain ⟨y2, _, h⟩ := ql h
  obtain ⟨y3, _, h⟩ := ql h
  cases hc : (decide (a1 < x) && decide (y3 < 0)) with
  | true =>
   have h := zk h hc
   obtain ⟨y4, _, h⟩ := ql h
   obtain ⟨y5, _, h⟩ := ql h
   obtain ⟨y6, _, h⟩ := ql h
   obtain ⟨y7, _, h⟩ := ql h
   have := qhf rec1 hrec a1 a3 x1 k _ _ _ h
   simpa using this
  | false => exact hrec _ _ _ (zl h hc)
theorem qhg (a1 : Int) (a3 : Int → Int → Option Int) : ∀ (k : Nat) (x : Int) (l r : List Int), s252_l1 a1 a3 k x l = some r → r.length = l.length
 | 0, _, _, _, h => by rw [s252_l1] at h; cases h; rfl
 | k + 1, x, l, r, h => by
  rw [s252_l1] at h
  exact qhf _ (fun x l r h => qhg a1 a3 k x l r h) a1 a3 x _ _ _ _ h
theorem qvi {a0 : List Int} {a1 a2 : Int} {a3 : Int → Int → Option Int} {R : List Int} (h : s252 a0 a1 a2 a3 = some R) : R.length = a0.length := qhg _ _ _ _ _ _ h
end Go.Sim
set_option linter.unusedSimpArgs false
set_option linter.unusedVariables false
set_option maxRecDepth 10000
namespace Go.Sim
open Go.Proofs
def s167 (a0 : Int) (a1 : Int) : Int :=
 (bif (s202 a0) then (bif (s202 a1) then 0 else (-1)) else (bif (s202 a1) then 1 else (bif decide (a0 < a1) then (-1) else (bif decide (a1 < a0) then 1 else 0))))
theorem c167 {g : List (Nat × List Value)} (a0 : Int) (a1 : Int)    : Con (EG g) 167 [G.int a0, G.int a1] (G.int (s167 a0 a1)) := by
 generalize hR : s167 a0 a1 = R
 unfold s167 at hR
 refine qp Tryz.func167 rfl rfl fun w0 M0 => ?_
 refine qd ?_
 refine qb [.p] ?_
 refine st rfl rfl (qc rfl rfl) rfl ?_
 refine qe ?_
 refine qd ?_
 refine qb [.p, .p, .p] ?_
 refine st rfl rfl (qa rfl rfl) rfl ?_
 refine st rfl rfl (qj rfl K202 rfl (c202 a0) (qh rfl qk)) rfl ?_
 refine st rfl rfl (qc rfl rfl) rfl ?_
 refine qe ?_
 refine qd ?_
 refine qb [.p, .p, .p] ?_
 refine st rfl rfl (qa rfl rfl) rfl ?_
 refine st rfl rfl (qj rfl K202 rfl (c202 a1) (qh rfl qk)) rfl ?_
 refine st rfl rfl (qc rfl rfl) rfl ?_
 refine qe ?_
 refine qd ?_
 refine qd ?_
 refine qb [.p] ?_
 refine st rfl rfl (qa rfl rfl) rfl ?_
 refine qe ?_
 refine qm _ rfl (fun h1 => ?_) (fun h1 => ?_)
 ·replace h1 : ((s202 a0)) = true := h1
  replace hR := zk hR h1
  refine qd ?_
  refine qd ?_
  refine qb [.p] ?_
  refine st rfl rfl (qa rfl rfl) rfl ?_
  refine qe ?_
  refine qm _ rfl (fun h2 => ?_) (fun h2 => ?_)
  ·replace h2 : ((s202 a1)) = true := h2
   replace hR := zk hR h2
   refine qd ?_
   refine qb [.p] ?_
   refine st rfl rfl (qc rfl rfl) rfl ?_
   refine qe ?_
   refine qr ?_
   subst hR
   exact zb rfl (rv_g rfl)
  ·replace h2 : ((s202 a1)) = false := h2
   replace hR := zl hR h2
   refine qo ?_
   refine qd ?_
   refine qb [.p] ?_
   refine st rfl rfl (qc rfl rfl) rfl ?_
   refine qe ?_
   refine qr ?_
   subst hR
   exact zb rfl (rv_g rfl)
 ·replace h1 : ((s202 a0)) = false := h1
  replace hR := zl hR h1
  refine qo ?_
  refine qd ?_
  refine qd ?_
  refine qb [.p] ?_
  refine st rfl rfl (qa rfl rfl) rfl ?_
  refine qe ?_
  refine qm _ rfl (fun h3 => ?_) (fun h3 => ?_)
  ·replace h3 : ((s202 a1)) = true := h3
   replace hR := zk hR h3
   refine qd ?_
   refine qb [.p] ?_
   refine st rfl rfl (qc rfl rfl) rfl ?_
   refine qe ?_
   refine qr ?_
   subst hR
   exact zb rfl (rv_g rfl)
  ·replace h3 : ((s202 a1)) = false := h3
   replace hR := zl hR h3
   refine qo ?_
   refine qd ?_
   refine qd ?_
   refine qb [.p, .p, .p] ?_
   refine st rfl rfl (qa rfl rfl) rfl ?_
   refine st rfl rfl (qa rfl rfl) rfl ?_
   refine st rfl rfl (ze rfl rfl rfl) rfl ?_
   refine qe ?_
   refine qm _ rfl (fun h4 => ?_) (fun h4 => ?_)
   ·replace h4 : (decide (a0 < a1)) = true := h4
    replace hR := zk hR h4
    refine qd ?_
    refine qb [.p] ?_
    refine st rfl rfl (qc rfl rfl) rfl ?_
    refine qe ?_
    refine qr ?_
    subst hR
    exact zb rfl (rv_g rfl)
   ·replace h4 : (decide (a0 < a1)) = false := h4
    replace hR := zl hR h4
    refine qo ?_
    refine qd ?_
    refine qd ?_
    refine qb [.p, .p, .p] ?_
    refine st rfl rfl (qa rfl rfl) rfl ?_
    refine st rfl rfl (qa rfl rfl) rfl ?_
    refine st rfl rfl (zy rfl rfl rfl) rfl ?_
    refine qe ?_
    refine qm _ rfl (fun h5 => ?_) (fun h5 => ?_)
    ·replace h5 : (decide (a1 < a0)) = true := h5
     replace hR := zk hR h5
     refine qd ?_
     refine qb [.p] ?_
     refine st rfl rfl (qc rfl rfl) rfl ?_
     refine qe ?_
     refine qr ?_
     subst hR
     exact zb rfl (rv_g rfl)
    ·replace h5 : (decide (a1 < a0)) = false := h5
     replace hR := zl hR h5
     refine qo ?_
     refine qd ?_
     refine qb [.p] ?_
     refine st rfl rfl (qc rfl rfl) rfl ?_
     refine qe ?_
     refine qr ?_
     subst hR
     exact zb rfl (rv_g rfl)
def s233_l2 (r6 : List Int) : Nat → Int → Option (List Int)
 | 0, _ => none
 | k8 + 1, x7 => some r6
def s233_l1 (a1 : Int) (a2 : Int → Int → Option Int) : Nat → Int → Int → (List Int) → Option (List Int)
 | 0, _, _, _ => none
 | k5 + 1, x1, x2, x3 => bindO (s252 x3 x1 a1 a2) fun r6 => s233_l2 r6 ((0) + 1) 20
def s233 (a0 : List Int) (a1 : Int) (a2 : Int → Int → Option Int) : Option (List Int) :=
 s233_l1 a1 a2 ((0) + 1) 0 20 a0
theorem c233 {g : List (Nat × List Value)} (a0 : List Int) (a1 : Int) (a2 : Int → Int → Option Int) {R : List Int} {N0 : Nat} (hN0 : List.length a0 = N0) {ca2 : G} {ia2 : FuncId} {ka2 : List G} (ha2 : FnIs ca2 ia2 ka2) (Ka2 : Known Tryz.prog ia2) (Ha2 : ∀ (x0 : Int) (x1 : Int) (r : Int), a2 x0 x1 = some r → Con (EG g) ia2 ([G.int x0, G.int x1] ++ ka2) (G.int r)) (hA : 0 ≤ a1) (hB : a1 ≤ 12) (hR : s233 a0 a1 a2 = some R) : ConB (EG g) 233 [.osl 0 1 0 N0, .g (G.int a1), .g (ca2)] [(0, .arr 3 1 (List.map cInt a0))] (G.tup []) [(0, .arr 3 1 (List.map cInt R))] := by
 unfold s233 at hR
 refine kh Tryz.func233 rfl rfl rfl fun w0 M0 x => ?_
 refine wg (f := cInt) (l := a0) 0 rfl fun hla0 => ?_
 refine qd ?_
 refine qb [.p] ?_
 refine st rfl rfl (qc rfl rfl) rfl ?_
 refine qe ?_
 refine qd ?_
 refine qb [.p, .p, .p] ?_
 refine st rfl rfl (qa rfl rfl) rfl ?_
 refine st rfl rfl (qc rfl rfl) rfl ?_
 refine st rfl rfl (qc rfl rfl) rfl ?_
 refine qe ?_
 refine qd ?_
 refine qn ?_
 refine qx (γ := Nat × Int × Int × (List Int)) (fun g => ([(0, .osl 0 1 0 (N0)), (1, .g (G.int a1)), (2, .g (ca2)), (6, .g (G.int 20)), (7, .g (G.int g.2.1)), (8, .g (G.int g.2.2.1))], [(0, .arr 3 1 (List.map cInt g.2.2.2))])) (fun g => 0 < g.1 ∧ g.2.1 = 0 ∧ g.2.2.1 = 20 ∧ List.length g.2.2.2 = N0 ∧ s233_l1 a1 a2 g.1 g.2.1 g.2.2.1 g.2.2.2 = some R) (fun g => g.1) ⟨rfl, ((0) + 1, 0, 20, a0), ⟨rfl, rfl, rfl, rfl, rfl, rfl, trivial⟩, ⟨rfl, trivial⟩, rfl, ⟨Nat.lt_succ_self _, (by first | omega | (dsimp only; omega) | simp), (by first | omega | (dsimp only; omega) | simp), hN0, hR⟩, trivial⟩ ?_
 ·rintro ⟨k5, x1, x2, x3⟩ ⟨hk1, iv1_0, iv1_1, ln4, hR⟩
  replace hk1 : 0 < k5 := hk1
  replace hR : s233_l1 a1 a2 k5 x1 x2 x3 = some R := hR
  replace iv1_0 : x1 = 0 := iv1_0
  replace iv1_1 : x2 = 20 := iv1_1
  replace ln4 : List.length x3 = N0 := ln4
  obtain ⟨k5, rfl⟩ : ∃ m, k5 = m + 1 := ⟨k5 - 1, by omega⟩
  rw [s233_l1] at hR
  try dsimp only at hR
  refine qd ?_
  refine qd ?_
  refine qb [.p, .p, .p] ?_
  refine st rfl rfl (qa rfl rfl) rfl ?_
  refine st rfl rfl (qa rfl rfl) rfl ?_
  refine st rfl rfl (kg rfl rfl rfl) rfl ?_
  refine qe ?_
  refine qm _ rfl (fun h1 => ?_) (fun h1 => ?_)
  ·try simp only [Bool.or_eq_true, Bool.and_eq_true, Bool.or_eq_false_iff, Bool.and_eq_false_iff, Bool.not_eq_true', Bool.not_eq_false', decide_eq_true_eq, decide_eq_false_iff_not] at h1
   exfalso; omega
  ·replace h1 : (decide (x2 ≤ a1)) = false := h1
   try simp only [decide_eq_false_iff_not] at h1
   refine zg ?_
   refine qd ?_
   obtain ⟨r6, br6, hR⟩ := ql hR
   refine qb [.p, .p, .p, .p, .w] ?_
   refine st rfl rfl (qq rfl rfl) rfl ?_
   refine st rfl rfl (qa rfl rfl) rfl ?_
   refine st rfl rfl (qa rfl rfl) rfl ?_
   refine st rfl rfl (qa rfl rfl) rfl ?_
   refine st_w rfl rfl (kq 0 0 rfl K252 rfl (ConB.lend (c252 x3 x1 a1 a2 ln4 ha2 Ka2 Ha2 (by first | assumption | omega | (simp [qv]; omega)) (by first | assumption | omega | (simp [qv]; omega)) (by first | assumption | omega | (simp [qv]; omega)) br6)) (jb rfl rfl (jb rfl rfl (jb rfl rfl (jb rfl rfl ww)))) rfl rfl rfl) rfl ?_
   refine qe ?_
   refine qn ?_
   refine qx (γ := Nat × Int) (fun g => ([(0, .osl 0 1 0 (N0)), (1, .g (G.int a1)), (2, .g (ca2)), (6, .g (G.int g.2))], [(0, .arr 3 1 (List.map cInt r6))])) (fun g => 0 < g.1 ∧ g.2 = 20 ∧ s233_l2 r6 g.1 g.2 = some R) (fun g => g.1) ⟨rfl, ((0) + 1, 20), ⟨rfl, rfl, rfl, rfl, trivial⟩, ⟨rfl, trivial⟩, rfl, ⟨Nat.lt_succ_self _, (by first | omega | (dsimp only; omega) | simp), hR⟩, trivial⟩ ?_
   ·rintro ⟨k8, x7⟩ ⟨hk2, iv2_0, hR⟩
    replace hk2 : 0 < k8 := hk2
    replace hR : s233_l2 r6 k8 x7 = some R := hR
    replace iv2_0 : x7 = 20 := iv2_0
    obtain ⟨k8, rfl⟩ : ∃ m, k8 = m + 1 := ⟨k8 - 1, by omega⟩
    rw [s233_l2] at hR
    try dsimp only at hR
    refine qd ?_
    refine qd ?_
    refine qb [.p, .p, .p] ?_
    refine st rfl rfl (qa rfl rfl) rfl ?_
    refine st rfl rfl (qa rfl rfl) rfl ?_
    refine st rfl rfl (ze rfl rfl rfl) rfl ?_
    refine qe ?_
    refine qm _ rfl (fun h2 => ?_) (fun h2 => ?_)
    ·try simp only [Bool.or_eq_true, Bool.and_eq_true, Bool.or_eq_false_iff, Bool.and_eq_false_iff, Bool.not_eq_true', Bool.not_eq_false', decide_eq_true_eq, decide_eq_false_iff_not] at h2
     exfalso; omega
    ·replace h2 : (decide (x7 < a1)) = false := h2
     refine zg ?_
     obtain rfl := Option.some.inj hR
     show ResOk _ _ _ _ ∧ MemL _ _
     exact ⟨res0 rfl, ⟨rfl, trivial⟩⟩
def s225_l2 (rec1 : Int → (List S154) → Option (List S154)) (a1 : Int) (a3 : S154 → S154 → Option Int) (x1 : Int) : Nat → Int → (List S154) → Option (List S154)
 | 0, _, _ => none
 | k8 + 1, x5, x6 => bindO (bif decide (a1 < x5) then ixO x6 x5 else some default) fun y9 => bindO (bif decide (a1 < x5) then ixO x6 (x5 - 1) else some default) fun y10 => bindO (bif decide (a1 < x5) then a3 y9 y10 else some default) fun r11 => (bif (decide (a1 < x5)) && (decide (r11 < 0)) then bindO (ixO x6 (x5 - 1)) fun y12 => bindO (ixO x6 x5) fun y13 => bindO (ixO x6 x5) fun y14 => bindO (ixO (List.set x6 (Int.toNat x5) y12) (x5 - 1)) fun y15 => s225_l2 rec1 a1 a3 x1 k8 (x5 - 1) (List.set (List.set x6 (Int.toNat x5) y12) (Int.toNat (x5 - 1)) y13) else rec1 (x1 + 1) x6)
def s225_l1 (a1 : Int) (a3 : S154 → S154 → Option Int) : Nat → Int → (List S154) → Option (List S154)
 | 0, x1, x2 => some x2
 | k4 + 1, x1, x2 => s225_l2 (fun z0_ z1_ => s225_l1 a1 a3 k4 z0_ z1_) a1 a3 x1 (((x1 - a1).toNat) + 1) x1 x2
def s225 (a0 : List S154) (a1 : Int) (a2 : Int) (a3 : S154 → S154 → Option Int) : Option (List S154) :=
 s225_l1 a1 a3 ((a2 - (a1 + 1)).toNat) (a1 + 1) a0
def s234_l2 (rec1 : Int → (List S151) → Option (List S151)) (a1 : Int) (a3 : S151 → S151 → Option Int) (x1 : Int) : Nat → Int → (List S151) → Option (List S151)
 | 0, _, _ => none
 | k8 + 1, x5, x6 => bindO (bif decide (a1 < x5) then ixO x6 x5 else some default) fun y9 => bindO (bif decide (a1 < x5) then ixO x6 (x5 - 1) else some default) fun y10 => bindO (bif decide (a1 < x5) then a3 y9 y10 else some default) fun r11 => (bif (decide (a1 < x5)) && (decide (r11 < 0)) then bindO (ixO x6 (x5 - 1)) fun y12 => bindO (ixO x6 x5) fun y13 => bindO (ixO x6 x5) fun y14 => bindO (ixO (List.set x6 (Int.toNat x5) y12) (x5 - 1)) fun y15 => s234_l2 rec1 a1 a3 x1 k8 (x5 - 1) (List.set (List.set x6 (Int.toNat x5) y12) (Int.toNat (x5 - 1)) y13) else rec1 (x1 + 1) x6)
def s234_l1 (a1 : Int) (a3 : S151 → S151 → Option Int) : Nat → Int → (List S151) → Option (List S151)
 | 0, x1, x2 => some x2
 | k4 + 1, x1, x2 => s234_l2 (fun z0_ z1_ => s234_l1 a1 a3 k4 z0_ z1_) a1 a3 x1 (((x1 - a1).toNat) + 1) x1 x2
def s234 (a0 : List S151) (a1 : Int) (a2 : Int) (a3 : S151 → S151 → Option Int) : Option (List S151) :=
 s234_l1 a1 a3 ((a2 - (a1 + 1)).toNat) (a1 + 1) a0
theorem c234 {g : List (Nat × List Value)} (a0 : List S151) (a1 : Int) (a2 : Int) (a3 : S151 → S151 → Option Int) {R : List S151} {N0 : Nat} (hN0 : List.length a0 = N0) {ca3 : G} {ia3 : FuncId} {ka3 : List G} (ha3 : FnIs ca3 ia3 ka3) (Ka3 : Known Tryz.prog ia3) (Ha3 : ∀ (x0 : S151) (x1 : S151) (r : Int), a3 x0 x1 = some r → Con (EG g) ia3 ([G.agg [G.str x0.Name, G.int x0.Moment, G.str x0.Kind], G.agg [G.str x1.Name, G.int x1.Moment, G.str x1.Kind]] ++ ka3) (G.int r)) (hA : 0 ≤ a1) (hA2 : a1 ≤ 1000000) (hB : a2 ≤ 1000000) (hR : s234 a0 a1 a2 a3 = some R) : ConB (EG g) 234 [.osl 0 3 0 N0, .g (G.int a1), .g (G.int a2), .g (ca3)] [(0, .arr 152 3 (List.map S151.c a0))] (G.tup []) [(0, .arr 152 3 (List.map S151.c R))] := by
 unfold s234 at hR
 refine kh Tryz.func234 rfl rfl rfl fun w0 M0 x => ?_
 refine wg (f := S151.c) (l := a0) 0 rfl fun hla0 => ?_
 refine qd ?_
 refine qb [.p, .p, .p] ?_
 refine st rfl rfl (qa rfl rfl) rfl ?_
 refine st rfl rfl (zj rfl rfl rfl (by unfold I64; (try dsimp only); omega)) rfl ?_
 refine st rfl rfl (qc rfl rfl) rfl ?_
 refine qe ?_
 refine qn ?_
 refine qx (γ := Nat × Int × (List S151)) (fun g => ([(0, .osl 0 3 0 (N0)), (1, .g (G.int a1)), (2, .g (G.int a2)), (3, .g (ca3)), (8, .g (G.int g.2.1))], [(0, .arr 152 3 (List.map S151.c g.2.2))])) (fun g => g.1 = (a2 - g.2.1).toNat ∧ (a1 + 1) ≤ g.2.1 ∧ List.length g.2.2 = N0 ∧ s234_l1 a1 a3 g.1 g.2.1 g.2.2 = some R) (fun g => g.1) ⟨rfl, ((a2 - (a1 + 1)).toNat, a1 + 1, a0), ⟨rfl, rfl, rfl, rfl, rfl, trivial⟩, ⟨rfl, trivial⟩, rfl, ⟨rfl, (by first | omega | (dsimp only; omega) | simp), hN0, hR⟩, trivial⟩ ?_
 ·rintro ⟨k4, x1, x2⟩ ⟨hk1, iv1_0, ln3, hR⟩
  replace hk1 : k4 = (a2 - x1).toNat := hk1
  replace hR : s234_l1 a1 a3 k4 x1 x2 = some R := hR
  replace iv1_0 : (a1 + 1) ≤ x1 := iv1_0
  replace ln3 : List.length x2 = N0 := ln3
  refine qd ?_
  refine qd ?_
  refine qb [.p, .p, .p] ?_
  refine st rfl rfl (qa rfl rfl) rfl ?_
  refine st rfl rfl (qa rfl rfl) rfl ?_
  refine st rfl rfl (ze rfl rfl rfl) rfl ?_
  refine qe ?_
  refine qm _ rfl (fun h1 => ?_) (fun h1 => ?_)
  ·replace h1 : (decide (x1 < a2)) = true := h1
   replace h1 := decT h1
   obtain ⟨k4, rfl⟩ : ∃ m, k4 = m + 1 := ⟨k4 - 1, by omega⟩
   rw [s234_l1] at hR
   try dsimp only at hR
   refine qo ?_
   refine qd ?_
   refine qn ?_
   refine qd ?_
   refine qb [.p, .p] ?_
   refine st rfl rfl (qa rfl rfl) rfl ?_
   refine st rfl rfl (qc rfl rfl) rfl ?_
   refine qe ?_
   refine qn ?_
   refine qx (γ := Nat × Int × (List S151)) (fun g => ([(0, .osl 0 3 0 (N0)), (1, .g (G.int a1)), (2, .g (G.int a2)), (3, .g (ca3)), (8, .g (G.int x1)), (9, .g (G.int g.2.1))], [(0, .arr 152 3 (List.map S151.c g.2.2))])) (fun g => (g.2.1 - a1).toNat < g.1 ∧ a1 ≤ g.2.1 ∧ g.2.1 ≤ 1000000 ∧ List.length g.2.2 = N0 ∧ s234_l2 (fun z0_ z1_ => s234_l1 a1 a3 k4 z0_ z1_) a1 a3 x1 g.1 g.2.1 g.2.2 = some R) (fun g => g.1) ⟨rfl, (((x1 - a1).toNat) + 1, x1, x2), ⟨rfl, rfl, rfl, rfl, rfl, rfl, trivial⟩, ⟨rfl, trivial⟩, rfl, ⟨Nat.lt_succ_self _, (by first | omega | (dsimp only; omega) | simp), (by first | omega | (dsimp only; omega) | simp), ln3, hR⟩, trivial⟩ ?_
   ·rintro ⟨k8, x5, x6⟩ ⟨hk2, iv2_0, iv2_1, ln7, hR⟩
    replace hk2 : (x5 - a1).toNat < k8 := hk2
    replace hR : s234_l2 (fun z0_ z1_ => s234_l1 a1 a3 k4 z0_ z1_) a1 a3 x1 k8 x5 x6 = some R := hR
    replace iv2_0 : a1 ≤ x5 := iv2_0
    replace iv2_1 : x5 ≤ 1000000 := iv2_1
    replace ln7 : List.length x6 = N0 := ln7
    obtain ⟨k8, rfl⟩ : ∃ m, k8 = m + 1 := ⟨k8 - 1, by omega⟩
    rw [s234_l2] at hR
    try dsimp only at hR
    refine qd ?_
    refine qd ?_
    obtain ⟨y9, by9, hR⟩ := ql hR
    obtain ⟨y10, by10, hR⟩ := ql hR
    obtain ⟨r11, br11, hR⟩ := ql hR
    refine zw [.p, .p, .p, .p, .p, .p, .p, .p, .r, .p, .p, .p, .p, .r, .p, .p, .p] (by kernel_rfl) ?_
    refine st rfl rfl (qa rfl rfl) rfl ?_
    refine st rfl rfl (qa rfl rfl) rfl ?_
    refine st rfl rfl (zy rfl rfl rfl) rfl ?_
    refine st rfl rfl (qa rfl rfl) rfl ?_
    refine st_g rfl rfl rfl (qg _ _) (fun h => qa rfl rfl) rfl ?_
    refine st_g rfl rfl rfl (qg _ _) (fun h => qq rfl rfl) rfl ?_
    refine st_g rfl rfl rfl (qg _ _) (fun h => qa rfl rfl) rfl ?_
    refine st_g rfl rfl rfl (qg _ _) (fun h => ji rfl Tryz.underlying25 ko (gd h rfl) (gd h rfl) (z7 (jn by9 h)) (Nat.lt_of_lt_of_eq (jf (za (jn by9 h))) ln7)) rfl ?_
    refine qbj rfl rfl rfl (qg _ _) (fun h => v9 (f := S151.c) (l := x6) (a := y9) rfl ko (gd h rfl) rfl (za (jn by9 h))) rfl ?_
    refine st_g rfl rfl rfl (qg _ _) (fun h => qq rfl rfl) rfl ?_
    refine st_g rfl rfl rfl (qg _ _) (fun h => qa rfl rfl) rfl ?_
    refine st_g rfl rfl rfl (qg _ _) (fun h => vj rfl (gd h rfl) rfl (by unfold I64; (try dsimp only); omega)) rfl ?_
    refine st_g rfl rfl rfl (qg _ _) (fun h => ji rfl Tryz.underlying25 ko (gd h rfl) (gd h rfl) (z7 (jn by10 h)) (Nat.lt_of_lt_of_eq (jf (za (jn by10 h))) ln7)) rfl ?_
    refine qbj rfl rfl rfl (qg _ _) (fun h => v9 (f := S151.c) (l := x6) (a := y10) rfl ko (gd h rfl) rfl (za (jn by10 h))) rfl ?_
    refine st_g rfl rfl rfl (qg _ _) (fun h => v5 rfl ha3 Ka3 (gd h rfl) (Con.lend (Ha3 y9 y10 _ (jn br11 h))) (qh (gd h rfl) (qh (gd h rfl) qk))) rfl ?_
    refine st_g rfl rfl rfl (qg _ _) (fun h => ze rfl (gd h rfl) rfl) rfl ?_
    refine st rfl rfl (zf rfl rfl rfl rfl) rfl ?_
    refine qe ?_
    refine qm _ rfl (fun h3 => ?_) (fun h3 => ?_)
    ·replace h3 : ((decide (a1 < x5)) && (decide (r11 < 0))) = true := h3
     replace hR := zk hR h3
     try simp only [Bool.or_eq_true, Bool.and_eq_true, Bool.or_eq_false_iff, Bool.and_eq_false_iff, Bool.not_eq_true', Bool.not_eq_false', decide_eq_true_eq, decide_eq_false_iff_not] at h3
     refine qo ?_
     refine qd ?_
     refine qn ?_
     obtain ⟨y12, by12, hR⟩ := ql hR
     obtain ⟨y13, by13, hR⟩ := ql hR
     obtain ⟨y14, by14, hR⟩ := ql hR
     obtain ⟨y15, by15, hR⟩ := ql hR
     refine zw [.p, .p, .p, .p, .p, .p, .p, .p, .p, .r, .p, .p, .p, .r, .p, .w, .p, .w] (by kernel_rfl) ?_
     refine st rfl rfl (qq rfl rfl) rfl ?_
     refine st rfl rfl (qa rfl rfl) rfl ?_
     refine st rfl rfl (qq rfl rfl) rfl ?_
     refine st rfl rfl (qa rfl rfl) rfl ?_
     refine st rfl rfl (vj rfl rfl rfl (by unfold I64; (try dsimp only); omega)) rfl ?_
     refine st rfl rfl (qq rfl rfl) rfl ?_
     refine st rfl rfl (qa rfl rfl) rfl ?_
     refine st rfl rfl (vj rfl rfl rfl (by unfold I64; (try dsimp only); omega)) rfl ?_
     refine st rfl rfl (ji rfl Tryz.underlying25 ko rfl rfl (z7 by12) (Nat.lt_of_lt_of_eq (jf (za by12)) ln7)) rfl ?_
     refine st_r rfl rfl (v9 (f := S151.c) (l := x6) (a := y12) rfl ko rfl rfl (za by12)) rfl ?_
     refine st rfl rfl (qq rfl rfl) rfl ?_
     refine st rfl rfl (qa rfl rfl) rfl ?_
     refine st rfl rfl (ji rfl Tryz.underlying25 ko rfl rfl (z7 by13) (Nat.lt_of_lt_of_eq (jf (za by13)) ln7)) rfl ?_
     refine st_r rfl rfl (v9 (f := S151.c) (l := x6) (a := y13) rfl ko rfl rfl (za by13)) rfl ?_
     refine st rfl rfl (ji rfl Tryz.underlying25 ko rfl rfl (z7 by14) (Nat.lt_of_lt_of_eq (jf (za by14)) ln7)) rfl ?_
     refine j8 rfl rfl (vg (f := S151.c) (l := x6) (a' := y12) rfl ko rfl rfl rfl (Nat.lt_of_lt_of_eq (Nat.lt_of_lt_of_eq (jf (za by14)) ln7) (Eq.symm ln7)) rfl (fun _ => rfl)) ?_
     refine st rfl rfl (ji rfl Tryz.underlying25 ko rfl rfl (z7 by15) (Nat.lt_of_lt_of_eq (jf (za by15)) ((List.length_set ..).trans ln7))) rfl ?_
     refine j8 rfl rfl (vg (f := S151.c) (l := List.set x6 (Int.toNat x5) y12) (a' := y13) rfl ko rfl rfl rfl (Nat.lt_of_lt_of_eq (Nat.lt_of_lt_of_eq (jf (za by15)) ((List.length_set ..).trans ln7)) (Eq.symm ((List.length_set ..).trans ln7))) rfl (fun _ => rfl)) ?_
     refine qe ?_
     refine qb [.p, .p, .p] ?_
     refine st rfl rfl (qa rfl rfl) rfl ?_
     refine st rfl rfl (vj rfl rfl rfl (by unfold I64; (try dsimp only); omega)) rfl ?_
     refine st rfl rfl (qc rfl rfl) rfl ?_
     refine qe ?_
     exact ⟨rfl, (k8, x5 - 1, List.set (List.set x6 (Int.toNat x5) y12) (Int.toNat (x5 - 1)) y13), ⟨(by simp only [List.length_set]; rfl), rfl, rfl, rfl, rfl, rfl, trivial⟩, ⟨rfl, trivial⟩, rfl, ⟨(by first | omega | (dsimp only; omega) | (simp at *; omega)), (by first | omega | (dsimp only; omega) | (simp at *; omega)), (by first | omega | (dsimp only; omega) | (simp at *; omega)), ((List.length_set ..).trans ((List.length_set ..).trans ln7)), hR⟩, by simp⟩
    ·replace h3 : ((decide (a1 < x5)) && (decide (r11 < 0))) = false := h3
     replace hR := zl hR h3
     try simp only [Bool.or_eq_true, Bool.and_eq_true, Bool.or_eq_false_iff, Bool.and_eq_false_iff, Bool.not_eq_true', Bool.not_eq_false', decide_eq_true_eq, decide_eq_false_iff_not] at h3
     refine zg ?_
     refine qb [.p, .p, .p] ?_
     refine st rfl rfl (qa rfl rfl) rfl ?_
     refine st rfl rfl (zj rfl rfl rfl (by (try dsimp only); unfold I64; omega)) rfl ?_
     refine st rfl rfl (qc rfl rfl) rfl ?_
     refine qe ?_
     exact ⟨rfl, (k4, x1 + 1, x6), ⟨rfl, rfl, rfl, rfl, rfl, trivial⟩, ⟨rfl, trivial⟩, rfl, ⟨(by first | omega | (dsimp only; omega) | (simp at *; omega)), (by first | omega | (dsimp only; omega) | (simp at *; omega)), ln7, hR⟩, by simp⟩
  ·replace h1 : (decide (x1 < a2)) = false := h1
   replace h1 := decF h1
   obtain rfl : k4 = 0 := by omega
   rw [s234_l1] at hR
   refine zg ?_
   obtain rfl := Option.some.inj hR
   show ResOk _ _ _ _ ∧ MemL _ _
   exact ⟨res0 rfl, ⟨rfl, trivial⟩⟩
end Go.Sim
set_option linter.unusedVariables false
namespace Go.Sim
theorem qvj {a0 : List Int} {a1 : Int} {a2 : Int → Int → Option Int} {R : List Int} (h : s233 a0 a1 a2 = some R) : R.length = a0.length := by
 unfold s233 at h
 rw [s233_l1] at h
 obtain ⟨y1, h1, h⟩ := ql h
 rw [s233_l2] at h
 cases h
 exact qvi h1
theorem qhh (rec1 : Int → List S151 → Option (List S151)) (hrec : ∀ x l r, rec1 x l = some r → r.length = l.length) (a1 : Int) (a3 : S151 → S151 → Option Int) (x1 : Int) : ∀ (k : Nat) (x : Int) (l r : List S151), s234_l2 rec1 a1 a3 x1 k x l = some r → r.length = l.length
 | 0, _, _, _, h => by rw [s234_l2] at h; cases h
 | k + 1, x, l, r, h => by
  rw [s234_l2] at h
  obtain ⟨y1, _, h⟩ := ql h
  obtain ⟨y2, _, h⟩ := ql h
  obtain ⟨y3, _, h⟩ := ql h
  cases hc : (decide (a1 < x) && decide (y3 < 0)) with
  | true =>
   have h := zk h hc
   obtain ⟨y4, _, h⟩ := ql h
   obtain ⟨y5, _, h⟩ := ql h
   obtain ⟨y6, _, h⟩ := ql h
   obtain ⟨y7, _, h⟩ := ql h
   have := qhh rec1 hrec a1 a3 x1 k _ _ _ h
   simpa using this
  | false => exact hrec _ _ _ (zl h hc)
theorem qhi (a1 : Int) (a3 : S151 → S151 → Option Int) : ∀ (k : Nat) (x : Int) (l r : List S151), s234_l1 a1 a3 k x l = some r → r.length = l.length
 | 0, _, _, _, h => by rw [s234_l1] at h; cases h; rfl
 | k + 1, x, l, r, h => by
  rw [s234_l1] at h
  exact qhh _ (fun x l r h => qhi a1 a3 k x l r h) a1 a3 x _ _ _ _ h
theorem qvk {a0 : List S151} {a1 a2 : Int} {a3 : S151 → S151 → Option Int} {R : List S151} (h : s234 a0 a1 a2 a3 = some R) : R.length = a0.length := qhi _ _ _ _ _ _ h
end Go.Sim
set_option linter.unusedSimpArgs false
set_option linter.unusedVariables false
set_option maxRecDepth 10000
namespace Go.Sim
open Go.Proofs
def s203 (a0 : List Int) (a1 : Int → Int → Option Int) : Option (List Int) :=
 bindO (s233 a0 (List.length a0 : Int) a1) fun r1 => some r1
theorem c203 {g : List (Nat × List Value)} (a0 : List Int) (a1 : Int → Int → Option Int) {R : List Int} {N0 : Nat} (hN0 : List.length a0 = N0) {ca1 : G} {ia1 : FuncId} {ka1 : List G} (ha1 : FnIs ca1 ia1 ka1) (Ka1 : Known Tryz.prog ia1) (Ha1 : ∀ (x0 : Int) (x1 : Int) (r : Int), a1 x0 x1 = some r → Con (EG g) ia1 ([G.int x0, G.int x1] ++ ka1) (G.int r)) (hB : (List.length a0 : Int) ≤ 12) (hR : s203 a0 a1 = some R) : ConB (EG g) 203 [.osl 0 1 0 N0, .g (ca1)] [(0, .arr 3 1 (List.map cInt a0))] (G.tup []) [(0, .arr 3 1 (List.map cInt R))] := by
 unfold s203 at hR
 refine kh Tryz.func203 rfl rfl rfl fun w0 M0 x => ?_
 refine wg (f := cInt) (l := a0) 0 rfl fun hla0 => ?_
 obtain ⟨r1, br1, hR⟩ := ql hR
 refine qb [.p, .p, .p, .p, .w] ?_
 refine st rfl rfl (qq rfl rfl) rfl ?_
 refine st rfl rfl (qq rfl rfl) rfl ?_
 refine st rfl rfl (qcx hN0 rfl Tryz.underlying82 rfl) rfl ?_
 refine st rfl rfl (qa rfl rfl) rfl ?_
 refine st_w rfl rfl (kq 0 0 rfl K233 rfl (ConB.lend (c233 a0 (List.length a0 : Int) a1 hN0 ha1 Ka1 Ha1 (by first | assumption | omega | (simp [qv]; omega)) (by first | assumption | omega | (simp [qv]; omega)) br1)) (jb rfl rfl (jb rfl rfl (jb rfl rfl ww))) rfl rfl rfl) rfl ?_
 refine qe ?_
 obtain rfl := Option.some.inj hR
 show ResOk _ _ _ _ ∧ MemL _ _
 exact ⟨res0 rfl, ⟨rfl, trivial⟩⟩
def s201_l1 (a0 : List S154) (a4 : S154 → S154 → Option Int) : Nat → Int → Int → Int → Bool → Bool → Option (List S154)
 | 0, _, _, _, _, _ => none
 | k6 + 1, x1, x2, x3, x4, x5 => bindO (s225 a0 x1 x2 a4) fun r7 => some r7
def s201 (a0 : List S154) (a1 : Int) (a2 : Int) (a3 : Int) (a4 : S154 → S154 → Option Int) : Option (List S154) :=
 s201_l1 a0 a4 ((0) + 1) a1 a2 a3 true true
def s205_l1 (a0 : List S151) (a4 : S151 → S151 → Option Int) : Nat → Int → Int → Int → Bool → Bool → Option (List S151)
 | 0, _, _, _, _, _ => none
 | k6 + 1, x1, x2, x3, x4, x5 => bindO (s234 a0 x1 x2 a4) fun r7 => some r7
def s205 (a0 : List S151) (a1 : Int) (a2 : Int) (a3 : Int) (a4 : S151 → S151 → Option Int) : Option (List S151) :=
 s205_l1 a0 a4 ((0) + 1) a1 a2 a3 true true
theorem c205 {g : List (Nat × List Value)} (a0 : List S151) (a1 : Int) (a2 : Int) (a3 : Int) (a4 : S151 → S151 → Option Int) {R : List S151} {N0 : Nat} (hN0 : List.length a0 = N0) {ca4 : G} {ia4 : FuncId} {ka4 : List G} (ha4 : FnIs ca4 ia4 ka4) (Ka4 : Known Tryz.prog ia4) (Ha4 : ∀ (x0 : S151) (x1 : S151) (r : Int), a4 x0 x1 = some r → Con (EG g) ia4 ([G.agg [G.str x0.Name, G.int x0.Moment, G.str x0.Kind], G.agg [G.str x1.Name, G.int x1.Moment, G.str x1.Kind]] ++ ka4) (G.int r)) (hA : 0 ≤ a1) (hA2 : a1 ≤ 12) (hB0 : 0 ≤ a2) (hB : a2 ≤ 12) (hR : s205 a0 a1 a2 a3 a4 = some R) : ConB (EG g) 205 [.osl 0 3 0 N0, .g (G.int a1), .g (G.int a2), .g (G.int a3), .g (ca4)] [(0, .arr 152 3 (List.map S151.c a0))] (G.tup []) [(0, .arr 152 3 (List.map S151.c R))] := by
 unfold s205 at hR
 refine kh Tryz.func205 rfl rfl rfl fun w0 M0 x => ?_
 refine wg (f := S151.c) (l := a0) 0 rfl fun hla0 => ?_
 refine qd ?_
 refine qb [.p] ?_
 refine st rfl rfl (qc rfl rfl) rfl ?_
 refine qe ?_
 refine qd ?_
 refine qb [.p] ?_
 refine st rfl rfl (qc rfl rfl) rfl ?_
 refine qe ?_
 refine qn ?_
 refine qx (γ := Nat × Int × Int × Int × Bool × Bool) (fun g => ([(0, .osl 0 3 0 (N0)), (1, .g (G.int g.2.1)), (2, .g (G.int g.2.2.1)), (3, .g (G.int g.2.2.2.1)), (4, .g (ca4)), (10, .g (G.bool g.2.2.2.2.1)), (11, .g (G.bool g.2.2.2.2.2))], [(0, .arr 152 3 (List.map S151.c a0))])) (fun g => 0 < g.1 ∧ 0 ≤ g.2.1 ∧ g.2.1 ≤ 12 ∧ 0 ≤ g.2.2.1 ∧ g.2.2.1 ≤ 12 ∧ s205_l1 a0 a4 g.1 g.2.1 g.2.2.1 g.2.2.2.1 g.2.2.2.2.1 g.2.2.2.2.2 = some R) (fun g => g.1) ⟨rfl, ((0) + 1, a1, a2, a3, true, true), ⟨rfl, rfl, rfl, rfl, rfl, rfl, rfl, trivial⟩, ⟨rfl, trivial⟩, rfl, ⟨Nat.lt_succ_self _, (by first | omega | (dsimp only; omega) | simp), (by first | omega | (dsimp only; omega) | simp), (by first | omega | (dsimp only; omega) | simp), (by first | omega | (dsimp only; omega) | simp), hR⟩, trivial⟩ ?_
 ·rintro ⟨k6, x1, x2, x3, x4, x5⟩ ⟨hk1, iv1_0, iv1_1, iv1_2, iv1_3, hR⟩
  replace hk1 : 0 < k6 := hk1
  replace hR : s205_l1 a0 a4 k6 x1 x2 x3 x4 x5 = some R := hR
  replace iv1_0 : 0 ≤ x1 := iv1_0
  replace iv1_1 : x1 ≤ 12 := iv1_1
  replace iv1_2 : 0 ≤ x2 := iv1_2
  replace iv1_3 : x2 ≤ 12 := iv1_3
  obtain ⟨k6, rfl⟩ : ∃ m, k6 = m + 1 := ⟨k6 - 1, by omega⟩
  rw [s205_l1] at hR
  try dsimp only at hR
  refine qn ?_
  refine qd ?_
  refine qb [.p, .p, .p, .p] ?_
  refine st rfl rfl (qa rfl rfl) rfl ?_
  refine st rfl rfl (qa rfl rfl) rfl ?_
  refine st rfl rfl (vj rfl rfl rfl (by unfold I64; (try dsimp only); omega)) rfl ?_
  refine st rfl rfl (qc rfl rfl) rfl ?_
  refine qe ?_
  refine qd ?_
  refine qd ?_
  refine qb [.p, .p] ?_
  refine st rfl rfl (qa rfl rfl) rfl ?_
  refine st rfl rfl (kg rfl rfl rfl) rfl ?_
  refine qe ?_
  refine qm _ rfl (fun h1 => ?_) (fun h1 => ?_)
  ·replace h1 : (decide (x2 - x1 ≤ 12)) = true := h1
   try simp only [decide_eq_true_eq] at h1
   refine qd ?_
   obtain ⟨r7, br7, hR⟩ := ql hR
   refine qb [.p, .p, .p, .p, .w] ?_
   refine st rfl rfl (qq rfl rfl) rfl ?_
   refine st rfl rfl (qa rfl rfl) rfl ?_
   refine st rfl rfl (qa rfl rfl) rfl ?_
   refine st rfl rfl (qa rfl rfl) rfl ?_
   refine st_w rfl rfl (kq 0 0 rfl K234 rfl (ConB.lend (c234 a0 x1 x2 a4 hN0 ha4 Ka4 Ha4 (by first | assumption | omega | (simp [qv]; omega)) (by first | assumption | omega | (simp [qv]; omega)) (by first | assumption | omega | (simp [qv]; omega)) br7)) (jb rfl rfl (jb rfl rfl (jb rfl rfl (jb rfl rfl ww)))) rfl rfl rfl) rfl ?_
   refine qe ?_
   refine qr ?_
   obtain rfl := Option.some.inj hR
   show ResOk _ _ _ _ ∧ MemL _ _
   exact ⟨res0 rfl, ⟨rfl, trivial⟩⟩
  ·try simp only [Bool.or_eq_true, Bool.and_eq_true, Bool.or_eq_false_iff, Bool.and_eq_false_iff, Bool.not_eq_true', Bool.not_eq_false', decide_eq_true_eq, decide_eq_false_iff_not] at h1
   exfalso; omega
end Go.Sim
set_option linter.unusedVariables false
namespace Go.Sim
theorem qp6 {a0 : List Int} {a1 : Int → Int → Option Int} {R : List Int} (h : s203 a0 a1 = some R) : R.length = a0.length := by
 unfold s203 at h
 obtain ⟨y1, h1, h⟩ := ql h
 cases h
 exact qvj h1
theorem qvl {a0 : List S151} {a1 a2 a3 : Int} {a4 : S151 → S151 → Option Int} {R : List S151} (h : s205 a0 a1 a2 a3 a4 = some R) : R.length = a0.length := by
 unfold s205 at h
 rw [s205_l1] at h
 obtain ⟨y1, h1, h⟩ := ql h
 cases h
 exact qvk h1
end Go.Sim
set_option linter.unusedSimpArgs false
set_option linter.unusedVariables false
set_option maxRecDepth 10000
namespace Go.Sim
open Go.Proofs
def s165 (a0 : List S154) (a1 : S154 → S154 → Option Int) : Option (List S154) :=
 bindO (s201 a0 0 (List.length a0 : Int) (lenU (List.length a0 : Int)) a1) fun r1 => some r1
def s174 (a0 : List S151) (a1 : S151 → S151 → Option Int) : Option (List S151) :=
 bindO (s205 a0 0 (List.length a0 : Int) (lenU (List.length a0 : Int)) a1) fun r1 => some r1
theorem c174 (a0 : List S151) (a1 : S151 → S151 → Option Int) {R : List S151} {N0 : Nat} (hN0 : List.length a0 = N0) {ca1 : G} {ia1 : FuncId} {ka1 : List G} (ha1 : FnIs ca1 ia1 ka1) (Ka1 : Known Tryz.prog ia1) (Ha1 : ∀ (x0 : S151) (x1 : S151) (r : Int), a1 x0 x1 = some r → Con (EG glT) ia1 ([G.agg [G.str x0.Name, G.int x0.Moment, G.str x0.Kind], G.agg [G.str x1.Name, G.int x1.Moment, G.str x1.Kind]] ++ ka1) (G.int r)) (hB : (List.length a0 : Int) ≤ 12) (hR : s174 a0 a1 = some R) : ConB (EG glT) 174 [.osl 0 3 0 N0, .g (ca1)] [(0, .arr 152 3 (List.map S151.c a0))] (G.tup []) [(0, .arr 152 3 (List.map S151.c R))] := by
 unfold s174 at hR
 refine kh Tryz.func174 rfl rfl rfl fun w0 M0 x => ?_
 refine wg (f := S151.c) (l := a0) 0 rfl fun hla0 => ?_
 refine qd ?_
 refine qb [.p, .p, .p] ?_
 refine st rfl rfl (qq rfl rfl) rfl ?_
 refine st rfl rfl (qcx hN0 rfl Tryz.underlying25 rfl) rfl ?_
 refine st rfl rfl (qc rfl rfl) rfl ?_
 refine qe ?_
 obtain ⟨r1, br1, hR⟩ := ql hR
 refine qb [.p, .p, .p, .p, .p, .p, .w] ?_
 refine st rfl rfl (qq rfl rfl) rfl ?_
 refine st rfl rfl (qa rfl rfl) rfl ?_
 refine st rfl rfl (qa rfl rfl) rfl ?_
 refine st rfl rfl (qjk rfl Tryz.underlying3 Tryz.underlying257 rfl) rfl ?_
 refine st rfl rfl (qj rfl K182 rfl (Con.lend (qu9 (List.length a0 : Int) (by omega))) (qh rfl qk)) rfl ?_
 refine st rfl rfl (qa rfl rfl) rfl ?_
 refine st_w rfl rfl (kq 0 0 rfl K205 rfl (ConB.lend (c205 a0 0 (List.length a0 : Int) (lenU (List.length a0 : Int)) a1 hN0 ha1 Ka1 Ha1 (by first | assumption | omega | (simp [qv]; omega)) (by first | assumption | omega | (simp [qv]; omega)) (by first | assumption | omega | (simp [qv]; omega)) (by first | assumption | omega | (simp [qv]; omega)) br1)) (jb rfl rfl (jb rfl rfl (jb rfl rfl (jb rfl rfl (jb rfl rfl ww))))) rfl rfl rfl) rfl ?_
 refine qe ?_
 obtain rfl := Option.some.inj hR
 show ResOk _ _ _ _ ∧ MemL _ _
 exact ⟨res0 rfl, ⟨rfl, trivial⟩⟩
end Go.Sim
set_option linter.unusedVariables false
namespace Go.Sim
theorem qqn {a0 : List S151} {a1 : S151 → S151 → Option Int} {R : List S151} (h : s174 a0 a1 = some R) : R.length = a0.length := by
 unfold s174 at h
 obtain ⟨y1, h1, h⟩ := ql h
 cases h
 exact qvl h1
end Go.Sim
namespace Go.Sim
section
variable {α : Type}
def insB (lt : α → α → Bool) (x : α) : List α → List α
 | [] => [x]
 | y :: r => bif lt x y then y :: insB lt x r else x :: y :: r
def insS (lt : α → α → Bool) : List α → List α → List α
 | P, [] => P.reverse
 | P, x :: l => insS lt (insB lt x P) l
def isort (lt : α → α → Bool) (l : List α) : List α := insS lt [] l
theorem v6 (lt : α → α → Bool) (x : α) : ∀ P, (insB lt x P).Perm (x :: P)
 | [] => List.Perm.refl _
 | y :: r => by
  rw [insB]
  cases lt x y with
  | true => exact ((v6 lt x r).cons y).trans (List.Perm.swap x y r)
  | false => exact List.Perm.refl _
theorem qfi (lt : α → α → Bool) (x : α) (P : List α) : (insB lt x P).length = P.length + 1 := (v6 lt x P).length_eq
theorem qhj (lt : α → α → Bool) : ∀ (l P : List α), (insS lt P l).Perm (P ++ l)
 | [], P => by rw [insS, List.append_nil]; exact List.reverse_perm P
 | x :: l, P => by
  rw [insS]
  refine (qhj lt l _).trans ?_
  refine ((v6 lt x P).append_right l).trans ?_
  exact List.perm_middle.symm
theorem vx (lt : α → α → Bool) (l : List α) : (isort lt l).Perm l := qhj lt l []
theorem qda {lt : α → α → Bool} {Rel : α → α → Prop} (tr : ∀ a b c, Rel a b → Rel b c → Rel a c) {x : α} : ∀ {P : List α}, P.Pairwise (fun a b => Rel b a) → (∀ y ∈ P, (lt x y = true → Rel x y) ∧ (lt x y = false → Rel y x)) → (insB lt x P).Pairwise (fun a b => Rel b a)
 | [], _, _ => by rw [insB]; exact List.pairwise_singleton _ _
 | y :: r, hP, hx => by
  rw [insB]
  have h1 := List.pairwise_cons.1 hP
  cases hl : lt x y with
  | true =>
   refine List.pairwise_cons.2 ⟨fun z hz => ?_, qda tr h1.2 fun y hy => hx y (List.mem_cons_of_mem _ hy)⟩
   rcases List.mem_cons.1 ((v6 lt x r).mem_iff.1 hz) with rfl | hz
   ·exact (hx y List.mem_cons_self).1 hl
   ·exact h1.1 z hz
  | false =>
   refine List.pairwise_cons.2 ⟨fun z hz => ?_, hP⟩
   have h2 := (hx y List.mem_cons_self).2 hl
   rcases List.mem_cons.1 hz with rfl | hz
   ·exact h2
   ·exact tr z y x (h1.1 z hz) h2
theorem qdb {lt : α → α → Bool} {Rel : α → α → Prop} (tr : ∀ a b c, Rel a b → Rel b c → Rel a c) : ∀ {l P : List α}, P.Pairwise (fun a b => Rel b a) → (∀ y ∈ P, ∀ x ∈ l, (lt x y = true → Rel x y) ∧ (lt x y = false → Rel y x)) →
  l.Pairwise (fun y x => (lt x y = true → Rel x y) ∧ (lt x y = false → Rel y x)) → (insS lt P l).Pairwise Rel
 | [], P, hP, _, _ => by rw [insS]; exact List.pairwise_reverse.2 hP
 | x :: l, P, hP, hx, hl => by
  rw [insS]
  have h1 := List.pairwise_cons.1 hl
  refine qdb tr (qda tr hP fun y hy => hx y hy x List.mem_cons_self) (fun y hy z hz => ?_) h1.2
  rcases List.mem_cons.1 ((v6 lt x P).mem_iff.1 hy) with rfl | hy
  ·exact h1.1 z hz
  ·exact hx y hy z (List.mem_cons_of_mem _ hz)
theorem w5 {lt : α → α → Bool} {Rel : α → α → Prop} (tr : ∀ a b c, Rel a b → Rel b c → Rel a c) {l : List α} (hl : l.Pairwise (fun y x => (lt x y = true → Rel x y) ∧ (lt x y = false → Rel y x))) : (isort lt l).Pairwise Rel :=
 qdb tr List.Pairwise.nil (fun y hy => by cases hy) hl
theorem xc {Rel : α → α → Prop} : ∀ {a b : List α}, a.Perm b → a.Pairwise Rel → b.Pairwise Rel → (∀ x ∈ a, ∀ y ∈ a, Rel x y → Rel y x → x = y) → a = b
 | [], b, hp, _, _, _ => by rw [List.nil_perm.1 hp]
 | x :: t, [], hp, _, _, _ => by cases (List.perm_nil.1 hp)
 | x :: t, y :: s, hp, ha, hb, an => by
  have h1 := List.pairwise_cons.1 ha
  have h2 := List.pairwise_cons.1 hb
  have hxy : x = y := by
   have hx : x ∈ y :: s := hp.mem_iff.1 List.mem_cons_self
   have hy : y ∈ x :: t := hp.mem_iff.2 List.mem_cons_self
   rcases List.mem_cons.1 hx with e | hx
   ·exact e
   ·rcases List.mem_cons.1 hy with e | hy'
    ·exact e.symm
    ·exact an x List.mem_cons_self y hy (h1.1 y hy') (h2.1 x hx)
  subst hxy
  rw [xc ((List.perm_cons x).1 hp) h1.2 h2.2 fun a ha b hb => an a (List.mem_cons_of_mem _ ha) b (List.mem_cons_of_mem _ hb)]
theorem qip {P B : List α} {x : α} : ixO (P ++ x :: B) (P.length : Int) = some x := by
 unfold ixO
 rw [decide_eq_true (by omega)]
 simp
theorem vn {P B : List α} {x : α} {n : Int} (h : n = (P.length : Int)) : ixO (P ++ x :: B) n = some x := by rw [h]; exact qip
theorem w6 {P B : List α} {x y : α} {n : Nat} (h : n = P.length) : List.set (P ++ x :: B) n y = P ++ y :: B := by
 subst h
 rw [List.set_append_right _ _ (Nat.le_refl _), Nat.sub_self, List.set_cons_zero]
end
end Go.Sim
set_option linter.unusedVariables false
set_option linter.unusedSimpArgs false
namespace Go.Sim
theorem qd8 (rec1 : Int → List Int → Option (List Int)) (cmp : Int → Int → Option Int) (lt : Int → Int → Bool) (x1 : Int) (x : Int) : ∀ (P B : List Int) (k : Nat), P.length < k → (∀ y ∈ P, ∃ c, cmp x y = some c ∧ decide (c < 0) = lt x y) →
  s252_l2 rec1 0 cmp x1 k (P.length : Int) (P.reverse ++ x :: B) = rec1 (x1 + 1) ((insB lt x P).reverse ++ B)
 | [], B, 0, h, _ => by omega
 | [], B, k + 1, h, _ => by
  rw [s252_l2]
  have e : decide ((0 : Int) < (([] : List Int).length : Int)) = false := by simp
  simp only [e, cond_false, bindO, Bool.false_and, insB]
  simp
 | y :: r, B, 0, h, _ => by omega
 | y :: r, B, k + 1, h, hc => by
  have e : decide ((0 : Int) < ((y :: r).length : Int)) = true := by simp <;> omega
  have l1 : (y :: r).reverse ++ x :: B = (r.reverse ++ [y]) ++ x :: B := by simp
  have l2 : (r.reverse ++ [y]) ++ x :: B = r.reverse ++ y :: (x :: B) := by simp
  have i1 : ixO ((r.reverse ++ [y]) ++ x :: B) ((y :: r).length : Int) = some x := vn (by simp)
  have i2 : ixO ((r.reverse ++ [y]) ++ x :: B) (((y :: r).length : Int) - 1) = some y := by rw [l2]; exact vn (by simp)
  obtain ⟨c, c1, c2⟩ := hc y List.mem_cons_self
  rw [s252_l2, l1]
  simp only [e, cond_true, i1, i2, bindO, c1, Bool.true_and, c2]
  cases hl : lt x y with
  | true =>
   have e1 : List.set ((r.reverse ++ [y]) ++ x :: B) (Int.toNat ((y :: r).length : Int)) y = (r.reverse ++ [y]) ++ y :: B := w6 (by simp)
   have e2 : List.set ((r.reverse ++ [y]) ++ y :: B) (Int.toNat (((y :: r).length : Int) - 1)) x = r.reverse ++ x :: (y :: B) := by
    rw [show (r.reverse ++ [y]) ++ y :: B = r.reverse ++ y :: (y :: B) by simp]
    exact w6 (by simp)
   have e3 : (((y :: r).length : Int) - 1) = (r.length : Int) := by simp
   have hih := qd8 rec1 cmp lt x1 x r (y :: B) k (by simp at h; omega) (fun z hz => hc z (List.mem_cons_of_mem _ hz))
   have i3 : ixO (List.set ((r.reverse ++ [y]) ++ x :: B) (Int.toNat ((y :: r).length : Int)) y) (((y :: r).length : Int) - 1) = some y := by
    rw [e1, show (r.reverse ++ [y]) ++ y :: B = r.reverse ++ y :: (y :: B) by simp]
    exact vn (by simp)
   rw [cond_true]
   simp only [i3]
   rw [e1, e2, e3, hih]
   simp [insB, hl]
  | false =>
   rw [cond_false]
   simp [insB, hl]
theorem qd9 (cmp : Int → Int → Option Int) (lt : Int → Int → Bool) : ∀ (l P : List Int), (∀ y ∈ P ++ l, ∀ x ∈ l, ∃ c, cmp x y = some c ∧ decide (c < 0) = lt x y) → s252_l1 0 cmp l.length (P.length : Int) (P.reverse ++ l) = some (insS lt P l)
 | [], P, _ => by rw [List.length_nil, s252_l1, insS, List.append_nil]
 | x :: l, P, h => by
  rw [List.length_cons, s252_l1, qd8 _ cmp lt _ x P l _ (by omega) (fun y hy => h y (List.mem_append_left _ hy) x List.mem_cons_self), insS]
  have := qd9 cmp lt l (insB lt x P) (fun y hy z hz => h y (by
   rcases List.mem_append.1 hy with hy | hy
   ·rcases List.mem_cons.1 ((v6 lt x P).mem_iff.1 hy) with rfl | hy
    ·simp
    ·simp [hy]
   ·simp [hy]) z (List.mem_cons_of_mem _ hz))
  rw [← this, qfi]
  simp
theorem qsy {cmp : Int → Int → Option Int} {lt : Int → Int → Bool} {l : List Int} (h : ∀ y ∈ l, ∀ x ∈ l, ∃ c, cmp x y = some c ∧ decide (c < 0) = lt x y) : s252 l 0 (l.length : Int) cmp = some (isort lt l) := by
 unfold s252 isort
 cases l with
 | nil => rfl
 | cons x l =>
  have e : ((((x :: l).length : Int) - (0 + 1)).toNat) = l.length := by simp
  rw [e, insS]
  exact qd9 cmp lt l [x] (fun y hy z hz => h y hy z (List.mem_cons_of_mem _ hz))
theorem qea (rec1 : Int → List S151 → Option (List S151)) (cmp : S151 → S151 → Option Int) (lt : S151 → S151 → Bool) (x1 : Int) (x : S151) : ∀ (P B : List S151) (k : Nat), P.length < k → (∀ y ∈ P, ∃ c, cmp x y = some c ∧ decide (c < 0) = lt x y) →
  s234_l2 rec1 0 cmp x1 k (P.length : Int) (P.reverse ++ x :: B) = rec1 (x1 + 1) ((insB lt x P).reverse ++ B)
 | [], B, 0, h, _ => by omega
 | [], B, k + 1, h, _ => by
  rw [s234_l2]
  have e : decide ((0 : Int) < (([] : List S151).length : Int)) = false := by simp
  simp only [e, cond_false, bindO, Bool.false_and, insB]
  simp
 | y :: r, B, 0, h, _ => by omega
 | y :: r, B, k + 1, h, hc => by
  have e : decide ((0 : Int) < ((y :: r).length : Int)) = true := by simp <;> omega
  have l1 : (y :: r).reverse ++ x :: B = (r.reverse ++ [y]) ++ x :: B := by simp
  have l2 : (r.reverse ++ [y]) ++ x :: B = r.reverse ++ y :: (x :: B) := by simp
  have i1 : ixO ((r.reverse ++ [y]) ++ x :: B) ((y :: r).length : Int) = some x := vn (by simp)
  have i2 : ixO ((r.reverse ++ [y]) ++ x :: B) (((y :: r).length : Int) - 1) = some y := by rw [l2]; exact vn (by simp)
  obtain ⟨c, c1, c2⟩ := hc y List.mem_cons_self
  rw [s234_l2, l1]
  simp only [e, cond_true, i1, i2, bindO, c1, Bool.true_and, c2]
  cases hl : lt x y with
  | true =>
   have e1 : List.set ((r.reverse ++ [y]) ++ x :: B) (Int.toNat ((y :: r).length : Int)) y = (r.reverse ++ [y]) ++ y :: B := w6 (by simp)
   have e2 : List.set ((r.reverse ++ [y]) ++ y :: B) (Int.toNat (((y :: r).length : Int) - 1)) x = r.reverse ++ x :: (y :: B) := by
    rw [show (r.reverse ++ [y]) ++ y :: B = r.reverse ++ y :: (y :: B) by simp]
    exact w6 (by simp)
   have e3 : (((y :: r).length : Int) - 1) = (r.length : Int) := by simp
   have hih := qea rec1 cmp lt x1 x r (y :: B) k (by simp at h; omega) (fun z hz => hc z (List.mem_cons_of_mem _ hz))
   have i3 : ixO (List.set ((r.reverse ++ [y]) ++ x :: B) (Int.toNat ((y :: r).length : Int)) y) (((y :: r).length : Int) - 1) = some y := by
    rw [e1, show (r.reverse ++ [y]) ++ y :: B = r.reverse ++ y :: (y :: B) by simp]
    exact vn (by simp)
   rw [cond_true]
   simp only [i3]
   rw [e1, e2, e3, hih]
   simp [insB, hl]
  | false =>
   rw [cond_false]
   simp [insB, hl]
theorem qeb (cmp : S151 → S151 → Option Int) (lt : S151 → S151 → Bool) : ∀ (l P : List S151), (∀ y ∈ P ++ l, ∀ x ∈ l, ∃ c, cmp x y = some c ∧ decide (c < 0) = lt x y) → s234_l1 0 cmp l.length (P.length : Int) (P.reverse ++ l) = some (insS lt P l)
 | [], P, _ => by rw [List.length_nil, s234_l1, insS, List.append_nil]
 | x :: l, P, h => by
  rw [List.length_cons, s234_l1, qea _ cmp lt _ x P l _ (by omega) (fun y hy => h y (List.mem_append_left _ hy) x List.mem_cons_self), insS]
  have := qeb cmp lt l (insB lt x P) (fun y hy z hz => h y (by
   rcases List.mem_append.1 hy with hy | hy
   ·rcases List.mem_cons.1 ((v6 lt x P).mem_iff.1 hy) with rfl | hy
    ·simp
    ·simp [hy]
   ·simp [hy]) z (List.mem_cons_of_mem _ hz))
  rw [← this, qfi]
  simp
theorem qsz {cmp : S151 → S151 → Option Int} {lt : S151 → S151 → Bool} {l : List S151} (h : ∀ y ∈ l, ∀ x ∈ l, ∃ c, cmp x y = some c ∧ decide (c < 0) = lt x y) : s234 l 0 (l.length : Int) cmp = some (isort lt l) := by
 unfold s234 isort
 cases l with
 | nil => rfl
 | cons x l =>
  have e : ((((x :: l).length : Int) - (0 + 1)).toNat) = l.length := by simp
  rw [e, insS]
  exact qeb cmp lt l [x] (fun y hy z hz => h y hy z (List.mem_cons_of_mem _ hz))
theorem qr8 {cmp : Int → Int → Option Int} {lt : Int → Int → Bool} {l : List Int} (h : ∀ y ∈ l, ∀ x ∈ l, ∃ c, cmp x y = some c ∧ decide (c < 0) = lt x y) : s203 l cmp = some (isort lt l) := by
 unfold s203 s233
 rw [s233_l1, qsy h]
 simp only [bindO]
 rw [s233_l2]
theorem qsw {cmp : S151 → S151 → Option Int} {lt : S151 → S151 → Bool} {l : List S151} (h : ∀ y ∈ l, ∀ x ∈ l, ∃ c, cmp x y = some c ∧ decide (c < 0) = lt x y) : s174 l cmp = some (isort lt l) := by
 unfold s174 s205
 rw [s205_l1, qsz h]
 simp only [bindO]
end Go.Sim
