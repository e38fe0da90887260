/-
  What is proved: the sorts: what they compute is the stable sort by insertion.
-/
import Derived.Test.YtdfgeoefbbkcnaaGreatDoorVaF1
import Derived.Test.YtdfgeoefbbkcnaaGreatDoorVaA7
import Derived.Test.YtdfgeoefbbkcnaaGreatDoorVaA4
set_option linter.unusedSectionVars false
set_option linter.unusedSimpArgs false
set_option linter.unusedVariables false
set_option linter.unnecessarySimpa false
set_option linter.deprecated false
set_option linter.unusedSimpArgs false
set_option linter.unusedVariables false
set_option maxRecDepth 10000
namespace Go.Sim
open Go.Proofs


/-- cmp.isNaN[int] -/
def s202 (a0 : Int) : Bool :=
 decide (a0 ≠ a0)
theorem c202 {g : List (Nat × List Value)} (a0 : Int)    : Con (EG g) 202 [G.int a0] (G.bool (s202 a0)) := by
 generalize hR : s202 a0 = R
 unfold s202 at hR
 refine con_of_aw Tryz.func202 rfl rfl fun w0 M0 => ?_
 refine aw_seq ?_
 refine aw_region [.p] ?_
 refine st rfl rfl (eff_assigng rfl rfl) rfl ?_
 refine st_nil ?_
 refine aw_seq ?_
 refine aw_region [.p, .p, .p, .p] ?_
 refine st rfl rfl (eff_moveg rfl rfl) rfl ?_
 refine st rfl rfl (eff_moveg rfl rfl) rfl ?_
 refine st rfl rfl (eff_neq rfl rfl rfl) rfl ?_
 refine st rfl rfl (eff_assigng rfl rfl) rfl ?_
 refine st_nil ?_
 refine aw_ret ?_
 subst hR
 exact res_c rfl (rv_g rfl)

/-- slices.insertionSortCmpFunc[int] -/
def s252_l2 (rec1 : Int → (List Int) → Option (List Int)) (a1 : Int) (a3 : Int → Int → Option Int) (x1 : Int) : Nat → Int → (List Int) → Option (List Int)
 | 0, _, _ => none
 | k8 + 1, x5, x6 => bindO (bif decide (a1 < x5) then ixO x6 x5 else some default) fun y9 => bindO (bif decide (a1 < x5) then ixO x6 (x5 - 1) else some default) fun y10 => bindO (bif decide (a1 < x5) then a3 y9 y10 else some default) fun r11 => (bif (decide (a1 < x5)) && (decide (r11 < 0)) then bindO (ixO x6 (x5 - 1)) fun y12 => bindO (ixO x6 x5) fun y13 => bindO (ixO x6 x5) fun y14 => bindO (ixO (List.set x6 (Int.toNat x5) y12) (x5 - 1)) fun y15 => s252_l2 rec1 a1 a3 x1 k8 (x5 - 1) (List.set (List.set x6 (Int.toNat x5) y12) (Int.toNat (x5 - 1)) y13) else rec1 (x1 + 1) x6)
def s252_l1 (a1 : Int) (a3 : Int → Int → Option Int) : Nat → Int → (List Int) → Option (List Int)
 | 0, x1, x2 => some x2
 | k4 + 1, x1, x2 => s252_l2 (fun z0_ z1_ => s252_l1 a1 a3 k4 z0_ z1_) a1 a3 x1 (((x1 - a1).toNat) + 1) x1 x2
def s252 (a0 : List Int) (a1 : Int) (a2 : Int) (a3 : Int → Int → Option Int) : Option (List Int) :=
 s252_l1 a1 a3 ((a2 - (a1 + 1)).toNat) (a1 + 1) a0
theorem c252 {g : List (Nat × List Value)} (a0 : List Int) (a1 : Int) (a2 : Int) (a3 : Int → Int → Option Int) {R : List Int} {N0 : Nat} (hN0 : List.length a0 = N0) {ca3 : G} {ia3 : FuncId} {ka3 : List G} (ha3 : FnIs ca3 ia3 ka3) (Ka3 : Known Tryz.prog ia3) (Ha3 : ∀ (x0 : Int) (x1 : Int) (r : Int), a3 x0 x1 = some r → Con (EG g) ia3 ([G.int x0, G.int x1] ++ ka3) (G.int r)) (hA : 0 ≤ a1) (hA2 : a1 ≤ 1000000) (hB : a2 ≤ 1000000) (hR : s252 a0 a1 a2 a3 = some R) : ConB (EG g) 252 [.osl 0 1 0 N0, .g (G.int a1), .g (G.int a2), .g (ca3)] [(0, .arr 3 1 (List.map cInt a0))] (G.tup []) [(0, .arr 3 1 (List.map cInt R))] := by
 unfold s252 at hR
 refine conB_of_aw Tryz.func252 rfl rfl rfl fun w0 M0 x => ?_
 refine len_osl (f := cInt) (l := a0) 0 rfl fun hla0 => ?_
 refine aw_seq ?_
 refine aw_region [.p, .p, .p] ?_
 refine st rfl rfl (eff_moveg rfl rfl) rfl ?_
 refine st rfl rfl (eff_add rfl rfl rfl (by unfold I64; (try dsimp only); omega)) rfl ?_
 refine st rfl rfl (eff_assigng rfl rfl) rfl ?_
 refine st_nil ?_
 refine aw_block ?_
 refine aw_loop_g (γ := Nat × Int × (List Int)) (fun g => ([(0, .osl 0 1 0 (N0)), (1, .g (G.int a1)), (2, .g (G.int a2)), (3, .g (ca3)), (8, .g (G.int g.2.1))], [(0, .arr 3 1 (List.map cInt g.2.2))])) (fun g => g.1 = (a2 - g.2.1).toNat ∧ (a1 + 1) ≤ g.2.1 ∧ List.length g.2.2 = N0 ∧ s252_l1 a1 a3 g.1 g.2.1 g.2.2 = some R) (fun g => g.1) ⟨rfl, ((a2 - (a1 + 1)).toNat, a1 + 1, a0), ⟨rfl, rfl, rfl, rfl, rfl, trivial⟩, ⟨rfl, trivial⟩, rfl, ⟨rfl, (by first | omega | (dsimp only; omega) | simp), hN0, hR⟩, trivial⟩ ?_
 ·rintro ⟨k4, x1, x2⟩ ⟨hk1, iv1_0, ln3, hR⟩
  replace hk1 : k4 = (a2 - x1).toNat := hk1
  replace hR : s252_l1 a1 a3 k4 x1 x2 = some R := hR
  replace iv1_0 : (a1 + 1) ≤ x1 := iv1_0
  replace ln3 : List.length x2 = N0 := ln3
  refine aw_seq ?_
  refine aw_seq ?_
  refine aw_region [.p, .p, .p] ?_
  refine st rfl rfl (eff_moveg rfl rfl) rfl ?_
  refine st rfl rfl (eff_moveg rfl rfl) rfl ?_
  refine st rfl rfl (eff_lss rfl rfl rfl) rfl ?_
  refine st_nil ?_
  refine aw_cond _ rfl (fun h1 => ?_) (fun h1 => ?_)
  ·replace h1 : (decide (x1 < a2)) = true := h1
   replace h1 := decT h1
   obtain ⟨k4, rfl⟩ : ∃ m, k4 = m + 1 := ⟨k4 - 1, by omega⟩
   rw [s252_l1] at hR
   try dsimp only at hR
   refine aw_skip ?_
   refine aw_seq ?_
   refine aw_block ?_
   refine aw_seq ?_
   refine aw_region [.p, .p] ?_
   refine st rfl rfl (eff_moveg rfl rfl) rfl ?_
   refine st rfl rfl (eff_assigng rfl rfl) rfl ?_
   refine st_nil ?_
   refine aw_block ?_
   refine aw_loop_g (γ := Nat × Int × (List Int)) (fun g => ([(0, .osl 0 1 0 (N0)), (1, .g (G.int a1)), (2, .g (G.int a2)), (3, .g (ca3)), (8, .g (G.int x1)), (9, .g (G.int g.2.1))], [(0, .arr 3 1 (List.map cInt g.2.2))])) (fun g => (g.2.1 - a1).toNat < g.1 ∧ a1 ≤ g.2.1 ∧ g.2.1 ≤ 1000000 ∧ List.length g.2.2 = N0 ∧ s252_l2 (fun z0_ z1_ => s252_l1 a1 a3 k4 z0_ z1_) a1 a3 x1 g.1 g.2.1 g.2.2 = some R) (fun g => g.1) ⟨rfl, (((x1 - a1).toNat) + 1, x1, x2), ⟨rfl, rfl, rfl, rfl, rfl, rfl, trivial⟩, ⟨rfl, trivial⟩, rfl, ⟨Nat.lt_succ_self _, (by first | omega | (dsimp only; omega) | simp), (by first | omega | (dsimp only; omega) | simp), ln3, hR⟩, trivial⟩ ?_
   ·rintro ⟨k8, x5, x6⟩ ⟨hk2, iv2_0, iv2_1, ln7, hR⟩
    replace hk2 : (x5 - a1).toNat < k8 := hk2
    replace hR : s252_l2 (fun z0_ z1_ => s252_l1 a1 a3 k4 z0_ z1_) a1 a3 x1 k8 x5 x6 = some R := hR
    replace iv2_0 : a1 ≤ x5 := iv2_0
    replace iv2_1 : x5 ≤ 1000000 := iv2_1
    replace ln7 : List.length x6 = N0 := ln7
    obtain ⟨k8, rfl⟩ : ∃ m, k8 = m + 1 := ⟨k8 - 1, by omega⟩
    rw [s252_l2] at hR
    try dsimp only at hR
    refine aw_seq ?_
    refine aw_seq ?_
    obtain ⟨y9, by9, hR⟩ := bindO_inv hR
    obtain ⟨y10, by10, hR⟩ := bindO_inv hR
    obtain ⟨r11, br11, hR⟩ := bindO_inv hR
    refine aw_draw [.p, .p, .p, .p, .p, .p, .p, .p, .r, .p, .p, .p, .p, .r, .p, .p, .p] (by kernel_rfl) ?_
    refine st rfl rfl (eff_moveg rfl rfl) rfl ?_
    refine st rfl rfl (eff_moveg rfl rfl) rfl ?_
    refine st rfl rfl (eff_gtr rfl rfl rfl) rfl ?_
    refine st rfl rfl (eff_moveg rfl rfl) rfl ?_
    refine st_g rfl rfl rfl (gb_bool _ _) (fun h => eff_moveg rfl rfl) rfl ?_
    refine st_g rfl rfl rfl (gb_bool _ _) (fun h => eff_moveO rfl rfl) rfl ?_
    refine st_g rfl rfl rfl (gb_bool _ _) (fun h => eff_moveg rfl rfl) rfl ?_
    refine st_g rfl rfl rfl (gb_bool _ _) (fun h => eff_ixL rfl Tryz.underlying82 ty3 (gd h rfl) (gd h rfl) (ixO_nn (condT1 by9 h)) (Nat.lt_of_lt_of_eq (get_lt (ixO_get (condT1 by9 h))) ln7)) rfl ?_
    refine st_gr rfl rfl rfl (gb_bool _ _) (fun h => eff_ldE (f := cInt) (l := x6) (a := y9) rfl ty3 (gd h rfl) rfl (ixO_get (condT1 by9 h)) rfl) rfl ?_
    refine st_g rfl rfl rfl (gb_bool _ _) (fun h => eff_moveO rfl rfl) rfl ?_
    refine st_g rfl rfl rfl (gb_bool _ _) (fun h => eff_moveg rfl rfl) rfl ?_
    refine st_g rfl rfl rfl (gb_bool _ _) (fun h => eff_sub rfl (gd h rfl) rfl (by unfold I64; (try dsimp only); omega)) rfl ?_
    refine st_g rfl rfl rfl (gb_bool _ _) (fun h => eff_ixL rfl Tryz.underlying82 ty3 (gd h rfl) (gd h rfl) (ixO_nn (condT1 by10 h)) (Nat.lt_of_lt_of_eq (get_lt (ixO_get (condT1 by10 h))) ln7)) rfl ?_
    refine st_gr rfl rfl rfl (gb_bool _ _) (fun h => eff_ldE (f := cInt) (l := x6) (a := y10) rfl ty3 (gd h rfl) rfl (ixO_get (condT1 by10 h)) rfl) rfl ?_
    refine st_g rfl rfl rfl (gb_bool _ _) (fun h => eff_callf rfl ha3 Ka3 (gd h rfl) (Con.lend (Ha3 y9 y10 _ (condT1 br11 h))) (ag_cons (gd h rfl) (ag_cons (gd h rfl) ag_nil))) rfl ?_
    refine st_g rfl rfl rfl (gb_bool _ _) (fun h => eff_lss rfl (gd h rfl) rfl) rfl ?_
    refine st rfl rfl (eff_and rfl rfl rfl rfl) rfl ?_
    refine st_nil ?_
    refine aw_cond _ rfl (fun h3 => ?_) (fun h3 => ?_)
    ·replace h3 : ((decide (a1 < x5)) && (decide (r11 < 0))) = true := h3
     replace hR := condT hR h3
     try simp only [Bool.or_eq_true, Bool.and_eq_true, Bool.or_eq_false_iff, Bool.and_eq_false_iff, Bool.not_eq_true', Bool.not_eq_false', decide_eq_true_eq, decide_eq_false_iff_not] at h3
     refine aw_skip ?_
     refine aw_seq ?_
     refine aw_block ?_
     obtain ⟨y12, by12, hR⟩ := bindO_inv hR
     obtain ⟨y13, by13, hR⟩ := bindO_inv hR
     obtain ⟨y14, by14, hR⟩ := bindO_inv hR
     obtain ⟨y15, by15, hR⟩ := bindO_inv hR
     refine aw_draw [.p, .p, .p, .p, .p, .p, .p, .p, .p, .r, .p, .p, .p, .r, .p, .w, .p, .w] (by kernel_rfl) ?_
     refine st rfl rfl (eff_moveO rfl rfl) rfl ?_
     refine st rfl rfl (eff_moveg rfl rfl) rfl ?_
     refine st rfl rfl (eff_moveO rfl rfl) rfl ?_
     refine st rfl rfl (eff_moveg rfl rfl) rfl ?_
     refine st rfl rfl (eff_sub rfl rfl rfl (by unfold I64; (try dsimp only); omega)) rfl ?_
     refine st rfl rfl (eff_moveO rfl rfl) rfl ?_
     refine st rfl rfl (eff_moveg rfl rfl) rfl ?_
     refine st rfl rfl (eff_sub rfl rfl rfl (by unfold I64; (try dsimp only); omega)) rfl ?_
     refine st rfl rfl (eff_ixL rfl Tryz.underlying82 ty3 rfl rfl (ixO_nn by12) (Nat.lt_of_lt_of_eq (get_lt (ixO_get by12)) ln7)) rfl ?_
     refine st_r rfl rfl (eff_ldE (f := cInt) (l := x6) (a := y12) rfl ty3 rfl rfl (ixO_get by12) rfl) rfl ?_
     refine st rfl rfl (eff_moveO rfl rfl) rfl ?_
     refine st rfl rfl (eff_moveg rfl rfl) rfl ?_
     refine st rfl rfl (eff_ixL rfl Tryz.underlying82 ty3 rfl rfl (ixO_nn by13) (Nat.lt_of_lt_of_eq (get_lt (ixO_get by13)) ln7)) rfl ?_
     refine st_r rfl rfl (eff_ldE (f := cInt) (l := x6) (a := y13) rfl ty3 rfl rfl (ixO_get by13) rfl) rfl ?_
     refine st rfl rfl (eff_ixL rfl Tryz.underlying82 ty3 rfl rfl (ixO_nn by14) (Nat.lt_of_lt_of_eq (get_lt (ixO_get by14)) ln7)) rfl ?_
     refine st_wn rfl rfl (eff_setL (f := cInt) (l := x6) (a' := y12) rfl ty3 rfl rfl rfl (Nat.lt_of_lt_of_eq (Nat.lt_of_lt_of_eq (get_lt (ixO_get by14)) ln7) (Eq.symm ln7)) rfl (fun _ => rfl)) ?_
     refine st rfl rfl (eff_ixL rfl Tryz.underlying82 ty3 rfl rfl (ixO_nn by15) (Nat.lt_of_lt_of_eq (get_lt (ixO_get by15)) ((List.length_set ..).trans ln7))) rfl ?_
     refine st_wn rfl rfl (eff_setL (f := cInt) (l := List.set x6 (Int.toNat x5) y12) (a' := y13) rfl ty3 rfl rfl rfl (Nat.lt_of_lt_of_eq (Nat.lt_of_lt_of_eq (get_lt (ixO_get by15)) ((List.length_set ..).trans ln7)) (Eq.symm ((List.length_set ..).trans ln7))) rfl (fun _ => rfl)) ?_
     refine st_nil ?_
     refine aw_region [.p, .p, .p] ?_
     refine st rfl rfl (eff_moveg rfl rfl) rfl ?_
     refine st rfl rfl (eff_sub rfl rfl rfl (by unfold I64; (try dsimp only); omega)) rfl ?_
     refine st rfl rfl (eff_assigng rfl rfl) rfl ?_
     refine st_nil ?_
     exact ⟨rfl, (k8, x5 - 1, List.set (List.set x6 (Int.toNat x5) y12) (Int.toNat (x5 - 1)) y13), ⟨(by simp only [List.length_set]; rfl), rfl, rfl, rfl, rfl, rfl, trivial⟩, ⟨rfl, trivial⟩, rfl, ⟨(by first | omega | (dsimp only; omega) | (simp at *; omega)), (by first | omega | (dsimp only; omega) | (simp at *; omega)), (by first | omega | (dsimp only; omega) | (simp at *; omega)), ((List.length_set ..).trans ((List.length_set ..).trans ln7)), hR⟩, by simp⟩
    ·replace h3 : ((decide (a1 < x5)) && (decide (r11 < 0))) = false := h3
     replace hR := condF hR h3
     try simp only [Bool.or_eq_true, Bool.and_eq_true, Bool.or_eq_false_iff, Bool.and_eq_false_iff, Bool.not_eq_true', Bool.not_eq_false', decide_eq_true_eq, decide_eq_false_iff_not] at h3
     refine aw_exit ?_
     refine aw_region [.p, .p, .p] ?_
     refine st rfl rfl (eff_moveg rfl rfl) rfl ?_
     refine st rfl rfl (eff_add rfl rfl rfl (by (try dsimp only); unfold I64; omega)) rfl ?_
     refine st rfl rfl (eff_assigng rfl rfl) rfl ?_
     refine st_nil ?_
     exact ⟨rfl, (k4, x1 + 1, x6), ⟨rfl, rfl, rfl, rfl, rfl, trivial⟩, ⟨rfl, trivial⟩, rfl, ⟨(by first | omega | (dsimp only; omega) | (simp at *; omega)), (by first | omega | (dsimp only; omega) | (simp at *; omega)), ln7, hR⟩, by simp⟩
  ·replace h1 : (decide (x1 < a2)) = false := h1
   replace h1 := decF h1
   obtain rfl : k4 = 0 := by omega
   rw [s252_l1] at hR
   refine aw_exit ?_
   obtain rfl := Option.some.inj hR
   show ResOk _ _ _ _ ∧ MemL _ _
   exact ⟨res0 rfl, ⟨rfl, trivial⟩⟩
end Go.Sim

set_option linter.unusedVariables false
namespace Go.Sim
theorem len252_l2 (rec1 : Int → List Int → Option (List Int)) (hrec : ∀ x l r, rec1 x l = some r → r.length = l.length) (a1 : Int) (a3 : Int → Int → Option Int) (x1 : Int) : ∀ (k : Nat) (x : Int) (l r : List Int), s252_l2 rec1 a1 a3 x1 k x l = some r → r.length = l.length
  | 0, _, _, _, h => by rw [s252_l2] at h; cases h
  | k + 1, x, l, r, h => by
    rw [s252_l2] at h
    obtain ⟨y1, _, h⟩ := bindO_inv h
    obtain ⟨y2, _, h⟩ := bindO_inv h
    obtain ⟨y3, _, h⟩ := bindO_inv h
    cases hc : (decide (a1 < x) && decide (y3 < 0)) with
    | true =>
      have h := condT h hc
      obtain ⟨y4, _, h⟩ := bindO_inv h
      obtain ⟨y5, _, h⟩ := bindO_inv h
      obtain ⟨y6, _, h⟩ := bindO_inv h
      obtain ⟨y7, _, h⟩ := bindO_inv h
      have := len252_l2 rec1 hrec a1 a3 x1 k _ _ _ h
      simpa using this
    | false => exact hrec _ _ _ (condF h hc)
theorem len252_l1 (a1 : Int) (a3 : Int → Int → Option Int) : ∀ (k : Nat) (x : Int) (l r : List Int), s252_l1 a1 a3 k x l = some r → r.length = l.length
  | 0, _, _, _, h => by rw [s252_l1] at h; cases h; rfl
  | k + 1, x, l, r, h => by
    rw [s252_l1] at h
    exact len252_l2 _ (fun x l r h => len252_l1 a1 a3 k x l r h) a1 a3 x _ _ _ _ h
theorem len252 {a0 : List Int} {a1 a2 : Int} {a3 : Int → Int → Option Int} {R : List Int} (h : s252 a0 a1 a2 a3 = some R) : R.length = a0.length := len252_l1 _ _ _ _ _ _ h
end Go.Sim

set_option linter.unusedSimpArgs false
set_option linter.unusedVariables false
set_option maxRecDepth 10000
namespace Go.Sim
open Go.Proofs


/-- cmp.Compare[int] -/
def s167 (a0 : Int) (a1 : Int) : Int :=
 (bif (s202 a0) then (bif (s202 a1) then 0 else (-1)) else (bif (s202 a1) then 1 else (bif decide (a0 < a1) then (-1) else (bif decide (a1 < a0) then 1 else 0))))
theorem c167 {g : List (Nat × List Value)} (a0 : Int) (a1 : Int)    : Con (EG g) 167 [G.int a0, G.int a1] (G.int (s167 a0 a1)) := by
 generalize hR : s167 a0 a1 = R
 unfold s167 at hR
 refine con_of_aw Tryz.func167 rfl rfl fun w0 M0 => ?_
 refine aw_seq ?_
 refine aw_region [.p] ?_
 refine st rfl rfl (eff_assigng rfl rfl) rfl ?_
 refine st_nil ?_
 refine aw_seq ?_
 refine aw_region [.p, .p, .p] ?_
 refine st rfl rfl (eff_moveg rfl rfl) rfl ?_
 refine st rfl rfl (eff_call rfl K202 rfl (c202 a0) (ag_cons rfl ag_nil)) rfl ?_
 refine st rfl rfl (eff_assigng rfl rfl) rfl ?_
 refine st_nil ?_
 refine aw_seq ?_
 refine aw_region [.p, .p, .p] ?_
 refine st rfl rfl (eff_moveg rfl rfl) rfl ?_
 refine st rfl rfl (eff_call rfl K202 rfl (c202 a1) (ag_cons rfl ag_nil)) rfl ?_
 refine st rfl rfl (eff_assigng rfl rfl) rfl ?_
 refine st_nil ?_
 refine aw_seq ?_
 refine aw_seq ?_
 refine aw_region [.p] ?_
 refine st rfl rfl (eff_moveg rfl rfl) rfl ?_
 refine st_nil ?_
 refine aw_cond _ rfl (fun h1 => ?_) (fun h1 => ?_)
 ·replace h1 : ((s202 a0)) = true := h1
  replace hR := condT hR h1
  try simp only [Bool.or_eq_true, Bool.and_eq_true, Bool.or_eq_false_iff, Bool.and_eq_false_iff, Bool.not_eq_true', Bool.not_eq_false', decide_eq_true_eq, decide_eq_false_iff_not] at h1
  refine aw_seq ?_
  refine aw_seq ?_
  refine aw_region [.p] ?_
  refine st rfl rfl (eff_moveg rfl rfl) rfl ?_
  refine st_nil ?_
  refine aw_cond _ rfl (fun h2 => ?_) (fun h2 => ?_)
  ·replace h2 : ((s202 a1)) = true := h2
   replace hR := condT hR h2
   try simp only [Bool.or_eq_true, Bool.and_eq_true, Bool.or_eq_false_iff, Bool.and_eq_false_iff, Bool.not_eq_true', Bool.not_eq_false', decide_eq_true_eq, decide_eq_false_iff_not] at h2
   refine aw_seq ?_
   refine aw_region [.p] ?_
   refine st rfl rfl (eff_assigng rfl rfl) rfl ?_
   refine st_nil ?_
   refine aw_ret ?_
   subst hR
   exact res_c rfl (rv_g rfl)
  ·replace h2 : ((s202 a1)) = false := h2
   replace hR := condF hR h2
   try simp only [Bool.or_eq_true, Bool.and_eq_true, Bool.or_eq_false_iff, Bool.and_eq_false_iff, Bool.not_eq_true', Bool.not_eq_false', decide_eq_true_eq, decide_eq_false_iff_not] at h2
   refine aw_skip ?_
   refine aw_seq ?_
   refine aw_region [.p] ?_
   refine st rfl rfl (eff_assigng rfl rfl) rfl ?_
   refine st_nil ?_
   refine aw_ret ?_
   subst hR
   exact res_c rfl (rv_g rfl)
 ·replace h1 : ((s202 a0)) = false := h1
  replace hR := condF hR h1
  try simp only [Bool.or_eq_true, Bool.and_eq_true, Bool.or_eq_false_iff, Bool.and_eq_false_iff, Bool.not_eq_true', Bool.not_eq_false', decide_eq_true_eq, decide_eq_false_iff_not] at h1
  refine aw_skip ?_
  refine aw_seq ?_
  refine aw_seq ?_
  refine aw_region [.p] ?_
  refine st rfl rfl (eff_moveg rfl rfl) rfl ?_
  refine st_nil ?_
  refine aw_cond _ rfl (fun h3 => ?_) (fun h3 => ?_)
  ·replace h3 : ((s202 a1)) = true := h3
   replace hR := condT hR h3
   try simp only [Bool.or_eq_true, Bool.and_eq_true, Bool.or_eq_false_iff, Bool.and_eq_false_iff, Bool.not_eq_true', Bool.not_eq_false', decide_eq_true_eq, decide_eq_false_iff_not] at h3
   refine aw_seq ?_
   refine aw_region [.p] ?_
   refine st rfl rfl (eff_assigng rfl rfl) rfl ?_
   refine st_nil ?_
   refine aw_ret ?_
   subst hR
   exact res_c rfl (rv_g rfl)
  ·replace h3 : ((s202 a1)) = false := h3
   replace hR := condF hR h3
   try simp only [Bool.or_eq_true, Bool.and_eq_true, Bool.or_eq_false_iff, Bool.and_eq_false_iff, Bool.not_eq_true', Bool.not_eq_false', decide_eq_true_eq, decide_eq_false_iff_not] at h3
   refine aw_skip ?_
   refine aw_seq ?_
   refine aw_seq ?_
   refine aw_region [.p, .p, .p] ?_
   refine st rfl rfl (eff_moveg rfl rfl) rfl ?_
   refine st rfl rfl (eff_moveg rfl rfl) rfl ?_
   refine st rfl rfl (eff_lss rfl rfl rfl) rfl ?_
   refine st_nil ?_
   refine aw_cond _ rfl (fun h4 => ?_) (fun h4 => ?_)
   ·replace h4 : (decide (a0 < a1)) = true := h4
    replace hR := condT hR h4
    try simp only [decide_eq_true_eq] at h4
    refine aw_seq ?_
    refine aw_region [.p] ?_
    refine st rfl rfl (eff_assigng rfl rfl) rfl ?_
    refine st_nil ?_
    refine aw_ret ?_
    subst hR
    exact res_c rfl (rv_g rfl)
   ·replace h4 : (decide (a0 < a1)) = false := h4
    replace hR := condF hR h4
    try simp only [decide_eq_false_iff_not] at h4
    refine aw_skip ?_
    refine aw_seq ?_
    refine aw_seq ?_
    refine aw_region [.p, .p, .p] ?_
    refine st rfl rfl (eff_moveg rfl rfl) rfl ?_
    refine st rfl rfl (eff_moveg rfl rfl) rfl ?_
    refine st rfl rfl (eff_gtr rfl rfl rfl) rfl ?_
    refine st_nil ?_
    refine aw_cond _ rfl (fun h5 => ?_) (fun h5 => ?_)
    ·replace h5 : (decide (a1 < a0)) = true := h5
     replace hR := condT hR h5
     try simp only [decide_eq_true_eq] at h5
     refine aw_seq ?_
     refine aw_region [.p] ?_
     refine st rfl rfl (eff_assigng rfl rfl) rfl ?_
     refine st_nil ?_
     refine aw_ret ?_
     subst hR
     exact res_c rfl (rv_g rfl)
    ·replace h5 : (decide (a1 < a0)) = false := h5
     replace hR := condF hR h5
     try simp only [decide_eq_false_iff_not] at h5
     refine aw_skip ?_
     refine aw_seq ?_
     refine aw_region [.p] ?_
     refine st rfl rfl (eff_assigng rfl rfl) rfl ?_
     refine st_nil ?_
     refine aw_ret ?_
     subst hR
     exact res_c rfl (rv_g rfl)

/-- slices.stableCmpFunc[int] -/
def s233_l2 (r6 : List Int) : Nat → Int → Option (List Int)
 | 0, _ => none
 | k8 + 1, x7 => some r6
def s233_l1 (a1 : Int) (a2 : Int → Int → Option Int) : Nat → Int → Int → (List Int) → Option (List Int)
 | 0, _, _, _ => none
 | k5 + 1, x1, x2, x3 => bindO (s252 x3 x1 a1 a2) fun r6 => s233_l2 r6 ((0) + 1) 20
def s233 (a0 : List Int) (a1 : Int) (a2 : Int → Int → Option Int) : Option (List Int) :=
 s233_l1 a1 a2 ((0) + 1) 0 20 a0
theorem c233 {g : List (Nat × List Value)} (a0 : List Int) (a1 : Int) (a2 : Int → Int → Option Int) {R : List Int} {N0 : Nat} (hN0 : List.length a0 = N0) {ca2 : G} {ia2 : FuncId} {ka2 : List G} (ha2 : FnIs ca2 ia2 ka2) (Ka2 : Known Tryz.prog ia2) (Ha2 : ∀ (x0 : Int) (x1 : Int) (r : Int), a2 x0 x1 = some r → Con (EG g) ia2 ([G.int x0, G.int x1] ++ ka2) (G.int r)) (hA : 0 ≤ a1) (hB : a1 ≤ 12) (hR : s233 a0 a1 a2 = some R) : ConB (EG g) 233 [.osl 0 1 0 N0, .g (G.int a1), .g (ca2)] [(0, .arr 3 1 (List.map cInt a0))] (G.tup []) [(0, .arr 3 1 (List.map cInt R))] := by
 unfold s233 at hR
 refine conB_of_aw Tryz.func233 rfl rfl rfl fun w0 M0 x => ?_
 refine len_osl (f := cInt) (l := a0) 0 rfl fun hla0 => ?_
 refine aw_seq ?_
 refine aw_region [.p] ?_
 refine st rfl rfl (eff_assigng rfl rfl) rfl ?_
 refine st_nil ?_
 refine aw_seq ?_
 refine aw_region [.p, .p, .p] ?_
 refine st rfl rfl (eff_moveg rfl rfl) rfl ?_
 refine st rfl rfl (eff_assigng rfl rfl) rfl ?_
 refine st rfl rfl (eff_assigng rfl rfl) rfl ?_
 refine st_nil ?_
 refine aw_seq ?_
 refine aw_block ?_
 refine aw_loop_g (γ := Nat × Int × Int × (List Int)) (fun g => ([(0, .osl 0 1 0 (N0)), (1, .g (G.int a1)), (2, .g (ca2)), (6, .g (G.int 20)), (7, .g (G.int g.2.1)), (8, .g (G.int g.2.2.1))], [(0, .arr 3 1 (List.map cInt g.2.2.2))])) (fun g => 0 < g.1 ∧ g.2.1 = 0 ∧ g.2.2.1 = 20 ∧ List.length g.2.2.2 = N0 ∧ s233_l1 a1 a2 g.1 g.2.1 g.2.2.1 g.2.2.2 = some R) (fun g => g.1) ⟨rfl, ((0) + 1, 0, 20, a0), ⟨rfl, rfl, rfl, rfl, rfl, rfl, trivial⟩, ⟨rfl, trivial⟩, rfl, ⟨Nat.lt_succ_self _, (by first | omega | (dsimp only; omega) | simp), (by first | omega | (dsimp only; omega) | simp), hN0, hR⟩, trivial⟩ ?_
 ·rintro ⟨k5, x1, x2, x3⟩ ⟨hk1, iv1_0, iv1_1, ln4, hR⟩
  replace hk1 : 0 < k5 := hk1
  replace hR : s233_l1 a1 a2 k5 x1 x2 x3 = some R := hR
  replace iv1_0 : x1 = 0 := iv1_0
  replace iv1_1 : x2 = 20 := iv1_1
  replace ln4 : List.length x3 = N0 := ln4
  obtain ⟨k5, rfl⟩ : ∃ m, k5 = m + 1 := ⟨k5 - 1, by omega⟩
  rw [s233_l1] at hR
  try dsimp only at hR
  refine aw_seq ?_
  refine aw_seq ?_
  refine aw_region [.p, .p, .p] ?_
  refine st rfl rfl (eff_moveg rfl rfl) rfl ?_
  refine st rfl rfl (eff_moveg rfl rfl) rfl ?_
  refine st rfl rfl (eff_leq rfl rfl rfl) rfl ?_
  refine st_nil ?_
  refine aw_cond _ rfl (fun h1 => ?_) (fun h1 => ?_)
  ·try simp only [Bool.or_eq_true, Bool.and_eq_true, Bool.or_eq_false_iff, Bool.and_eq_false_iff, Bool.not_eq_true', Bool.not_eq_false', decide_eq_true_eq, decide_eq_false_iff_not] at h1
   exfalso; omega
  ·replace h1 : (decide (x2 ≤ a1)) = false := h1
   try simp only [decide_eq_false_iff_not] at h1
   refine aw_exit ?_
   refine aw_seq ?_
   obtain ⟨r6, br6, hR⟩ := bindO_inv hR
   refine aw_region [.p, .p, .p, .p, .w] ?_
   refine st rfl rfl (eff_moveO rfl rfl) rfl ?_
   refine st rfl rfl (eff_moveg rfl rfl) rfl ?_
   refine st rfl rfl (eff_moveg rfl rfl) rfl ?_
   refine st rfl rfl (eff_moveg rfl rfl) rfl ?_
   refine st_w rfl rfl (eff_callB1 0 0 rfl K252 rfl (ConB.lend (c252 x3 x1 a1 a2 ln4 ha2 Ka2 Ha2 (by first | assumption | omega | (simp [copyL_len]; omega)) (by first | assumption | omega | (simp [copyL_len]; omega)) (by first | assumption | omega | (simp [copyL_len]; omega)) br6)) (at_cons rfl rfl (at_cons rfl rfl (at_cons rfl rfl (at_cons rfl rfl at_nil)))) rfl rfl rfl) rfl ?_
   refine st_nil ?_
   refine aw_block ?_
   refine aw_loop_g (γ := Nat × Int) (fun g => ([(0, .osl 0 1 0 (N0)), (1, .g (G.int a1)), (2, .g (ca2)), (6, .g (G.int g.2))], [(0, .arr 3 1 (List.map cInt r6))])) (fun g => 0 < g.1 ∧ g.2 = 20 ∧ s233_l2 r6 g.1 g.2 = some R) (fun g => g.1) ⟨rfl, ((0) + 1, 20), ⟨rfl, rfl, rfl, rfl, trivial⟩, ⟨rfl, trivial⟩, rfl, ⟨Nat.lt_succ_self _, (by first | omega | (dsimp only; omega) | simp), hR⟩, trivial⟩ ?_
   ·rintro ⟨k8, x7⟩ ⟨hk2, iv2_0, hR⟩
    replace hk2 : 0 < k8 := hk2
    replace hR : s233_l2 r6 k8 x7 = some R := hR
    replace iv2_0 : x7 = 20 := iv2_0
    obtain ⟨k8, rfl⟩ : ∃ m, k8 = m + 1 := ⟨k8 - 1, by omega⟩
    rw [s233_l2] at hR
    try dsimp only at hR
    refine aw_seq ?_
    refine aw_seq ?_
    refine aw_region [.p, .p, .p] ?_
    refine st rfl rfl (eff_moveg rfl rfl) rfl ?_
    refine st rfl rfl (eff_moveg rfl rfl) rfl ?_
    refine st rfl rfl (eff_lss rfl rfl rfl) rfl ?_
    refine st_nil ?_
    refine aw_cond _ rfl (fun h2 => ?_) (fun h2 => ?_)
    ·try simp only [Bool.or_eq_true, Bool.and_eq_true, Bool.or_eq_false_iff, Bool.and_eq_false_iff, Bool.not_eq_true', Bool.not_eq_false', decide_eq_true_eq, decide_eq_false_iff_not] at h2
     exfalso; omega
    ·replace h2 : (decide (x7 < a1)) = false := h2
     try simp only [decide_eq_false_iff_not] at h2
     refine aw_exit ?_
     obtain rfl := Option.some.inj hR
     show ResOk _ _ _ _ ∧ MemL _ _
     exact ⟨res0 rfl, ⟨rfl, trivial⟩⟩

/-- slices.insertionSortCmpFunc[use.Match] -/
def s225_l2 (rec1 : Int → (List S154) → Option (List S154)) (a1 : Int) (a3 : S154 → S154 → Option Int) (x1 : Int) : Nat → Int → (List S154) → Option (List S154)
 | 0, _, _ => none
 | k8 + 1, x5, x6 => bindO (bif decide (a1 < x5) then ixO x6 x5 else some default) fun y9 => bindO (bif decide (a1 < x5) then ixO x6 (x5 - 1) else some default) fun y10 => bindO (bif decide (a1 < x5) then a3 y9 y10 else some default) fun r11 => (bif (decide (a1 < x5)) && (decide (r11 < 0)) then bindO (ixO x6 (x5 - 1)) fun y12 => bindO (ixO x6 x5) fun y13 => bindO (ixO x6 x5) fun y14 => bindO (ixO (List.set x6 (Int.toNat x5) y12) (x5 - 1)) fun y15 => s225_l2 rec1 a1 a3 x1 k8 (x5 - 1) (List.set (List.set x6 (Int.toNat x5) y12) (Int.toNat (x5 - 1)) y13) else rec1 (x1 + 1) x6)
def s225_l1 (a1 : Int) (a3 : S154 → S154 → Option Int) : Nat → Int → (List S154) → Option (List S154)
 | 0, x1, x2 => some x2
 | k4 + 1, x1, x2 => s225_l2 (fun z0_ z1_ => s225_l1 a1 a3 k4 z0_ z1_) a1 a3 x1 (((x1 - a1).toNat) + 1) x1 x2
def s225 (a0 : List S154) (a1 : Int) (a2 : Int) (a3 : S154 → S154 → Option Int) : Option (List S154) :=
 s225_l1 a1 a3 ((a2 - (a1 + 1)).toNat) (a1 + 1) a0
theorem c225 {g : List (Nat × List Value)} (a0 : List S154) (a1 : Int) (a2 : Int) (a3 : S154 → S154 → Option Int) {R : List S154} {N0 : Nat} (hN0 : List.length a0 = N0) {ca3 : G} {ia3 : FuncId} {ka3 : List G} (ha3 : FnIs ca3 ia3 ka3) (Ka3 : Known Tryz.prog ia3) (Ha3 : ∀ (x0 : S154) (x1 : S154) (r : Int), a3 x0 x1 = some r → Con (EG g) ia3 ([G.agg [G.int x0.Slot, G.int x0.Record], G.agg [G.int x1.Slot, G.int x1.Record]] ++ ka3) (G.int r)) (hA : 0 ≤ a1) (hA2 : a1 ≤ 1000000) (hB : a2 ≤ 1000000) (hR : s225 a0 a1 a2 a3 = some R) : ConB (EG g) 225 [.osl 0 2 0 N0, .g (G.int a1), .g (G.int a2), .g (ca3)] [(0, .arr 155 2 (List.map S154.c a0))] (G.tup []) [(0, .arr 155 2 (List.map S154.c R))] := by
 unfold s225 at hR
 refine conB_of_aw Tryz.func225 rfl rfl rfl fun w0 M0 x => ?_
 refine len_osl (f := S154.c) (l := a0) 0 rfl fun hla0 => ?_
 refine aw_seq ?_
 refine aw_region [.p, .p, .p] ?_
 refine st rfl rfl (eff_moveg rfl rfl) rfl ?_
 refine st rfl rfl (eff_add rfl rfl rfl (by unfold I64; (try dsimp only); omega)) rfl ?_
 refine st rfl rfl (eff_assigng rfl rfl) rfl ?_
 refine st_nil ?_
 refine aw_block ?_
 refine aw_loop_g (γ := Nat × Int × (List S154)) (fun g => ([(0, .osl 0 2 0 (N0)), (1, .g (G.int a1)), (2, .g (G.int a2)), (3, .g (ca3)), (8, .g (G.int g.2.1))], [(0, .arr 155 2 (List.map S154.c g.2.2))])) (fun g => g.1 = (a2 - g.2.1).toNat ∧ (a1 + 1) ≤ g.2.1 ∧ List.length g.2.2 = N0 ∧ s225_l1 a1 a3 g.1 g.2.1 g.2.2 = some R) (fun g => g.1) ⟨rfl, ((a2 - (a1 + 1)).toNat, a1 + 1, a0), ⟨rfl, rfl, rfl, rfl, rfl, trivial⟩, ⟨rfl, trivial⟩, rfl, ⟨rfl, (by first | omega | (dsimp only; omega) | simp), hN0, hR⟩, trivial⟩ ?_
 ·rintro ⟨k4, x1, x2⟩ ⟨hk1, iv1_0, ln3, hR⟩
  replace hk1 : k4 = (a2 - x1).toNat := hk1
  replace hR : s225_l1 a1 a3 k4 x1 x2 = some R := hR
  replace iv1_0 : (a1 + 1) ≤ x1 := iv1_0
  replace ln3 : List.length x2 = N0 := ln3
  refine aw_seq ?_
  refine aw_seq ?_
  refine aw_region [.p, .p, .p] ?_
  refine st rfl rfl (eff_moveg rfl rfl) rfl ?_
  refine st rfl rfl (eff_moveg rfl rfl) rfl ?_
  refine st rfl rfl (eff_lss rfl rfl rfl) rfl ?_
  refine st_nil ?_
  refine aw_cond _ rfl (fun h1 => ?_) (fun h1 => ?_)
  ·replace h1 : (decide (x1 < a2)) = true := h1
   replace h1 := decT h1
   obtain ⟨k4, rfl⟩ : ∃ m, k4 = m + 1 := ⟨k4 - 1, by omega⟩
   rw [s225_l1] at hR
   try dsimp only at hR
   refine aw_skip ?_
   refine aw_seq ?_
   refine aw_block ?_
   refine aw_seq ?_
   refine aw_region [.p, .p] ?_
   refine st rfl rfl (eff_moveg rfl rfl) rfl ?_
   refine st rfl rfl (eff_assigng rfl rfl) rfl ?_
   refine st_nil ?_
   refine aw_block ?_
   refine aw_loop_g (γ := Nat × Int × (List S154)) (fun g => ([(0, .osl 0 2 0 (N0)), (1, .g (G.int a1)), (2, .g (G.int a2)), (3, .g (ca3)), (8, .g (G.int x1)), (9, .g (G.int g.2.1))], [(0, .arr 155 2 (List.map S154.c g.2.2))])) (fun g => (g.2.1 - a1).toNat < g.1 ∧ a1 ≤ g.2.1 ∧ g.2.1 ≤ 1000000 ∧ List.length g.2.2 = N0 ∧ s225_l2 (fun z0_ z1_ => s225_l1 a1 a3 k4 z0_ z1_) a1 a3 x1 g.1 g.2.1 g.2.2 = some R) (fun g => g.1) ⟨rfl, (((x1 - a1).toNat) + 1, x1, x2), ⟨rfl, rfl, rfl, rfl, rfl, rfl, trivial⟩, ⟨rfl, trivial⟩, rfl, ⟨Nat.lt_succ_self _, (by first | omega | (dsimp only; omega) | simp), (by first | omega | (dsimp only; omega) | simp), ln3, hR⟩, trivial⟩ ?_
   ·rintro ⟨k8, x5, x6⟩ ⟨hk2, iv2_0, iv2_1, ln7, hR⟩
    replace hk2 : (x5 - a1).toNat < k8 := hk2
    replace hR : s225_l2 (fun z0_ z1_ => s225_l1 a1 a3 k4 z0_ z1_) a1 a3 x1 k8 x5 x6 = some R := hR
    replace iv2_0 : a1 ≤ x5 := iv2_0
    replace iv2_1 : x5 ≤ 1000000 := iv2_1
    replace ln7 : List.length x6 = N0 := ln7
    obtain ⟨k8, rfl⟩ : ∃ m, k8 = m + 1 := ⟨k8 - 1, by omega⟩
    rw [s225_l2] at hR
    try dsimp only at hR
    refine aw_seq ?_
    refine aw_seq ?_
    obtain ⟨y9, by9, hR⟩ := bindO_inv hR
    obtain ⟨y10, by10, hR⟩ := bindO_inv hR
    obtain ⟨r11, br11, hR⟩ := bindO_inv hR
    refine aw_draw [.p, .p, .p, .p, .p, .p, .p, .p, .r, .p, .p, .p, .p, .r, .p, .p, .p] (by kernel_rfl) ?_
    refine st rfl rfl (eff_moveg rfl rfl) rfl ?_
    refine st rfl rfl (eff_moveg rfl rfl) rfl ?_
    refine st rfl rfl (eff_gtr rfl rfl rfl) rfl ?_
    refine st rfl rfl (eff_moveg rfl rfl) rfl ?_
    refine st_g rfl rfl rfl (gb_bool _ _) (fun h => eff_moveg rfl rfl) rfl ?_
    refine st_g rfl rfl rfl (gb_bool _ _) (fun h => eff_moveO rfl rfl) rfl ?_
    refine st_g rfl rfl rfl (gb_bool _ _) (fun h => eff_moveg rfl rfl) rfl ?_
    refine st_g rfl rfl rfl (gb_bool _ _) (fun h => eff_ixL rfl Tryz.underlying79 ty155 (gd h rfl) (gd h rfl) (ixO_nn (condT1 by9 h)) (Nat.lt_of_lt_of_eq (get_lt (ixO_get (condT1 by9 h))) ln7)) rfl ?_
    refine st_gr rfl rfl rfl (gb_bool _ _) (fun h => eff_ldEA (f := S154.c) (l := x6) (a := y9) rfl ty155 (gd h rfl) rfl (ixO_get (condT1 by9 h))) rfl ?_
    refine st_g rfl rfl rfl (gb_bool _ _) (fun h => eff_moveO rfl rfl) rfl ?_
    refine st_g rfl rfl rfl (gb_bool _ _) (fun h => eff_moveg rfl rfl) rfl ?_
    refine st_g rfl rfl rfl (gb_bool _ _) (fun h => eff_sub rfl (gd h rfl) rfl (by unfold I64; (try dsimp only); omega)) rfl ?_
    refine st_g rfl rfl rfl (gb_bool _ _) (fun h => eff_ixL rfl Tryz.underlying79 ty155 (gd h rfl) (gd h rfl) (ixO_nn (condT1 by10 h)) (Nat.lt_of_lt_of_eq (get_lt (ixO_get (condT1 by10 h))) ln7)) rfl ?_
    refine st_gr rfl rfl rfl (gb_bool _ _) (fun h => eff_ldEA (f := S154.c) (l := x6) (a := y10) rfl ty155 (gd h rfl) rfl (ixO_get (condT1 by10 h))) rfl ?_
    refine st_g rfl rfl rfl (gb_bool _ _) (fun h => eff_callf rfl ha3 Ka3 (gd h rfl) (Con.lend (Ha3 y9 y10 _ (condT1 br11 h))) (ag_cons (gd h rfl) (ag_cons (gd h rfl) ag_nil))) rfl ?_
    refine st_g rfl rfl rfl (gb_bool _ _) (fun h => eff_lss rfl (gd h rfl) rfl) rfl ?_
    refine st rfl rfl (eff_and rfl rfl rfl rfl) rfl ?_
    refine st_nil ?_
    refine aw_cond _ rfl (fun h3 => ?_) (fun h3 => ?_)
    ·replace h3 : ((decide (a1 < x5)) && (decide (r11 < 0))) = true := h3
     replace hR := condT hR h3
     try simp only [Bool.or_eq_true, Bool.and_eq_true, Bool.or_eq_false_iff, Bool.and_eq_false_iff, Bool.not_eq_true', Bool.not_eq_false', decide_eq_true_eq, decide_eq_false_iff_not] at h3
     refine aw_skip ?_
     refine aw_seq ?_
     refine aw_block ?_
     obtain ⟨y12, by12, hR⟩ := bindO_inv hR
     obtain ⟨y13, by13, hR⟩ := bindO_inv hR
     obtain ⟨y14, by14, hR⟩ := bindO_inv hR
     obtain ⟨y15, by15, hR⟩ := bindO_inv hR
     refine aw_draw [.p, .p, .p, .p, .p, .p, .p, .p, .p, .r, .p, .p, .p, .r, .p, .w, .p, .w] (by kernel_rfl) ?_
     refine st rfl rfl (eff_moveO rfl rfl) rfl ?_
     refine st rfl rfl (eff_moveg rfl rfl) rfl ?_
     refine st rfl rfl (eff_moveO rfl rfl) rfl ?_
     refine st rfl rfl (eff_moveg rfl rfl) rfl ?_
     refine st rfl rfl (eff_sub rfl rfl rfl (by unfold I64; (try dsimp only); omega)) rfl ?_
     refine st rfl rfl (eff_moveO rfl rfl) rfl ?_
     refine st rfl rfl (eff_moveg rfl rfl) rfl ?_
     refine st rfl rfl (eff_sub rfl rfl rfl (by unfold I64; (try dsimp only); omega)) rfl ?_
     refine st rfl rfl (eff_ixL rfl Tryz.underlying79 ty155 rfl rfl (ixO_nn by12) (Nat.lt_of_lt_of_eq (get_lt (ixO_get by12)) ln7)) rfl ?_
     refine st_r rfl rfl (eff_ldEA (f := S154.c) (l := x6) (a := y12) rfl ty155 rfl rfl (ixO_get by12)) rfl ?_
     refine st rfl rfl (eff_moveO rfl rfl) rfl ?_
     refine st rfl rfl (eff_moveg rfl rfl) rfl ?_
     refine st rfl rfl (eff_ixL rfl Tryz.underlying79 ty155 rfl rfl (ixO_nn by13) (Nat.lt_of_lt_of_eq (get_lt (ixO_get by13)) ln7)) rfl ?_
     refine st_r rfl rfl (eff_ldEA (f := S154.c) (l := x6) (a := y13) rfl ty155 rfl rfl (ixO_get by13)) rfl ?_
     refine st rfl rfl (eff_ixL rfl Tryz.underlying79 ty155 rfl rfl (ixO_nn by14) (Nat.lt_of_lt_of_eq (get_lt (ixO_get by14)) ln7)) rfl ?_
     refine st_wn rfl rfl (eff_setL (f := S154.c) (l := x6) (a' := y12) rfl ty155 rfl rfl rfl (Nat.lt_of_lt_of_eq (Nat.lt_of_lt_of_eq (get_lt (ixO_get by14)) ln7) (Eq.symm ln7)) rfl (fun _ => rfl)) ?_
     refine st rfl rfl (eff_ixL rfl Tryz.underlying79 ty155 rfl rfl (ixO_nn by15) (Nat.lt_of_lt_of_eq (get_lt (ixO_get by15)) ((List.length_set ..).trans ln7))) rfl ?_
     refine st_wn rfl rfl (eff_setL (f := S154.c) (l := List.set x6 (Int.toNat x5) y12) (a' := y13) rfl ty155 rfl rfl rfl (Nat.lt_of_lt_of_eq (Nat.lt_of_lt_of_eq (get_lt (ixO_get by15)) ((List.length_set ..).trans ln7)) (Eq.symm ((List.length_set ..).trans ln7))) rfl (fun _ => rfl)) ?_
     refine st_nil ?_
     refine aw_region [.p, .p, .p] ?_
     refine st rfl rfl (eff_moveg rfl rfl) rfl ?_
     refine st rfl rfl (eff_sub rfl rfl rfl (by unfold I64; (try dsimp only); omega)) rfl ?_
     refine st rfl rfl (eff_assigng rfl rfl) rfl ?_
     refine st_nil ?_
     exact ⟨rfl, (k8, x5 - 1, List.set (List.set x6 (Int.toNat x5) y12) (Int.toNat (x5 - 1)) y13), ⟨(by simp only [List.length_set]; rfl), rfl, rfl, rfl, rfl, rfl, trivial⟩, ⟨rfl, trivial⟩, rfl, ⟨(by first | omega | (dsimp only; omega) | (simp at *; omega)), (by first | omega | (dsimp only; omega) | (simp at *; omega)), (by first | omega | (dsimp only; omega) | (simp at *; omega)), ((List.length_set ..).trans ((List.length_set ..).trans ln7)), hR⟩, by simp⟩
    ·replace h3 : ((decide (a1 < x5)) && (decide (r11 < 0))) = false := h3
     replace hR := condF hR h3
     try simp only [Bool.or_eq_true, Bool.and_eq_true, Bool.or_eq_false_iff, Bool.and_eq_false_iff, Bool.not_eq_true', Bool.not_eq_false', decide_eq_true_eq, decide_eq_false_iff_not] at h3
     refine aw_exit ?_
     refine aw_region [.p, .p, .p] ?_
     refine st rfl rfl (eff_moveg rfl rfl) rfl ?_
     refine st rfl rfl (eff_add rfl rfl rfl (by (try dsimp only); unfold I64; omega)) rfl ?_
     refine st rfl rfl (eff_assigng rfl rfl) rfl ?_
     refine st_nil ?_
     exact ⟨rfl, (k4, x1 + 1, x6), ⟨rfl, rfl, rfl, rfl, rfl, trivial⟩, ⟨rfl, trivial⟩, rfl, ⟨(by first | omega | (dsimp only; omega) | (simp at *; omega)), (by first | omega | (dsimp only; omega) | (simp at *; omega)), ln7, hR⟩, by simp⟩
  ·replace h1 : (decide (x1 < a2)) = false := h1
   replace h1 := decF h1
   obtain rfl : k4 = 0 := by omega
   rw [s225_l1] at hR
   refine aw_exit ?_
   obtain rfl := Option.some.inj hR
   show ResOk _ _ _ _ ∧ MemL _ _
   exact ⟨res0 rfl, ⟨rfl, trivial⟩⟩

end Go.Sim

set_option linter.unusedVariables false
namespace Go.Sim
theorem len233 {a0 : List Int} {a1 : Int} {a2 : Int → Int → Option Int} {R : List Int} (h : s233 a0 a1 a2 = some R) : R.length = a0.length := by
  unfold s233 at h
  rw [s233_l1] at h
  obtain ⟨y1, h1, h⟩ := bindO_inv h
  rw [s233_l2] at h
  cases h
  exact len252 h1
theorem len225_l2 (rec1 : Int → List S154 → Option (List S154)) (hrec : ∀ x l r, rec1 x l = some r → r.length = l.length) (a1 : Int) (a3 : S154 → S154 → Option Int) (x1 : Int) : ∀ (k : Nat) (x : Int) (l r : List S154), s225_l2 rec1 a1 a3 x1 k x l = some r → r.length = l.length
  | 0, _, _, _, h => by rw [s225_l2] at h; cases h
  | k + 1, x, l, r, h => by
    rw [s225_l2] at h
    obtain ⟨y1, _, h⟩ := bindO_inv h
    obtain ⟨y2, _, h⟩ := bindO_inv h
    obtain ⟨y3, _, h⟩ := bindO_inv h
    cases hc : (decide (a1 < x) && decide (y3 < 0)) with
    | true =>
      have h := condT h hc
      obtain ⟨y4, _, h⟩ := bindO_inv h
      obtain ⟨y5, _, h⟩ := bindO_inv h
      obtain ⟨y6, _, h⟩ := bindO_inv h
      obtain ⟨y7, _, h⟩ := bindO_inv h
      have := len225_l2 rec1 hrec a1 a3 x1 k _ _ _ h
      simpa using this
    | false => exact hrec _ _ _ (condF h hc)
theorem len225_l1 (a1 : Int) (a3 : S154 → S154 → Option Int) : ∀ (k : Nat) (x : Int) (l r : List S154), s225_l1 a1 a3 k x l = some r → r.length = l.length
  | 0, _, _, _, h => by rw [s225_l1] at h; cases h; rfl
  | k + 1, x, l, r, h => by
    rw [s225_l1] at h
    exact len225_l2 _ (fun x l r h => len225_l1 a1 a3 k x l r h) a1 a3 x _ _ _ _ h
theorem len225 {a0 : List S154} {a1 a2 : Int} {a3 : S154 → S154 → Option Int} {R : List S154} (h : s225 a0 a1 a2 a3 = some R) : R.length = a0.length := len225_l1 _ _ _ _ _ _ h
end Go.Sim

set_option linter.unusedSimpArgs false
set_option linter.unusedVariables false
set_option maxRecDepth 10000
namespace Go.Sim
open Go.Proofs


/-- slices.SortStableFunc[[]int,int] -/
def s203 (a0 : List Int) (a1 : Int → Int → Option Int) : Option (List Int) :=
 bindO (s233 a0 (List.length a0 : Int) a1) fun r1 => some r1
theorem c203 {g : List (Nat × List Value)} (a0 : List Int) (a1 : Int → Int → Option Int) {R : List Int} {N0 : Nat} (hN0 : List.length a0 = N0) {ca1 : G} {ia1 : FuncId} {ka1 : List G} (ha1 : FnIs ca1 ia1 ka1) (Ka1 : Known Tryz.prog ia1) (Ha1 : ∀ (x0 : Int) (x1 : Int) (r : Int), a1 x0 x1 = some r → Con (EG g) ia1 ([G.int x0, G.int x1] ++ ka1) (G.int r)) (hB : (List.length a0 : Int) ≤ 12) (hR : s203 a0 a1 = some R) : ConB (EG g) 203 [.osl 0 1 0 N0, .g (ca1)] [(0, .arr 3 1 (List.map cInt a0))] (G.tup []) [(0, .arr 3 1 (List.map cInt R))] := by
 unfold s203 at hR
 refine conB_of_aw Tryz.func203 rfl rfl rfl fun w0 M0 x => ?_
 refine len_osl (f := cInt) (l := a0) 0 rfl fun hla0 => ?_
 obtain ⟨r1, br1, hR⟩ := bindO_inv hR
 refine aw_region [.p, .p, .p, .p, .w] ?_
 refine st rfl rfl (eff_moveO rfl rfl) rfl ?_
 refine st rfl rfl (eff_moveO rfl rfl) rfl ?_
 refine st rfl rfl (eff_lenON hN0 rfl Tryz.underlying82 rfl) rfl ?_
 refine st rfl rfl (eff_moveg rfl rfl) rfl ?_
 refine st_w rfl rfl (eff_callB1 0 0 rfl K233 rfl (ConB.lend (c233 a0 (List.length a0 : Int) a1 hN0 ha1 Ka1 Ha1 (by first | assumption | omega | (simp [copyL_len]; omega)) (by first | assumption | omega | (simp [copyL_len]; omega)) br1)) (at_cons rfl rfl (at_cons rfl rfl (at_cons rfl rfl at_nil))) rfl rfl rfl) rfl ?_
 refine st_nil ?_
 obtain rfl := Option.some.inj hR
 show ResOk _ _ _ _ ∧ MemL _ _
 exact ⟨res0 rfl, ⟨rfl, trivial⟩⟩

/-- slices.pdqsortCmpFunc[use.Match] -/
def s201_l1 (a0 : List S154) (a4 : S154 → S154 → Option Int) : Nat → Int → Int → Int → Bool → Bool → Option (List S154)
 | 0, _, _, _, _, _ => none
 | k6 + 1, x1, x2, x3, x4, x5 => bindO (s225 a0 x1 x2 a4) fun r7 => some r7
def s201 (a0 : List S154) (a1 : Int) (a2 : Int) (a3 : Int) (a4 : S154 → S154 → Option Int) : Option (List S154) :=
 s201_l1 a0 a4 ((0) + 1) a1 a2 a3 true true
theorem c201 {g : List (Nat × List Value)} (a0 : List S154) (a1 : Int) (a2 : Int) (a3 : Int) (a4 : S154 → S154 → Option Int) {R : List S154} {N0 : Nat} (hN0 : List.length a0 = N0) {ca4 : G} {ia4 : FuncId} {ka4 : List G} (ha4 : FnIs ca4 ia4 ka4) (Ka4 : Known Tryz.prog ia4) (Ha4 : ∀ (x0 : S154) (x1 : S154) (r : Int), a4 x0 x1 = some r → Con (EG g) ia4 ([G.agg [G.int x0.Slot, G.int x0.Record], G.agg [G.int x1.Slot, G.int x1.Record]] ++ ka4) (G.int r)) (hA : 0 ≤ a1) (hA2 : a1 ≤ 12) (hB0 : 0 ≤ a2) (hB : a2 ≤ 12) (hR : s201 a0 a1 a2 a3 a4 = some R) : ConB (EG g) 201 [.osl 0 2 0 N0, .g (G.int a1), .g (G.int a2), .g (G.int a3), .g (ca4)] [(0, .arr 155 2 (List.map S154.c a0))] (G.tup []) [(0, .arr 155 2 (List.map S154.c R))] := by
 unfold s201 at hR
 refine conB_of_aw Tryz.func201 rfl rfl rfl fun w0 M0 x => ?_
 refine len_osl (f := S154.c) (l := a0) 0 rfl fun hla0 => ?_
 refine aw_seq ?_
 refine aw_region [.p] ?_
 refine st rfl rfl (eff_assigng rfl rfl) rfl ?_
 refine st_nil ?_
 refine aw_seq ?_
 refine aw_region [.p] ?_
 refine st rfl rfl (eff_assigng rfl rfl) rfl ?_
 refine st_nil ?_
 refine aw_block ?_
 refine aw_loop_g (γ := Nat × Int × Int × Int × Bool × Bool) (fun g => ([(0, .osl 0 2 0 (N0)), (1, .g (G.int g.2.1)), (2, .g (G.int g.2.2.1)), (3, .g (G.int g.2.2.2.1)), (4, .g (ca4)), (10, .g (G.bool g.2.2.2.2.1)), (11, .g (G.bool g.2.2.2.2.2))], [(0, .arr 155 2 (List.map S154.c a0))])) (fun g => 0 < g.1 ∧ 0 ≤ g.2.1 ∧ g.2.1 ≤ 12 ∧ 0 ≤ g.2.2.1 ∧ g.2.2.1 ≤ 12 ∧ s201_l1 a0 a4 g.1 g.2.1 g.2.2.1 g.2.2.2.1 g.2.2.2.2.1 g.2.2.2.2.2 = some R) (fun g => g.1) ⟨rfl, ((0) + 1, a1, a2, a3, true, true), ⟨rfl, rfl, rfl, rfl, rfl, rfl, rfl, trivial⟩, ⟨rfl, trivial⟩, rfl, ⟨Nat.lt_succ_self _, (by first | omega | (dsimp only; omega) | simp), (by first | omega | (dsimp only; omega) | simp), (by first | omega | (dsimp only; omega) | simp), (by first | omega | (dsimp only; omega) | simp), hR⟩, trivial⟩ ?_
 ·rintro ⟨k6, x1, x2, x3, x4, x5⟩ ⟨hk1, iv1_0, iv1_1, iv1_2, iv1_3, hR⟩
  replace hk1 : 0 < k6 := hk1
  replace hR : s201_l1 a0 a4 k6 x1 x2 x3 x4 x5 = some R := hR
  replace iv1_0 : 0 ≤ x1 := iv1_0
  replace iv1_1 : x1 ≤ 12 := iv1_1
  replace iv1_2 : 0 ≤ x2 := iv1_2
  replace iv1_3 : x2 ≤ 12 := iv1_3
  obtain ⟨k6, rfl⟩ : ∃ m, k6 = m + 1 := ⟨k6 - 1, by omega⟩
  rw [s201_l1] at hR
  try dsimp only at hR
  refine aw_block ?_
  refine aw_seq ?_
  refine aw_region [.p, .p, .p, .p] ?_
  refine st rfl rfl (eff_moveg rfl rfl) rfl ?_
  refine st rfl rfl (eff_moveg rfl rfl) rfl ?_
  refine st rfl rfl (eff_sub rfl rfl rfl (by unfold I64; (try dsimp only); omega)) rfl ?_
  refine st rfl rfl (eff_assigng rfl rfl) rfl ?_
  refine st_nil ?_
  refine aw_seq ?_
  refine aw_seq ?_
  refine aw_region [.p, .p] ?_
  refine st rfl rfl (eff_moveg rfl rfl) rfl ?_
  refine st rfl rfl (eff_leq rfl rfl rfl) rfl ?_
  refine st_nil ?_
  refine aw_cond _ rfl (fun h1 => ?_) (fun h1 => ?_)
  ·replace h1 : (decide (x2 - x1 ≤ 12)) = true := h1
   try simp only [decide_eq_true_eq] at h1
   refine aw_seq ?_
   obtain ⟨r7, br7, hR⟩ := bindO_inv hR
   refine aw_region [.p, .p, .p, .p, .w] ?_
   refine st rfl rfl (eff_moveO rfl rfl) rfl ?_
   refine st rfl rfl (eff_moveg rfl rfl) rfl ?_
   refine st rfl rfl (eff_moveg rfl rfl) rfl ?_
   refine st rfl rfl (eff_moveg rfl rfl) rfl ?_
   refine st_w rfl rfl (eff_callB1 0 0 rfl K225 rfl (ConB.lend (c225 a0 x1 x2 a4 hN0 ha4 Ka4 Ha4 (by first | assumption | omega | (simp [copyL_len]; omega)) (by first | assumption | omega | (simp [copyL_len]; omega)) (by first | assumption | omega | (simp [copyL_len]; omega)) br7)) (at_cons rfl rfl (at_cons rfl rfl (at_cons rfl rfl (at_cons rfl rfl at_nil)))) rfl rfl rfl) rfl ?_
   refine st_nil ?_
   refine aw_ret ?_
   obtain rfl := Option.some.inj hR
   show ResOk _ _ _ _ ∧ MemL _ _
   exact ⟨res0 rfl, ⟨rfl, trivial⟩⟩
  ·try simp only [Bool.or_eq_true, Bool.and_eq_true, Bool.or_eq_false_iff, Bool.and_eq_false_iff, Bool.not_eq_true', Bool.not_eq_false', decide_eq_true_eq, decide_eq_false_iff_not] at h1
   exfalso; omega

end Go.Sim

set_option linter.unusedVariables false
namespace Go.Sim
theorem len203 {a0 : List Int} {a1 : Int → Int → Option Int} {R : List Int} (h : s203 a0 a1 = some R) : R.length = a0.length := by
  unfold s203 at h
  obtain ⟨y1, h1, h⟩ := bindO_inv h
  cases h
  exact len233 h1
theorem len201 {a0 : List S154} {a1 a2 a3 : Int} {a4 : S154 → S154 → Option Int} {R : List S154} (h : s201 a0 a1 a2 a3 a4 = some R) : R.length = a0.length := by
  unfold s201 at h
  rw [s201_l1] at h
  obtain ⟨y1, h1, h⟩ := bindO_inv h
  cases h
  exact len225 h1
end Go.Sim

set_option linter.unusedSimpArgs false
set_option linter.unusedVariables false
set_option maxRecDepth 10000
namespace Go.Sim
open Go.Proofs


/-- slices.SortFunc[[]use.Match,use.Match] -/
def s165 (a0 : List S154) (a1 : S154 → S154 → Option Int) : Option (List S154) :=
 bindO (s201 a0 0 (List.length a0 : Int) (lenU (List.length a0 : Int)) a1) fun r1 => some r1
theorem c165 (a0 : List S154) (a1 : S154 → S154 → Option Int) {R : List S154} {N0 : Nat} (hN0 : List.length a0 = N0) {ca1 : G} {ia1 : FuncId} {ka1 : List G} (ha1 : FnIs ca1 ia1 ka1) (Ka1 : Known Tryz.prog ia1) (Ha1 : ∀ (x0 : S154) (x1 : S154) (r : Int), a1 x0 x1 = some r → Con (EG glT) ia1 ([G.agg [G.int x0.Slot, G.int x0.Record], G.agg [G.int x1.Slot, G.int x1.Record]] ++ ka1) (G.int r)) (hB : (List.length a0 : Int) ≤ 12) (hR : s165 a0 a1 = some R) : ConB (EG glT) 165 [.osl 0 2 0 N0, .g (ca1)] [(0, .arr 155 2 (List.map S154.c a0))] (G.tup []) [(0, .arr 155 2 (List.map S154.c R))] := by
 unfold s165 at hR
 refine conB_of_aw Tryz.func165 rfl rfl rfl fun w0 M0 x => ?_
 refine len_osl (f := S154.c) (l := a0) 0 rfl fun hla0 => ?_
 refine aw_seq ?_
 refine aw_region [.p, .p, .p] ?_
 refine st rfl rfl (eff_moveO rfl rfl) rfl ?_
 refine st rfl rfl (eff_lenON hN0 rfl Tryz.underlying79 rfl) rfl ?_
 refine st rfl rfl (eff_assigng rfl rfl) rfl ?_
 refine st_nil ?_
 obtain ⟨r1, br1, hR⟩ := bindO_inv hR
 refine aw_region [.p, .p, .p, .p, .p, .p, .w] ?_
 refine st rfl rfl (eff_moveO rfl rfl) rfl ?_
 refine st rfl rfl (eff_moveg rfl rfl) rfl ?_
 refine st rfl rfl (eff_moveg rfl rfl) rfl ?_
 refine st rfl rfl (eff_conv rfl Tryz.underlying3 Tryz.underlying257 rfl) rfl ?_
 refine st rfl rfl (eff_call rfl K182 rfl (Con.lend (c182w (List.length a0 : Int) (by omega))) (ag_cons rfl ag_nil)) rfl ?_
 refine st rfl rfl (eff_moveg rfl rfl) rfl ?_
 refine st_w rfl rfl (eff_callB1 0 0 rfl K201 rfl (ConB.lend (c201 a0 0 (List.length a0 : Int) (lenU (List.length a0 : Int)) a1 hN0 ha1 Ka1 Ha1 (by first | assumption | omega | (simp [copyL_len]; omega)) (by first | assumption | omega | (simp [copyL_len]; omega)) (by first | assumption | omega | (simp [copyL_len]; omega)) (by first | assumption | omega | (simp [copyL_len]; omega)) br1)) (at_cons rfl rfl (at_cons rfl rfl (at_cons rfl rfl (at_cons rfl rfl (at_cons rfl rfl at_nil))))) rfl rfl rfl) rfl ?_
 refine st_nil ?_
 obtain rfl := Option.some.inj hR
 show ResOk _ _ _ _ ∧ MemL _ _
 exact ⟨res0 rfl, ⟨rfl, trivial⟩⟩

end Go.Sim

set_option linter.unusedVariables false
namespace Go.Sim
theorem len165 {a0 : List S154} {a1 : S154 → S154 → Option Int} {R : List S154} (h : s165 a0 a1 = some R) : R.length = a0.length := by
  unfold s165 at h
  obtain ⟨y1, h1, h⟩ := bindO_inv h
  cases h
  exact len201 h1
end Go.Sim

namespace Go.Sim
/-! ## sorting by insertion, in plain words -/
section
variable {α : Type}
/-- x goes in from the right into P, which is written from its last element on -/
def insB (lt : α → α → Bool) (x : α) : List α → List α
  | [] => [x]
  | y :: r => bif lt x y then y :: insB lt x r else x :: y :: r
def insS (lt : α → α → Bool) : List α → List α → List α
  | P, [] => P.reverse
  | P, x :: l => insS lt (insB lt x P) l
def isort (lt : α → α → Bool) (l : List α) : List α := insS lt [] l

theorem insB_perm (lt : α → α → Bool) (x : α) : ∀ P, (insB lt x P).Perm (x :: P)
  | [] => List.Perm.refl _
  | y :: r => by
    rw [insB]
    cases lt x y with
    | true => exact ((insB_perm lt x r).cons y).trans (List.Perm.swap x y r)
    | false => exact List.Perm.refl _
theorem insB_len (lt : α → α → Bool) (x : α) (P : List α) : (insB lt x P).length = P.length + 1 := (insB_perm lt x P).length_eq
theorem insS_perm (lt : α → α → Bool) : ∀ (l P : List α), (insS lt P l).Perm (P ++ l)
  | [], P => by rw [insS, List.append_nil]; exact List.reverse_perm P
  | x :: l, P => by
    rw [insS]
    refine (insS_perm lt l _).trans ?_
    refine ((insB_perm lt x P).append_right l).trans ?_
    exact List.perm_middle.symm
theorem isort_perm (lt : α → α → Bool) (l : List α) : (isort lt l).Perm l := insS_perm lt l []
/-- in the order Rel, written from the last on -/
theorem insB_sorted {lt : α → α → Bool} {Rel : α → α → Prop} (tr : ∀ a b c, Rel a b → Rel b c → Rel a c) {x : α} : ∀ {P : List α}, P.Pairwise (fun a b => Rel b a) → (∀ y ∈ P, (lt x y = true → Rel x y) ∧ (lt x y = false → Rel y x)) → (insB lt x P).Pairwise (fun a b => Rel b a)
  | [], _, _ => by rw [insB]; exact List.pairwise_singleton _ _
  | y :: r, hP, hx => by
    rw [insB]
    have h1 := List.pairwise_cons.1 hP
    cases hl : lt x y with
    | true =>
      refine List.pairwise_cons.2 ⟨fun z hz => ?_, insB_sorted tr h1.2 fun y hy => hx y (List.mem_cons_of_mem _ hy)⟩
      rcases List.mem_cons.1 ((insB_perm lt x r).mem_iff.1 hz) with rfl | hz
      · exact (hx y List.mem_cons_self).1 hl
      · exact h1.1 z hz
    | false =>
      refine List.pairwise_cons.2 ⟨fun z hz => ?_, hP⟩
      have h2 := (hx y List.mem_cons_self).2 hl
      rcases List.mem_cons.1 hz with rfl | hz
      · exact h2
      · exact tr z y x (h1.1 z hz) h2
theorem insS_sorted {lt : α → α → Bool} {Rel : α → α → Prop} (tr : ∀ a b c, Rel a b → Rel b c → Rel a c) : ∀ {l P : List α}, P.Pairwise (fun a b => Rel b a) → (∀ y ∈ P, ∀ x ∈ l, (lt x y = true → Rel x y) ∧ (lt x y = false → Rel y x)) →
    l.Pairwise (fun y x => (lt x y = true → Rel x y) ∧ (lt x y = false → Rel y x)) → (insS lt P l).Pairwise Rel
  | [], P, hP, _, _ => by rw [insS]; exact List.pairwise_reverse.2 hP
  | x :: l, P, hP, hx, hl => by
    rw [insS]
    have h1 := List.pairwise_cons.1 hl
    refine insS_sorted tr (insB_sorted tr hP fun y hy => hx y hy x List.mem_cons_self) (fun y hy z hz => ?_) h1.2
    rcases List.mem_cons.1 ((insB_perm lt x P).mem_iff.1 hy) with rfl | hy
    · exact h1.1 z hz
    · exact hx y hy z (List.mem_cons_of_mem _ hz)
/-- what comes of the sort is in order -/
theorem isort_sorted {lt : α → α → Bool} {Rel : α → α → Prop} (tr : ∀ a b c, Rel a b → Rel b c → Rel a c) {l : List α} (hl : l.Pairwise (fun y x => (lt x y = true → Rel x y) ∧ (lt x y = false → Rel y x))) : (isort lt l).Pairwise Rel :=
  insS_sorted tr List.Pairwise.nil (fun y hy => by cases hy) hl

/-- there is one list of given elements in a given order -/
theorem sorted_unique {Rel : α → α → Prop} : ∀ {a b : List α}, a.Perm b → a.Pairwise Rel → b.Pairwise Rel → (∀ x ∈ a, ∀ y ∈ a, Rel x y → Rel y x → x = y) → a = b
  | [], b, hp, _, _, _ => by rw [List.nil_perm.1 hp]
  | x :: t, [], hp, _, _, _ => by cases (List.perm_nil.1 hp)
  | x :: t, y :: s, hp, ha, hb, an => by
    have h1 := List.pairwise_cons.1 ha
    have h2 := List.pairwise_cons.1 hb
    have hxy : x = y := by
      have hx : x ∈ y :: s := hp.mem_iff.1 List.mem_cons_self
      have hy : y ∈ x :: t := hp.mem_iff.2 List.mem_cons_self
      rcases List.mem_cons.1 hx with e | hx
      · exact e
      · rcases List.mem_cons.1 hy with e | hy'
        · exact e.symm
        · exact an x List.mem_cons_self y hy (h1.1 y hy') (h2.1 x hx)
    subst hxy
    rw [sorted_unique ((List.perm_cons x).1 hp) h1.2 h2.2 fun a ha b hb => an a (List.mem_cons_of_mem _ ha) b (List.mem_cons_of_mem _ hb)]

/-! ### the walk's loops are this sort -/
theorem ixO_app {P B : List α} {x : α} : ixO (P ++ x :: B) (P.length : Int) = some x := by
  unfold ixO
  rw [decide_eq_true (by omega)]
  simp
theorem ixO_app' {P B : List α} {x : α} {n : Int} (h : n = (P.length : Int)) : ixO (P ++ x :: B) n = some x := by rw [h]; exact ixO_app
theorem set_app {P B : List α} {x y : α} {n : Nat} (h : n = P.length) : List.set (P ++ x :: B) n y = P ++ y :: B := by
  subst h
  rw [List.set_append_right _ _ (Nat.le_refl _), Nat.sub_self, List.set_cons_zero]
end
end Go.Sim

set_option linter.unusedVariables false
set_option linter.unusedSimpArgs false
namespace Go.Sim
theorem s252_l2_ok (rec1 : Int → List Int → Option (List Int)) (cmp : Int → Int → Option Int) (lt : Int → Int → Bool) (x1 : Int) (x : Int) : ∀ (P B : List Int) (k : Nat), P.length < k → (∀ y ∈ P, ∃ c, cmp x y = some c ∧ decide (c < 0) = lt x y) →
    s252_l2 rec1 0 cmp x1 k (P.length : Int) (P.reverse ++ x :: B) = rec1 (x1 + 1) ((insB lt x P).reverse ++ B)
  | [], B, 0, h, _ => by omega
  | [], B, k + 1, h, _ => by
    rw [s252_l2]
    have e : decide ((0 : Int) < (([] : List Int).length : Int)) = false := by simp
    simp only [e, cond_false, bindO, Bool.false_and, insB]
    simp
  | y :: r, B, 0, h, _ => by omega
  | y :: r, B, k + 1, h, hc => by
    have e : decide ((0 : Int) < ((y :: r).length : Int)) = true := by simp <;> omega
    have l1 : (y :: r).reverse ++ x :: B = (r.reverse ++ [y]) ++ x :: B := by simp
    have l2 : (r.reverse ++ [y]) ++ x :: B = r.reverse ++ y :: (x :: B) := by simp
    have i1 : ixO ((r.reverse ++ [y]) ++ x :: B) ((y :: r).length : Int) = some x := ixO_app' (by simp)
    have i2 : ixO ((r.reverse ++ [y]) ++ x :: B) (((y :: r).length : Int) - 1) = some y := by rw [l2]; exact ixO_app' (by simp)
    obtain ⟨c, c1, c2⟩ := hc y List.mem_cons_self
    rw [s252_l2, l1]
    simp only [e, cond_true, i1, i2, bindO, c1, Bool.true_and, c2]
    cases hl : lt x y with
    | true =>
      have e1 : List.set ((r.reverse ++ [y]) ++ x :: B) (Int.toNat ((y :: r).length : Int)) y = (r.reverse ++ [y]) ++ y :: B := set_app (by simp)
      have e2 : List.set ((r.reverse ++ [y]) ++ y :: B) (Int.toNat (((y :: r).length : Int) - 1)) x = r.reverse ++ x :: (y :: B) := by
        rw [show (r.reverse ++ [y]) ++ y :: B = r.reverse ++ y :: (y :: B) by simp]
        exact set_app (by simp)
      have e3 : (((y :: r).length : Int) - 1) = (r.length : Int) := by simp
      have hih := s252_l2_ok rec1 cmp lt x1 x r (y :: B) k (by simp at h; omega) (fun z hz => hc z (List.mem_cons_of_mem _ hz))
      have i3 : ixO (List.set ((r.reverse ++ [y]) ++ x :: B) (Int.toNat ((y :: r).length : Int)) y) (((y :: r).length : Int) - 1) = some y := by
        rw [e1, show (r.reverse ++ [y]) ++ y :: B = r.reverse ++ y :: (y :: B) by simp]
        exact ixO_app' (by simp)
      rw [cond_true]
      simp only [i3]
      rw [e1, e2, e3, hih]
      simp [insB, hl]
    | false =>
      rw [cond_false]
      simp [insB, hl]
theorem s252_l1_ok (cmp : Int → Int → Option Int) (lt : Int → Int → Bool) : ∀ (l P : List Int), (∀ y ∈ P ++ l, ∀ x ∈ l, ∃ c, cmp x y = some c ∧ decide (c < 0) = lt x y) → s252_l1 0 cmp l.length (P.length : Int) (P.reverse ++ l) = some (insS lt P l)
  | [], P, _ => by rw [List.length_nil, s252_l1, insS, List.append_nil]
  | x :: l, P, h => by
    rw [List.length_cons, s252_l1, s252_l2_ok _ cmp lt _ x P l _ (by omega) (fun y hy => h y (List.mem_append_left _ hy) x List.mem_cons_self), insS]
    have := s252_l1_ok cmp lt l (insB lt x P) (fun y hy z hz => h y (by
      rcases List.mem_append.1 hy with hy | hy
      · rcases List.mem_cons.1 ((insB_perm lt x P).mem_iff.1 hy) with rfl | hy
        · simp
        · simp [hy]
      · simp [hy]) z (List.mem_cons_of_mem _ hz))
    rw [← this, insB_len]
    simp
theorem s252_ok {cmp : Int → Int → Option Int} {lt : Int → Int → Bool} {l : List Int} (h : ∀ y ∈ l, ∀ x ∈ l, ∃ c, cmp x y = some c ∧ decide (c < 0) = lt x y) : s252 l 0 (l.length : Int) cmp = some (isort lt l) := by
  unfold s252 isort
  cases l with
  | nil => rfl
  | cons x l =>
    have e : ((((x :: l).length : Int) - (0 + 1)).toNat) = l.length := by simp
    rw [e, insS]
    exact s252_l1_ok cmp lt l [x] (fun y hy z hz => h y hy z (List.mem_cons_of_mem _ hz))
theorem s225_l2_ok (rec1 : Int → List S154 → Option (List S154)) (cmp : S154 → S154 → Option Int) (lt : S154 → S154 → Bool) (x1 : Int) (x : S154) : ∀ (P B : List S154) (k : Nat), P.length < k → (∀ y ∈ P, ∃ c, cmp x y = some c ∧ decide (c < 0) = lt x y) →
    s225_l2 rec1 0 cmp x1 k (P.length : Int) (P.reverse ++ x :: B) = rec1 (x1 + 1) ((insB lt x P).reverse ++ B)
  | [], B, 0, h, _ => by omega
  | [], B, k + 1, h, _ => by
    rw [s225_l2]
    have e : decide ((0 : Int) < (([] : List S154).length : Int)) = false := by simp
    simp only [e, cond_false, bindO, Bool.false_and, insB]
    simp
  | y :: r, B, 0, h, _ => by omega
  | y :: r, B, k + 1, h, hc => by
    have e : decide ((0 : Int) < ((y :: r).length : Int)) = true := by simp <;> omega
    have l1 : (y :: r).reverse ++ x :: B = (r.reverse ++ [y]) ++ x :: B := by simp
    have l2 : (r.reverse ++ [y]) ++ x :: B = r.reverse ++ y :: (x :: B) := by simp
    have i1 : ixO ((r.reverse ++ [y]) ++ x :: B) ((y :: r).length : Int) = some x := ixO_app' (by simp)
    have i2 : ixO ((r.reverse ++ [y]) ++ x :: B) (((y :: r).length : Int) - 1) = some y := by rw [l2]; exact ixO_app' (by simp)
    obtain ⟨c, c1, c2⟩ := hc y List.mem_cons_self
    rw [s225_l2, l1]
    simp only [e, cond_true, i1, i2, bindO, c1, Bool.true_and, c2]
    cases hl : lt x y with
    | true =>
      have e1 : List.set ((r.reverse ++ [y]) ++ x :: B) (Int.toNat ((y :: r).length : Int)) y = (r.reverse ++ [y]) ++ y :: B := set_app (by simp)
      have e2 : List.set ((r.reverse ++ [y]) ++ y :: B) (Int.toNat (((y :: r).length : Int) - 1)) x = r.reverse ++ x :: (y :: B) := by
        rw [show (r.reverse ++ [y]) ++ y :: B = r.reverse ++ y :: (y :: B) by simp]
        exact set_app (by simp)
      have e3 : (((y :: r).length : Int) - 1) = (r.length : Int) := by simp
      have hih := s225_l2_ok rec1 cmp lt x1 x r (y :: B) k (by simp at h; omega) (fun z hz => hc z (List.mem_cons_of_mem _ hz))
      have i3 : ixO (List.set ((r.reverse ++ [y]) ++ x :: B) (Int.toNat ((y :: r).length : Int)) y) (((y :: r).length : Int) - 1) = some y := by
        rw [e1, show (r.reverse ++ [y]) ++ y :: B = r.reverse ++ y :: (y :: B) by simp]
        exact ixO_app' (by simp)
      rw [cond_true]
      simp only [i3]
      rw [e1, e2, e3, hih]
      simp [insB, hl]
    | false =>
      rw [cond_false]
      simp [insB, hl]
theorem s225_l1_ok (cmp : S154 → S154 → Option Int) (lt : S154 → S154 → Bool) : ∀ (l P : List S154), (∀ y ∈ P ++ l, ∀ x ∈ l, ∃ c, cmp x y = some c ∧ decide (c < 0) = lt x y) → s225_l1 0 cmp l.length (P.length : Int) (P.reverse ++ l) = some (insS lt P l)
  | [], P, _ => by rw [List.length_nil, s225_l1, insS, List.append_nil]
  | x :: l, P, h => by
    rw [List.length_cons, s225_l1, s225_l2_ok _ cmp lt _ x P l _ (by omega) (fun y hy => h y (List.mem_append_left _ hy) x List.mem_cons_self), insS]
    have := s225_l1_ok cmp lt l (insB lt x P) (fun y hy z hz => h y (by
      rcases List.mem_append.1 hy with hy | hy
      · rcases List.mem_cons.1 ((insB_perm lt x P).mem_iff.1 hy) with rfl | hy
        · simp
        · simp [hy]
      · simp [hy]) z (List.mem_cons_of_mem _ hz))
    rw [← this, insB_len]
    simp
theorem s225_ok {cmp : S154 → S154 → Option Int} {lt : S154 → S154 → Bool} {l : List S154} (h : ∀ y ∈ l, ∀ x ∈ l, ∃ c, cmp x y = some c ∧ decide (c < 0) = lt x y) : s225 l 0 (l.length : Int) cmp = some (isort lt l) := by
  unfold s225 isort
  cases l with
  | nil => rfl
  | cons x l =>
    have e : ((((x :: l).length : Int) - (0 + 1)).toNat) = l.length := by simp
    rw [e, insS]
    exact s225_l1_ok cmp lt l [x] (fun y hy z hz => h y hy z (List.mem_cons_of_mem _ hz))
theorem s203_ok {cmp : Int → Int → Option Int} {lt : Int → Int → Bool} {l : List Int} (h : ∀ y ∈ l, ∀ x ∈ l, ∃ c, cmp x y = some c ∧ decide (c < 0) = lt x y) : s203 l cmp = some (isort lt l) := by
  unfold s203 s233
  rw [s233_l1, s252_ok h]
  simp only [bindO]
  rw [s233_l2]
theorem s165_ok {cmp : S154 → S154 → Option Int} {lt : S154 → S154 → Bool} {l : List S154} (h : ∀ y ∈ l, ∀ x ∈ l, ∃ c, cmp x y = some c ∧ decide (c < 0) = lt x y) : s165 l cmp = some (isort lt l) := by
  unfold s165 s201
  rw [s201_l1, s225_ok h]
  simp only [bindO]
end Go.Sim

