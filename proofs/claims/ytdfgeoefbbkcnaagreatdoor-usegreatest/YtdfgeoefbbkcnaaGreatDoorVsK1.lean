/-
  What is proved: the walk of pairs and covers; the search of the cover.
-/
import Derived.Test.YtdfgeoefbbkcnaaGreatDoorVsF2
import Derived.Test.YtdfgeoefbbkcnaaGreatDoorVaA4
import Derived.Test.YtdfgeoefbbkcnaaGreatDoorVsJ1
set_option linter.unusedSectionVars false
set_option linter.unusedSimpArgs false
set_option linter.unusedVariables false
set_option linter.unnecessarySimpa false
set_option linter.deprecated false
set_option linter.unusedSimpArgs false
set_option linter.unusedVariables false
set_option maxRecDepth 10000
namespace Go.Sim
open Go.Proofs


/-- use.there -/
def s141 (a0 : Int) (a1 : Int) : Int :=
 (s86 ((decide (a0 < 0)) || (decide (a1 ≤ a0))) 10)
theorem c141 {g : List (Nat × List Value)} (a0 : Int) (a1 : Int)    : Con (EG g) 141 [G.int a0, G.int a1] (G.int (s141 a0 a1)) := by
 generalize hR : s141 a0 a1 = R
 unfold s141 at hR
 refine con_of_aw Tryz.func141 rfl rfl fun w0 M0 => ?_
 refine aw_seq ?_
 refine aw_region [.p] ?_
 refine st rfl rfl (eff_assigng rfl rfl) rfl ?_
 refine st_nil ?_
 refine aw_seq ?_
 refine aw_region [.p, .p, .p, .p, .p, .p, .p, .p, .p] ?_
 refine st rfl rfl (eff_moveg rfl rfl) rfl ?_
 refine st rfl rfl (eff_lss rfl rfl rfl) rfl ?_
 refine st rfl rfl (eff_moveg rfl rfl) rfl ?_
 refine st_g rfl rfl rfl (gb_bool _ _) (fun h => eff_moveg rfl rfl) rfl ?_
 refine st_g rfl rfl rfl (gb_bool _ _) (fun h => eff_moveg rfl rfl) rfl ?_
 refine st_g rfl rfl rfl (gb_bool _ _) (fun h => eff_geq rfl (gd h rfl) (gd h rfl)) rfl ?_
 refine st rfl rfl (eff_or rfl rfl rfl rfl) rfl ?_
 refine st rfl rfl (eff_call rfl K86 rfl (c86 ((decide (a0 < 0)) || (decide (a1 ≤ a0))) 10) (ag_cons rfl (ag_cons rfl ag_nil))) rfl ?_
 refine st rfl rfl (eff_assigng rfl rfl) rfl ?_
 refine st_nil ?_
 refine aw_ret ?_
 subst hR
 exact res_c rfl (rv_g rfl)

/-- turnroundref09.checkIndices -/
def s146_l1 (a0 : List Int) (a1 : Int) : List Int → Nat → Option Int
 | [], k2 => some 0
 | y3 :: t4, k2 => (bif (decide (y3 < 0)) || (decide (a1 ≤ y3)) then some 10 else bindO (bif decide (0 < ((k2 : Nat) : Int)) then ixO a0 (IntKind.i64.wrap (((k2 : Nat) : Int) - 1)) else some default) fun y5 => (bif (decide (0 < ((k2 : Nat) : Int))) && (decide (y3 ≤ y5)) then some 11 else s146_l1 a0 a1 t4 (k2 + 1)))
def s146 (a0 : List Int) (a1 : Int) : Option Int :=
 s146_l1 a0 a1 a0 0
/-- turnroundref09.CheckMatches -/
def s78_l2 (rec1 : Nat → Option Int) (a0 : S23) (a1 : List S151) (a2 : List S151) (a3 : List S154) (k2 : Nat) (y3 : S154) : Nat → Int → Option Int
 | 0, x6 => bindO (ixO a1 y3.Slot) fun y9 => bindO (ixO a2 y3.Record) fun y10 => (bif !(s145 a0 y9 y10) then some 18 else rec1 (k2 + 1))
 | k8 + 1, x6 => bindO (ixO a3 x6) fun y11 => (bif decide (y11.Record = y3.Record) then some 9 else s78_l2 rec1 a0 a1 a2 a3 k2 y3 k8 (x6 + 1))
def s78_l1 (a0 : S23) (a1 : List S151) (a2 : List S151) (a3 : List S154) : List S154 → Nat → Option Int
 | [], k2 => some 0
 | y3 :: t4, k2 => (bif (((decide (y3.Slot < 0)) || (decide ((List.length a1 : Int) ≤ y3.Slot))) || (decide (y3.Record < 0))) || (decide ((List.length a2 : Int) ≤ y3.Record)) then some 10 else bindO (bif decide (0 < ((k2 : Nat) : Int)) then ixO a3 (IntKind.i64.wrap (((k2 : Nat) : Int) - 1)) else some default) fun y5 => (bif (decide (0 < ((k2 : Nat) : Int))) && (decide (y3.Slot ≤ y5.Slot)) then some 11 else s78_l2 (fun k_ => s78_l1 a0 a1 a2 a3 t4 k_) a0 a1 a2 a3 k2 y3 ((((k2 : Nat) : Int) - 0).toNat) 0))
def s78 (a0 : S23) (a1 : List S151) (a2 : List S151) (a3 : List S154) : Option Int :=
 s78_l1 a0 a1 a2 a3 a3 0
end Go.Sim

set_option linter.unusedSimpArgs false
set_option linter.unusedVariables false
set_option maxRecDepth 10000
namespace Go.Sim
open Go.Proofs


/-- turnroundref09.CheckCover -/
def s79_l2 (rec1 : Nat → Option Int) (a0 : S23) (a3 : S139) (k4 : Nat) (y5 : S151) : List S151 → Nat → Option Int
 | [], k9 => rec1 (k4 + 1)
 | y10 :: t11, k9 => (bif ((s145 a0 y5 y10) && (!(s80 a3.Slots ((k4 : Nat) : Int)))) && (!(s80 a3.Records ((k9 : Nat) : Int))) then some 21 else s79_l2 rec1 a0 a3 k4 y5 t11 (k9 + 1))
def s79_l1 (a0 : S23) (a1 : List S151) (a2 : List S151) (a3 : S139) : List S151 → Nat → Option Int
 | [], k4 => bindO (s120 a0 a1 a2) fun r7 => (bif decide (IntKind.i64.wrap ((List.length a3.Slots : Int) + (List.length a3.Records : Int)) ≠ (List.length r7 : Int)) then some 21 else some 0)
 | y5 :: t6, k4 => s79_l2 (fun k_ => s79_l1 a0 a1 a2 a3 t6 k_) a0 a3 k4 y5 a2 0
def s79 (a0 : S23) (a1 : List S151) (a2 : List S151) (a3 : S139) : Option Int :=
 bindO (s146 a3.Slots (List.length a1 : Int)) fun r1 => bindO (s146 a3.Records (List.length a2 : Int)) fun r2 => (bif decide ((s89 [r1, r2]) ≠ 0) then some (s89 [r1, r2]) else s79_l1 a0 a1 a2 a3 a1 0)
/-- use.CheckMatches -/
def s75_j1 (rec1 : Nat → (List (Int × Bool)) → Option Int) (x2 : List (Int × Bool)) (k3 : Nat) (y4 : S154) (x7 : Int) : Option Int :=
 (bif decide (x7 ≠ 0) then some x7 else rec1 (k3 + 1) (mset x2 y4.Record true))
def s75_l1 (a0 : S23) (a1 : List S151) (a2 : List S151) (a3 : List S154) : List S154 → Nat → (List (Int × Bool)) → Option Int
 | [], k3, x2 => some 0
 | y4 :: t5, k3, x2 => bindO (bif decide (0 < ((k3 : Nat) : Int)) then ixO a3 (max 0 (IntKind.i64.wrap (((k3 : Nat) : Int) - 1))) else some default) fun y6 => bindO (bif decide ((s84 [(s141 y4.Slot (List.length a1 : Int)), (s141 y4.Record (List.length a2 : Int)), (s86 ((decide (0 < ((k3 : Nat) : Int))) && (decide (y4.Slot ≤ y6.Slot))) 11), (s86 (mgetD x2 y4.Record false) 9)]) = 0) then ixO a1 y4.Slot else some default) fun y8 => bindO (bif decide ((s84 [(s141 y4.Slot (List.length a1 : Int)), (s141 y4.Record (List.length a2 : Int)), (s86 ((decide (0 < ((k3 : Nat) : Int))) && (decide (y4.Slot ≤ y6.Slot))) 11), (s86 (mgetD x2 y4.Record false) 9)]) = 0) then ixO a2 y4.Record else some default) fun y9 => (bif (decide ((s84 [(s141 y4.Slot (List.length a1 : Int)), (s141 y4.Record (List.length a2 : Int)), (s86 ((decide (0 < ((k3 : Nat) : Int))) && (decide (y4.Slot ≤ y6.Slot))) 11), (s86 (mgetD x2 y4.Record false) 9)]) = 0)) && (!(s142 a0 y8 y9)) then s75_j1 (fun k_ z0_ => s75_l1 a0 a1 a2 a3 t5 k_ z0_) x2 k3 y4 18 else s75_j1 (fun k_ z0_ => s75_l1 a0 a1 a2 a3 t5 k_ z0_) x2 k3 y4 (s84 [(s141 y4.Slot (List.length a1 : Int)), (s141 y4.Record (List.length a2 : Int)), (s86 ((decide (0 < ((k3 : Nat) : Int))) && (decide (y4.Slot ≤ y6.Slot))) 11), (s86 (mgetD x2 y4.Record false) 9)]))
def s75 (a0 : S23) (a1 : List S151) (a2 : List S151) (a3 : List S154) : Option Int :=
 (bif decide ((s113 a0 a1 a2) ≠ 0) then some (s113 a0 a1 a2) else s75_l1 a0 a1 a2 a3 a3 0 [])
theorem c75 {g : List (Nat × List Value)} (a0 : S23) (a1 : List S151) (a2 : List S151) (a3 : List S154) {R : Int}  (hb : ¬ s113 a0 a1 a2 ≠ 0 → a1.length ≤ 12 ∧ a2.length ≤ 12) (hR : s75 a0 a1 a2 a3 = some R) : Con (EG g) 75 [G.agg [G.int a0.Before, G.int a0.After, G.int a0.Notice, G.int a0.Share, G.sl 1 (List.map cStr a0.Causes), G.int a0.Off, G.int a0.Run], G.sl 3 (List.map S151.c a1), G.sl 3 (List.map S151.c a2), G.sl 2 (List.map S154.c a3)] (G.int R) := by
 unfold s75 at hR
 refine con_of_aw Tryz.func75 rfl rfl fun w0 M0 => ?_
 refine len_sl (f := S151.c) (l := a1) 1 rfl fun hla1 => ?_
 refine len_sl (f := S151.c) (l := a2) 2 rfl fun hla2 => ?_
 refine len_sl (f := S154.c) (l := a3) 3 rfl fun hla3 => ?_
 refine aw_seq ?_
 refine aw_region [.p, .p] ?_
 refine st rfl rfl (eff_box rfl rfl) rfl ?_
 refine st rfl rfl (eff_assigng rfl rfl) rfl ?_
 refine st_nil ?_
 refine aw_seq ?_
 refine aw_seq ?_
 refine aw_region [.p, .p, .p, .p, .p] ?_
 refine st rfl rfl (eff_loadA rfl ty24 rfl rfl rfl) rfl ?_
 refine st rfl rfl (eff_moveg rfl rfl) rfl ?_
 refine st rfl rfl (eff_moveg rfl rfl) rfl ?_
 refine st rfl rfl (eff_call rfl K113 rfl (c113 a0 a1 a2) (ag_cons rfl (ag_cons rfl (ag_cons rfl ag_nil)))) rfl ?_
 refine st rfl rfl (eff_assigng rfl rfl) rfl ?_
 refine st_nil ?_
 refine aw_seq ?_
 refine aw_region [.p, .p] ?_
 refine st rfl rfl (eff_moveg rfl rfl) rfl ?_
 refine st rfl rfl (eff_neq rfl rfl rfl) rfl ?_
 refine st_nil ?_
 refine aw_cond _ rfl (fun h1 => ?_) (fun h1 => ?_)
 ·replace h1 : (decide ((s113 a0 a1 a2) ≠ 0)) = true := h1
  replace hR := condT hR h1
  try simp only [decide_eq_true_eq] at h1
  refine aw_seq ?_
  refine aw_region [.p, .p] ?_
  refine st rfl rfl (eff_moveg rfl rfl) rfl ?_
  refine st rfl rfl (eff_assigng rfl rfl) rfl ?_
  refine st_nil ?_
  refine aw_ret ?_
  obtain rfl := Option.some.inj hR
  exact res_c rfl (rv_g rfl)
 ·replace h1 : (decide ((s113 a0 a1 a2) ≠ 0)) = false := h1
  replace hR := condF hR h1
  try simp only [decide_eq_false_iff_not] at h1
  obtain ⟨hb1, hb2⟩ := hb h1
  refine aw_skip ?_
  refine aw_seq ?_
  refine aw_region [.w, .p] ?_
  refine st_w rfl rfl (eff_makeMap 21 rfl rfl) rfl ?_
  refine st rfl rfl (eff_assignM rfl rfl) rfl ?_
  refine st_nil ?_
  refine aw_seq ?_
  refine aw_seq ?_
  refine aw_region [.p, .p, .p] ?_
  refine st rfl rfl (eff_moveg rfl rfl) rfl ?_
  refine st rfl rfl (eff_lenM (f := S154.c) (l := a3) rfl Tryz.underlying79 rfl) rfl ?_
  refine st rfl rfl (eff_moveg rfl rfl) rfl ?_
  refine st_nil ?_
  refine aw_block ?_
  refine aw_loop_g (γ := Nat × (List S154) × (List (Int × Bool))) (fun g => ([(1, .g (G.sl 3 (List.map S151.c a1))), (2, .g (G.sl 3 (List.map S151.c a2))), (3, .g (G.sl 2 (List.map S154.c a3))), (4, .g (G.ref [G.int a0.Before, G.int a0.After, G.int a0.Notice, G.int a0.Share, G.sl 1 (List.map cStr a0.Causes), G.int a0.Off, G.int a0.Run])), (10, .omap 21), (22, .g (G.sl 2 (List.map S154.c a3))), (23, .g (G.int (List.length a3 : Int))), (24, .g (G.int ((g.1 : Nat) : Int)))], [(21, mpB (K := Int) (V := Bool) (Value.int .i64) (fun v => G.bool v) g.2.2)])) (fun g => a3.drop g.1 = g.2.1 ∧ s75_l1 a0 a1 a2 a3 g.2.1 g.1 g.2.2 = some R) (fun g => List.length g.2.1) ⟨rfl, (0, a3, []), ⟨rfl, rfl, rfl, rfl, rfl, rfl, rfl, rfl, trivial⟩, ⟨rfl, trivial⟩, rfl, ⟨rfl, hR⟩, trivial⟩ ?_
  ·rintro ⟨k3, t5, x2⟩ ⟨hd, hR⟩
   replace hd : a3.drop k3 = t5 := hd
   replace hR : s75_l1 a0 a1 a2 a3 t5 k3 x2 = some R := hR
   refine aw_seq ?_
   refine aw_region [.p] ?_
   refine st rfl rfl (eff_lss rfl rfl rfl) rfl ?_
   refine st_nil ?_
   refine len_sl (f := S154.c) (l := a3) 3 rfl fun hlz1 => ?_
   refine aw_seq ?_
   refine aw_cond _ rfl (fun h2 => ?_) (fun h2 => ?_)
   ·replace h2 : (decide (((k3 : Nat) : Int) < (List.length a3 : Int))) = true := h2
    obtain ⟨y4, t5, rfl, hx1, hd⟩ := drop_cons hd (decT h2)
    replace h2 := decT h2
    rw [s75_l1] at hR
    try dsimp only at hR
    refine aw_skip ?_
    refine aw_seq ?_
    refine aw_block ?_
    refine aw_seq ?_
    refine aw_region [.p, .p, .p, .w, .p, .w] ?_
    refine st rfl rfl (eff_moveg rfl rfl) rfl ?_
    refine st rfl rfl (eff_ix (f := S154.c) (l := a3) (a := y4) rfl Tryz.underlying79 ty155 rfl rfl (Int.natCast_nonneg _) hx1) rfl ?_
    refine st rfl rfl (eff_loadA rfl ty155 rfl rfl rfl) rfl ?_
    refine st_w rfl rfl (eff_alloc 12 rfl z155 rfl rfl) rfl ?_
    refine st rfl rfl (eff_assigng rfl rfl) rfl ?_
    refine st_wn rfl rfl (eff_store (tv := .g (G.agg [G.int y4.Slot, G.int y4.Record])) rfl ty155 rfl rfl rfl rfl rfl) ?_
    refine st_nil ?_
    refine aw_seq ?_
    obtain ⟨y6, by6, hR⟩ := bindO_inv hR
    refine aw_draw [.p, .r, .p, .p, .p, .p, .r, .p, .p, .p, .p, .p, .p, .p, .r, .p, .p, .p, .p, .p, .p, .p, .p, .p, .p, .p, .p, .r, .r, .p, .p, .p, .p] (by kernel_rfl) ?_
    refine st rfl rfl (eff_fieldO rfl fl155_0 rfl) rfl ?_
    refine st_r rfl rfl (eff_loadO rfl ty3 rfl rfl rfl) rfl ?_
    refine st rfl rfl (eff_moveg rfl rfl) rfl ?_
    refine st rfl rfl (eff_lenM (f := S151.c) (l := a1) rfl Tryz.underlying25 rfl) rfl ?_
    refine st rfl rfl (eff_call rfl K141 rfl (c141 y4.Slot (List.length a1 : Int)) (ag_cons rfl (ag_cons rfl ag_nil))) rfl ?_
    refine st rfl rfl (eff_fieldO rfl fl155_1 rfl) rfl ?_
    refine st_r rfl rfl (eff_loadO rfl ty3 rfl rfl rfl) rfl ?_
    refine st rfl rfl (eff_moveg rfl rfl) rfl ?_
    refine st rfl rfl (eff_lenM (f := S151.c) (l := a2) rfl Tryz.underlying25 rfl) rfl ?_
    refine st rfl rfl (eff_call rfl K141 rfl (c141 y4.Record (List.length a2 : Int)) (ag_cons rfl (ag_cons rfl ag_nil))) rfl ?_
    refine st rfl rfl (eff_moveg rfl rfl) rfl ?_
    refine st rfl rfl (eff_gtr rfl rfl rfl) rfl ?_
    refine st rfl rfl (eff_moveg rfl rfl) rfl ?_
    refine st_g rfl rfl rfl (gb_bool _ _) (fun h => eff_fieldO rfl fl155_0 rfl) rfl ?_
    refine st_gr rfl rfl rfl (gb_bool _ _) (fun h => eff_loadO rfl ty3 (gd h rfl) rfl rfl) rfl ?_
    refine st_g rfl rfl rfl (gb_bool _ _) (fun h => eff_moveg rfl rfl) rfl ?_
    refine st_g rfl rfl rfl (gb_bool _ _) (fun h => eff_moveg rfl rfl) rfl ?_
    refine st_g rfl rfl rfl (gb_bool _ _) (fun h => eff_subw rfl (gd h rfl) rfl) rfl ?_
    refine st_g rfl rfl rfl (gb_bool _ _) (fun h => eff_max rfl rfl (gd h rfl)) rfl ?_
    refine st_g rfl rfl rfl (gb_bool _ _) (fun h => eff_ix (f := S154.c) (l := a3) (a := y6) rfl Tryz.underlying79 ty155 (gd h rfl) (gd h rfl) (ixO_nn (condT1 by6 h)) (ixO_get (condT1 by6 h))) rfl ?_
    refine st_g rfl rfl rfl (gb_bool _ _) (fun h => eff_fieldAddr rfl fl155_0 (gd h rfl)) rfl ?_
    refine st_g rfl rfl rfl (gb_bool _ _) (fun h => eff_load rfl ty3 (gd h rfl)) rfl ?_
    refine st_g rfl rfl rfl (gb_bool _ _) (fun h => eff_leq rfl (gd h rfl) (gd h rfl)) rfl ?_
    refine st rfl rfl (eff_and rfl rfl rfl rfl) rfl ?_
    refine st rfl rfl (eff_call rfl K86 rfl (c86 ((decide (0 < ((k3 : Nat) : Int))) && (decide (y4.Slot ≤ y6.Slot))) 11) (ag_cons rfl (ag_cons rfl ag_nil))) rfl ?_
    refine st rfl rfl (eff_moveM rfl rfl) rfl ?_
    refine st rfl rfl (eff_fieldO rfl fl155_1 rfl) rfl ?_
    refine st_r rfl rfl (eff_loadO rfl ty3 rfl rfl rfl) rfl ?_
    refine st_r rfl rfl (eff_lookup (kf := Value.int .i64) (vf := (fun v => G.bool v)) (m := x2) (k := y4.Record) (z := false) rfl Tryz.underlying220 Tryz.underlying3 zr4 (fun _ _ => rfl) rfl rfl rfl) rfl ?_
    refine st rfl rfl (eff_call rfl K86 rfl (c86 (mgetD x2 y4.Record false) 9) (ag_cons rfl (ag_cons rfl ag_nil))) rfl ?_
    refine st rfl rfl (eff_buildSlice rfl Tryz.underlying170 ty37 z37 rfl (ps_cons rfl (ps_cons rfl (ps_cons rfl (ps_cons rfl ps_nil)))) rfl (by simp []) (by decide)) rfl ?_
    refine st rfl rfl (eff_call rfl K84 rfl (c84 [(s141 y4.Slot (List.length a1 : Int)), (s141 y4.Record (List.length a2 : Int)), (s86 ((decide (0 < ((k3 : Nat) : Int))) && (decide (y4.Slot ≤ y6.Slot))) 11), (s86 (mgetD x2 y4.Record false) 9)]) (ag_cons rfl ag_nil)) rfl ?_
    refine st rfl rfl (eff_assigng rfl rfl) rfl ?_
    refine st_nil ?_
    refine aw_cut_g (γ := Int) (fun g => ([(1, .g (G.sl 3 (List.map S151.c a1))), (2, .g (G.sl 3 (List.map S151.c a2))), (3, .g (G.sl 2 (List.map S154.c a3))), (4, .g (G.ref [G.int a0.Before, G.int a0.After, G.int a0.Notice, G.int a0.Share, G.sl 1 (List.map cStr a0.Causes), G.int a0.Off, G.int a0.Run])), (10, .omap 21), (12, .ptr 12 0), (13, .g (G.int g)), (22, .g (G.sl 2 (List.map S154.c a3))), (23, .g (G.int (List.length a3 : Int))), (24, .g (G.int ((k3 : Nat) : Int)))], [(12, .box [.g (G.int y4.Slot), .g (G.int y4.Record)]), (21, mpB (K := Int) (V := Bool) (Value.int .i64) (fun v => G.bool v) x2)])) (fun g => s75_j1 (fun k_ z0_ => s75_l1 a0 a1 a2 a3 t5 k_ z0_) x2 k3 y4 g = some R) ?_ ?_
    ·refine aw_seq ?_
     obtain ⟨y8, by8, hR⟩ := bindO_inv hR
     obtain ⟨y9, by9, hR⟩ := bindO_inv hR
     refine aw_draw [.p, .p, .p, .p, .p, .p, .r, .p, .p, .p, .p, .r, .p, .p, .p, .p, .p] (by kernel_rfl) ?_
     refine st rfl rfl (eff_moveg rfl rfl) rfl ?_
     refine st rfl rfl (eff_eql rfl rfl rfl) rfl ?_
     refine st rfl rfl (eff_moveg rfl rfl) rfl ?_
     refine st_g rfl rfl rfl (gb_bool _ _) (fun h => eff_loadA rfl ty24 rfl rfl rfl) rfl ?_
     refine st_g rfl rfl rfl (gb_bool _ _) (fun h => eff_moveg rfl rfl) rfl ?_
     refine st_g rfl rfl rfl (gb_bool _ _) (fun h => eff_fieldO rfl fl155_0 rfl) rfl ?_
     refine st_gr rfl rfl rfl (gb_bool _ _) (fun h => eff_loadO rfl ty3 (gd h rfl) rfl rfl) rfl ?_
     refine st_g rfl rfl rfl (gb_bool _ _) (fun h => eff_ix (f := S151.c) (l := a1) (a := y8) rfl Tryz.underlying25 ty152 (gd h rfl) (gd h rfl) (ixO_nn (condT1 by8 h)) (ixO_get (condT1 by8 h))) rfl ?_
     refine st_g rfl rfl rfl (gb_bool _ _) (fun h => eff_loadA rfl ty152 (gd h rfl) rfl rfl) rfl ?_
     refine st_g rfl rfl rfl (gb_bool _ _) (fun h => eff_moveg rfl rfl) rfl ?_
     refine st_g rfl rfl rfl (gb_bool _ _) (fun h => eff_fieldO rfl fl155_1 rfl) rfl ?_
     refine st_gr rfl rfl rfl (gb_bool _ _) (fun h => eff_loadO rfl ty3 (gd h rfl) rfl rfl) rfl ?_
     refine st_g rfl rfl rfl (gb_bool _ _) (fun h => eff_ix (f := S151.c) (l := a2) (a := y9) rfl Tryz.underlying25 ty152 (gd h rfl) (gd h rfl) (ixO_nn (condT1 by9 h)) (ixO_get (condT1 by9 h))) rfl ?_
     refine st_g rfl rfl rfl (gb_bool _ _) (fun h => eff_loadA rfl ty152 (gd h rfl) rfl rfl) rfl ?_
     refine st_g rfl rfl rfl (gb_bool _ _) (fun h => eff_call rfl K142 rfl (c142 a0 y8 y9) (ag_cons (gd h rfl) (ag_cons (gd h rfl) (ag_cons (gd h rfl) ag_nil)))) rfl ?_
     refine st_g rfl rfl rfl (gb_bool _ _) (fun h => eff_not rfl (gd h rfl)) rfl ?_
     refine st rfl rfl (eff_and rfl rfl rfl rfl) rfl ?_
     refine st_nil ?_
     refine aw_cond _ rfl (fun h5 => ?_) (fun h5 => ?_)
     ·replace h5 : ((decide ((s84 [(s141 y4.Slot (List.length a1 : Int)), (s141 y4.Record (List.length a2 : Int)), (s86 ((decide (0 < ((k3 : Nat) : Int))) && (decide (y4.Slot ≤ y6.Slot))) 11), (s86 (mgetD x2 y4.Record false) 9)]) = 0)) && (!(s142 a0 y8 y9))) = true := h5
      replace hR := condT hR h5
      try simp only [Bool.or_eq_true, Bool.and_eq_true, Bool.or_eq_false_iff, Bool.and_eq_false_iff, Bool.not_eq_true', Bool.not_eq_false', decide_eq_true_eq, decide_eq_false_iff_not] at h5
      refine aw_region [.p] ?_
      refine st rfl rfl (eff_assigng rfl rfl) rfl ?_
      refine st_nil ?_
      exact ⟨rfl, 18, ⟨rfl, rfl, rfl, rfl, rfl, rfl, rfl, rfl, rfl, rfl, trivial⟩, ⟨rfl, rfl, trivial⟩, rfl, hR, trivial⟩
     ·replace h5 : ((decide ((s84 [(s141 y4.Slot (List.length a1 : Int)), (s141 y4.Record (List.length a2 : Int)), (s86 ((decide (0 < ((k3 : Nat) : Int))) && (decide (y4.Slot ≤ y6.Slot))) 11), (s86 (mgetD x2 y4.Record false) 9)]) = 0)) && (!(s142 a0 y8 y9))) = false := h5
      replace hR := condF hR h5
      try simp only [Bool.or_eq_true, Bool.and_eq_true, Bool.or_eq_false_iff, Bool.and_eq_false_iff, Bool.not_eq_true', Bool.not_eq_false', decide_eq_true_eq, decide_eq_false_iff_not] at h5
      refine aw_skip ?_
      exact ⟨rfl, (s84 [(s141 y4.Slot (List.length a1 : Int)), (s141 y4.Record (List.length a2 : Int)), (s86 ((decide (0 < ((k3 : Nat) : Int))) && (decide (y4.Slot ≤ y6.Slot))) 11), (s86 (mgetD x2 y4.Record false) 9)]), ⟨rfl, rfl, rfl, rfl, rfl, rfl, rfl, rfl, rfl, rfl, trivial⟩, ⟨rfl, rfl, trivial⟩, rfl, hR, trivial⟩
    ·rintro x7 hR
     replace hR : s75_j1 (fun k_ z0_ => s75_l1 a0 a1 a2 a3 t5 k_ z0_) x2 k3 y4 x7 = some R := hR
     unfold s75_j1 at hR
     refine aw_seq ?_
     refine aw_seq ?_
     refine aw_region [.p, .p] ?_
     refine st rfl rfl (eff_moveg rfl rfl) rfl ?_
     refine st rfl rfl (eff_neq rfl rfl rfl) rfl ?_
     refine st_nil ?_
     refine aw_cond _ rfl (fun h4 => ?_) (fun h4 => ?_)
     ·replace h4 : (decide (x7 ≠ 0)) = true := h4
      replace hR := condT hR h4
      try simp only [decide_eq_true_eq] at h4
      refine aw_seq ?_
      refine aw_region [.p, .p] ?_
      refine st rfl rfl (eff_moveg rfl rfl) rfl ?_
      refine st rfl rfl (eff_assigng rfl rfl) rfl ?_
      refine st_nil ?_
      refine aw_ret ?_
      obtain rfl := Option.some.inj hR
      exact res_c rfl (rv_g rfl)
     ·replace h4 : (decide (x7 ≠ 0)) = false := h4
      replace hR := condF hR h4
      try simp only [decide_eq_false_iff_not] at h4
      refine aw_skip ?_
      refine aw_region [.p, .p, .r, .w] ?_
      refine st rfl rfl (eff_moveM rfl rfl) rfl ?_
      refine st rfl rfl (eff_fieldO rfl fl155_1 rfl) rfl ?_
      refine st_r rfl rfl (eff_loadO rfl ty3 rfl rfl rfl) rfl ?_
      refine st_wn rfl rfl (eff_update (kf := Value.int .i64) (vf := (fun v => G.bool v)) (m := x2) (k := y4.Record) (v := true) (ins := false) rfl Tryz.underlying220 Tryz.underlying3 rfl rfl rfl rfl) ?_
      refine st_nil ?_
      refine aw_region [.p, .p] ?_
      refine st rfl rfl (eff_add rfl rfl rfl (by unfold I64; omega)) rfl ?_
      refine st rfl rfl (eff_moveg rfl rfl) rfl ?_
      refine st_nil ?_
      exact ⟨rfl, (k3 + 1, t5, mset x2 y4.Record true), ⟨rfl, rfl, rfl, rfl, rfl, rfl, rfl, rfl, trivial⟩, ⟨rfl, trivial⟩, rfl, ⟨hd, hR⟩, by simp⟩
   ·replace h2 : (decide (((k3 : Nat) : Int) < (List.length a3 : Int))) = false := h2
    obtain rfl := drop_nil hd (decF h2)
    rw [s75_l1] at hR
    refine aw_exit ?_
    refine aw_seq ?_
    refine aw_region [.p] ?_
    refine st rfl rfl (eff_assigng rfl rfl) rfl ?_
    refine st_nil ?_
    refine aw_ret ?_
    obtain rfl := Option.some.inj hR
    exact res_c rfl (rv_g rfl)

end Go.Sim

set_option linter.unusedSimpArgs false
set_option linter.unusedVariables false
set_option maxRecDepth 10000
namespace Go.Sim
open Go.Proofs


/-- use.Covered -/
def s77_j1 (rec5 : Nat → (List Int) → Option (S139 × Int)) (k28 : Nat) (x31 : List Int) : Option (S139 × Int) :=
 rec5 (k28 + 1) x31
def s77_l5 (x22 : List Int) : List Bool → Nat → (List Int) → Option (S139 × Int)
 | [], k28, x27 => some ((S139.mk x22 x27), 0)
 | y29 :: t30, k28, x27 => (bif y29 then s77_j1 (fun k_ z0_ => s77_l5 x22 t30 k_ z0_) k28 (x27 ++ [((k28 : Nat) : Int)]) else s77_j1 (fun k_ z0_ => s77_l5 x22 t30 k_ z0_) k28 x27)
def s77_j2 (rec4 : Nat → (List Int) → Option (S139 × Int)) (k23 : Nat) (x32 : List Int) : Option (S139 × Int) :=
 rec4 (k23 + 1) x32
def s77_l4 (x16 : List Bool) : List Bool → Nat → (List Int) → Option (S139 × Int)
 | [], k23, x22 => s77_l5 x22 x16 0 ([] : List Int)
 | y24 :: t25, k23, x22 => (bif !y24 then s77_j2 (fun k_ z0_ => s77_l4 x16 t25 k_ z0_) k23 (x22 ++ [((k23 : Nat) : Int)]) else s77_j2 (fun k_ z0_ => s77_l4 x16 t25 k_ z0_) k23 x22)
def s77_j3 (rec6 : Nat → (List Int) → (List Bool) → (List Bool) → Option (S139 × Int)) (k40 : Nat) (x43 : List Int) (x44 : List Bool) (x46 : List Bool) : Option (S139 × Int) :=
 rec6 (k40 + 1) x43 x44 x46
def s77_l6 (rec3 : (List Int) → (List Bool) → (List Bool) → Option (S139 × Int)) (a0 : S23) (a1 : List S151) (x4 : List (Int × Int)) (y33 : Int) : List S151 → Nat → (List Int) → (List Bool) → (List Bool) → Option (S139 × Int)
 | [], k40, x34, x36, x38 => rec3 x34 x36 x38
 | y41 :: t42, k40, x34, x36, x38 => bindO (ixO x36 ((k40 : Nat) : Int)) fun y48 => bindO (bif !y48 then ixO a1 y33 else some default) fun y49 => (bif y48 || (!(s142 a0 y49 y41)) then s77_j3 (fun k_ z0_ z1_ z2_ => s77_l6 rec3 a0 a1 x4 y33 t42 k_ z0_ z1_ z2_) k40 x34 x36 x38 else bindO (ixO x36 ((k40 : Nat) : Int)) fun y50 => bindO (bif mhas x4 ((k40 : Nat) : Int) then ixO x38 (mgetD x4 ((k40 : Nat) : Int) 0) else some default) fun y51 => (bif (mhas x4 ((k40 : Nat) : Int)) && (!y51) then bindO (ixO x38 (mgetD x4 ((k40 : Nat) : Int) 0)) fun y52 => s77_j3 (fun k_ z0_ z1_ z2_ => s77_l6 rec3 a0 a1 x4 y33 t42 k_ z0_ z1_ z2_) k40 (x34 ++ [(mgetD x4 ((k40 : Nat) : Int) 0)]) (List.set x36 (Int.toNat ((k40 : Nat) : Int)) true) (List.set x38 (Int.toNat (mgetD x4 ((k40 : Nat) : Int) 0)) true) else s77_j3 (fun k_ z0_ z1_ z2_ => s77_l6 rec3 a0 a1 x4 y33 t42 k_ z0_ z1_ z2_) k40 x34 (List.set x36 (Int.toNat ((k40 : Nat) : Int)) true) x38))
def s77_l3 (a0 : S23) (a1 : List S151) (a2 : List S151) (x4 : List (Int × Int)) : Nat → (List Int) → (List Bool) → (List Bool) → Option (S139 × Int)
 | 0, _, _, _ => none
 | k20 + 1, x15, x16, x18 => (bif decide ((List.length x15 : Int) = 0) then s77_l4 x16 x18 0 ([] : List Int) else bindO (ixO x15 0) fun y33 => s77_l6 (fun z0_ z1_ z2_ => s77_l3 a0 a1 a2 x4 k20 z0_ z1_ z2_) a0 a1 x4 y33 a2 0 (List.drop 1 x15) x16 x18)
def s77_j4 (rec2 : Nat → (List Int) → (List Bool) → Option (S139 × Int)) (k12 : Nat) (x53 : List Int) (x54 : List Bool) : Option (S139 × Int) :=
 rec2 (k12 + 1) x53 x54
def s77_l2 (a0 : S23) (a1 : List S151) (a2 : List S151) (x3 : List (Int × Bool)) (x4 : List (Int × Int)) : List S151 → Nat → (List Int) → (List Bool) → Option (S139 × Int)
 | [], k12, x8, x10 => s77_l3 a0 a1 a2 x4 ((a1.length) + 1) x8 (List.replicate (List.length a2) false) x10
 | y13 :: t14, k12, x8, x10 => (bif !(mgetD x3 ((k12 : Nat) : Int) false) then bindO (ixO x10 ((k12 : Nat) : Int)) fun y56 => s77_j4 (fun k_ z0_ z1_ => s77_l2 a0 a1 a2 x3 x4 t14 k_ z0_ z1_) k12 (x8 ++ [((k12 : Nat) : Int)]) (List.set x10 (Int.toNat ((k12 : Nat) : Int)) true) else s77_j4 (fun k_ z0_ z1_ => s77_l2 a0 a1 a2 x3 x4 t14 k_ z0_ z1_) k12 x8 x10)
def s77_l1 (a0 : S23) (a1 : List S151) (a2 : List S151) : List S154 → Nat → (List (Int × Bool)) → (List (Int × Int)) → Option (S139 × Int)
 | [], k5, x3, x4 => s77_l2 a0 a1 a2 x3 x4 a1 0 [] (List.replicate (List.length a1) false)
 | y6 :: t7, k5, x3, x4 => s77_l1 a0 a1 a2 t7 (k5 + 1) (mset x3 y6.Slot true) (mset x4 y6.Record y6.Slot)
def s77 (a0 : S23) (a1 : List S151) (a2 : List S151) : Option (S139 × Int) :=
 (bif decide ((s113 a0 a1 a2) ≠ 0) then some ((S139.mk [] []), (s113 a0 a1 a2)) else bindO (s115 a0 a1 a2) fun r1 => s77_l1 a0 a1 a2 r1 0 [] [])
set_option maxHeartbeats 2000000 in
theorem c77 {g : List (Nat × List Value)} (a0 : S23) (a1 : List S151) (a2 : List S151) {R : S139 × Int}  (hb : ¬ s113 a0 a1 a2 ≠ 0 → a1.length ≤ 12 ∧ a2.length ≤ 12) (hR : s77 a0 a1 a2 = some R) : Con (EG g) 77 [G.agg [G.int a0.Before, G.int a0.After, G.int a0.Notice, G.int a0.Share, G.sl 1 (List.map cStr a0.Causes), G.int a0.Off, G.int a0.Run], G.sl 3 (List.map S151.c a1), G.sl 3 (List.map S151.c a2)] (G.tup [G.agg [G.sl 1 (List.map cInt R.1.Slots), G.sl 1 (List.map cInt R.1.Records)], G.int R.2]) := by
 unfold s77 at hR
 refine con_of_aw Tryz.func77 rfl rfl fun w0 M0 => ?_
 refine len_sl (f := S151.c) (l := a1) 1 rfl fun hla1 => ?_
 refine len_sl (f := S151.c) (l := a2) 2 rfl fun hla2 => ?_
 refine aw_seq ?_
 refine aw_region [.p, .w, .p] ?_
 refine st rfl rfl (eff_box rfl rfl) rfl ?_
 refine st_w rfl rfl (eff_alloc 6 rfl z140 rfl rfl) rfl ?_
 refine st rfl rfl (eff_assigng rfl rfl) rfl ?_
 refine st_nil ?_
 refine aw_scope ?_
 refine aw_seq ?_
 refine aw_seq ?_
 refine aw_region [.p, .p, .p, .p, .p] ?_
 refine st rfl rfl (eff_loadA rfl ty24 rfl rfl rfl) rfl ?_
 refine st rfl rfl (eff_moveg rfl rfl) rfl ?_
 refine st rfl rfl (eff_moveg rfl rfl) rfl ?_
 refine st rfl rfl (eff_call rfl K113 rfl (c113 a0 a1 a2) (ag_cons rfl (ag_cons rfl (ag_cons rfl ag_nil)))) rfl ?_
 refine st rfl rfl (eff_assigng rfl rfl) rfl ?_
 refine st_nil ?_
 refine aw_seq ?_
 refine aw_region [.p, .p] ?_
 refine st rfl rfl (eff_moveg rfl rfl) rfl ?_
 refine st rfl rfl (eff_neq rfl rfl rfl) rfl ?_
 refine st_nil ?_
 refine aw_cond _ rfl (fun h1 => ?_) (fun h1 => ?_)
 ·replace h1 : (decide ((s113 a0 a1 a2) ≠ 0)) = true := h1
  replace hR := condT hR h1
  try simp only [decide_eq_true_eq] at h1
  refine aw_seq ?_
  refine aw_region [.p, .p, .w, .p] ?_
  refine st rfl rfl (eff_build rfl z140 rfl pl140 pb_nil rfl) rfl ?_
  refine st rfl rfl (eff_moveg rfl rfl) rfl ?_
  refine st_wn rfl rfl (eff_store (tv := .g (G.agg [G.lit (.slice none 0 0), G.lit (.slice none 0 0)])) rfl ty140 rfl rfl rfl rfl rfl) ?_
  refine st rfl rfl (eff_assigng rfl rfl) rfl ?_
  refine st_nil ?_
  refine aw_ret ?_
  obtain rfl := Option.some.inj hR
  exact resN rfl ⟨rv_sub (rv_cell rfl rfl ty140 rfl rfl) (agg_sub ⟨nil_imp _, nil_imp _, trivial⟩), rv_g rfl, trivial⟩ (by simp)
 ·replace h1 : (decide ((s113 a0 a1 a2) ≠ 0)) = false := h1
  replace hR := condF hR h1
  try simp only [decide_eq_false_iff_not] at h1
  obtain ⟨hb1, hb2⟩ := hb h1
  refine aw_skip ?_
  refine aw_seq ?_
  refine aw_region [.w, .w, .p, .p] ?_
  refine st_w rfl rfl (eff_makeMap 35 rfl rfl) rfl ?_
  refine st_w rfl rfl (eff_makeMap 36 rfl rfl) rfl ?_
  refine st rfl rfl (eff_assignM rfl rfl) rfl ?_
  refine st rfl rfl (eff_assignM rfl rfl) rfl ?_
  refine st_nil ?_
  refine aw_seq ?_
  refine aw_seq ?_
  obtain ⟨r1, br1, hR⟩ := bindO_inv hR
  have hlm := len115 br1
  refine aw_region [.p, .p, .p, .p, .p, .p] ?_
  refine st rfl rfl (eff_loadA rfl ty24 rfl rfl rfl) rfl ?_
  refine st rfl rfl (eff_moveg rfl rfl) rfl ?_
  refine st rfl rfl (eff_moveg rfl rfl) rfl ?_
  refine st rfl rfl (eff_call rfl K115 rfl (c115 a0 a1 a2 (by first | assumption | omega | (simp [copyL_len]; omega)) (by first | assumption | omega | (simp [copyL_len]; omega)) br1) (ag_cons rfl (ag_cons rfl (ag_cons rfl ag_nil)))) rfl ?_
  refine st rfl rfl (eff_lenM (f := S154.c) (l := r1) rfl Tryz.underlying79 rfl) rfl ?_
  refine st rfl rfl (eff_moveg rfl rfl) rfl ?_
  refine st_nil ?_
  refine aw_block ?_
  refine aw_loop_g (γ := Nat × (List S154) × (List (Int × Bool)) × (List (Int × Int))) (fun g => ([(1, .g (G.sl 3 (List.map S151.c a1))), (2, .g (G.sl 3 (List.map S151.c a2))), (3, .g (G.ref [G.int a0.Before, G.int a0.After, G.int a0.Notice, G.int a0.Share, G.sl 1 (List.map cStr a0.Causes), G.int a0.Off, G.int a0.Run])), (6, .ptr 6 0), (9, .omap 35), (10, .omap 36), (40, .g (G.sl 2 (List.map S154.c r1))), (41, .g (G.int (List.length r1 : Int))), (42, .g (G.int ((g.1 : Nat) : Int)))], [(6, .box [.g (G.lit (.slice none 0 0)), .g (G.lit (.slice none 0 0))]), (35, mpB (K := Int) (V := Int) (Value.int .i64) (fun v => G.int v) g.2.2.2), (36, mpB (K := Int) (V := Bool) (Value.int .i64) (fun v => G.bool v) g.2.2.1)])) (fun g => r1.drop g.1 = g.2.1 ∧ s77_l1 a0 a1 a2 g.2.1 g.1 g.2.2.1 g.2.2.2 = some R) (fun g => List.length g.2.1) ⟨rfl, (0, r1, [], []), ⟨rfl, rfl, rfl, rfl, rfl, rfl, rfl, rfl, rfl, trivial⟩, ⟨rfl, rfl, rfl, trivial⟩, rfl, ⟨rfl, hR⟩, trivial⟩ ?_
  ·rintro ⟨k5, t7, x3, x4⟩ ⟨hd, hR⟩
   replace hd : r1.drop k5 = t7 := hd
   replace hR : s77_l1 a0 a1 a2 t7 k5 x3 x4 = some R := hR
   refine aw_seq ?_
   refine aw_region [.p] ?_
   refine st rfl rfl (eff_lss rfl rfl rfl) rfl ?_
   refine st_nil ?_
   refine len_sl (f := S154.c) (l := r1) 40 rfl fun hlz1 => ?_
   refine aw_seq ?_
   refine aw_cond _ rfl (fun h2 => ?_) (fun h2 => ?_)
   ·replace h2 : (decide (((k5 : Nat) : Int) < (List.length r1 : Int))) = true := h2
    obtain ⟨y6, t7, rfl, hx1, hd⟩ := drop_cons hd (decT h2)
    replace h2 := decT h2
    rw [s77_l1] at hR
    try dsimp only at hR
    refine aw_skip ?_
    refine aw_seq ?_
    refine aw_block ?_
    refine aw_seq ?_
    refine aw_region [.p, .p, .w, .w] ?_
    refine st rfl rfl (eff_ix (f := S154.c) (l := r1) (a := y6) rfl Tryz.underlying79 ty155 rfl rfl (Int.natCast_nonneg _) hx1) rfl ?_
    refine st rfl rfl (eff_loadA rfl ty155 rfl rfl rfl) rfl ?_
    refine st_w rfl rfl (eff_alloc 12 rfl z155 rfl rfl) rfl ?_
    refine st_wn rfl rfl (eff_store (tv := .g (G.agg [G.int y6.Slot, G.int y6.Record])) rfl ty155 rfl rfl rfl rfl rfl) ?_
    refine st_nil ?_
    refine aw_draw [.p, .p, .rq 12, .p, .p, .rq 12, .p, .rq 12, .wq 35, .wq 36] (by kernel_rfl) ?_
    refine st rfl rfl (eff_moveM rfl rfl) rfl ?_
    refine st rfl rfl (eff_fieldO rfl fl155_1 rfl) rfl ?_
    refine st_rq (i := 12) rfl rfl rfl (fun m_ hm_ => eff_loadO rfl ty3 rfl hm_ rfl) rfl ?_
    refine st rfl rfl (eff_moveM rfl rfl) rfl ?_
    refine st rfl rfl (eff_fieldO rfl fl155_0 rfl) rfl ?_
    refine st_rq (i := 12) rfl rfl rfl (fun m_ hm_ => eff_loadO rfl ty3 rfl hm_ rfl) rfl ?_
    refine st rfl rfl (eff_fieldO rfl fl155_0 rfl) rfl ?_
    refine st_rq (i := 12) rfl rfl rfl (fun m_ hm_ => eff_loadO rfl ty3 rfl hm_ rfl) rfl ?_
    refine st_wqn (i := 35) rfl rfl (fun m_ hm_ => eff_update (kf := Value.int .i64) (vf := (fun v => G.int v)) (m := x4) (k := y6.Record) (v := y6.Slot) (ins := false) rfl Tryz.underlying224 Tryz.underlying3 rfl rfl rfl (hm_.trans rfl)) ?_
    refine st_wqn (i := 36) rfl rfl (fun m_ hm_ => eff_update (kf := Value.int .i64) (vf := (fun v => G.bool v)) (m := x3) (k := y6.Slot) (v := true) (ins := false) rfl Tryz.underlying220 Tryz.underlying3 rfl rfl rfl (hm_.trans rfl)) ?_
    refine st_nil ?_
    refine aw_region [.p, .p] ?_
    refine st rfl rfl (eff_add rfl rfl rfl (by unfold I64; omega)) rfl ?_
    refine st rfl rfl (eff_moveg rfl rfl) rfl ?_
    refine st_nil ?_
    exact ⟨rfl, (k5 + 1, t7, mset x3 y6.Slot true, mset x4 y6.Record y6.Slot), ⟨rfl, rfl, rfl, rfl, rfl, rfl, rfl, rfl, rfl, trivial⟩, ⟨rfl, rfl, rfl, trivial⟩, rfl, ⟨hd, hR⟩, by simp⟩
   ·replace h2 : (decide (((k5 : Nat) : Int) < (List.length r1 : Int))) = false := h2
    obtain rfl := drop_nil hd (decF h2)
    rw [s77_l1] at hR
    refine aw_exit ?_
    refine aw_seq ?_
    refine aw_draw [.p, .p, .wq 57, .p, .p, .wq 60, .p, .p] (by kernel_rfl) ?_
    refine st rfl rfl (eff_moveg rfl rfl) rfl ?_
    refine st rfl rfl (eff_lenM (f := S151.c) (l := a1) rfl Tryz.underlying25 rfl) rfl ?_
    refine st_wq (i := 57) rfl rfl (fun m_ hm_ => eff_makeS (f := cBool) (z := false) 57 rfl mk225 rfl rfl rfl (by first | exact Int.le_refl _ | omega) (by first | decide | omega) (hm_.trans rfl) rfl rfl) rfl ?_
    refine st rfl rfl (eff_moveg rfl rfl) rfl ?_
    refine st rfl rfl (eff_lenM (f := S151.c) (l := a2) rfl Tryz.underlying25 rfl) rfl ?_
    refine st_wq (i := 60) rfl rfl (fun m_ hm_ => eff_makeS (f := cBool) (z := false) 60 rfl mk225 rfl rfl rfl (by first | exact Int.le_refl _ | omega) (by first | decide | omega) (hm_.trans rfl) rfl rfl) rfl ?_
    refine st rfl rfl (eff_assignO rfl rfl) rfl ?_
    refine st rfl rfl (eff_assignO rfl rfl) rfl ?_
    refine st_nil ?_
    refine aw_seq ?_
    refine aw_region [.w] ?_
    refine st_w rfl rfl (eff_nilL 15 3 1 rfl rfl rfl) rfl ?_
    refine st_nil ?_
    refine aw_seq ?_
    refine aw_seq ?_
    refine aw_region [.p, .p, .p] ?_
    refine st rfl rfl (eff_moveg rfl rfl) rfl ?_
    refine st rfl rfl (eff_lenM (f := S151.c) (l := a1) rfl Tryz.underlying25 rfl) rfl ?_
    refine st rfl rfl (eff_moveg rfl rfl) rfl ?_
    refine st_nil ?_
    refine aw_block ?_
    refine aw_loop_g (γ := Nat × (List S151) × (List Int) × (List Bool)) (fun g => ([(1, .g (G.sl 3 (List.map S151.c a1))), (2, .g (G.sl 3 (List.map S151.c a2))), (3, .g (G.ref [G.int a0.Before, G.int a0.After, G.int a0.Notice, G.int a0.Share, G.sl 1 (List.map cStr a0.Causes), G.int a0.Off, G.int a0.Run])), (6, .ptr 6 0), (9, .omap 35), (10, .omap 36), (13, .osl 57 1 0 (List.length a1)), (14, .osl 60 1 0 (List.length a2)), (15, .osl 15 1 0 (List.length g.2.2.1)), (62, .g (G.int (List.length a1 : Int))), (63, .g (G.int ((g.1 : Nat) : Int)))], [(6, .box [.g (G.lit (.slice none 0 0)), .g (G.lit (.slice none 0 0))]), (15, .arr 3 1 (List.map cInt g.2.2.1)), (35, mpB (K := Int) (V := Int) (Value.int .i64) (fun v => G.int v) x4), (36, mpB (K := Int) (V := Bool) (Value.int .i64) (fun v => G.bool v) x3), (57, .arr 4 1 (List.map cBool g.2.2.2)), (60, .arr 4 1 (List.map cBool (List.replicate (List.length a2) false)))])) (fun g => g.1 ≤ a1.length ∧ g.2.2.1.length ≤ g.1 ∧ List.length g.2.2.2 = List.length a1 ∧ a1.drop g.1 = g.2.1 ∧ s77_l2 a0 a1 a2 x3 x4 g.2.1 g.1 g.2.2.1 g.2.2.2 = some R) (fun g => List.length g.2.1) ⟨rfl, (0, a1, [], List.replicate (List.length a1) false), ⟨rfl, rfl, rfl, rfl, rfl, rfl, rfl, rfl, rfl, rfl, rfl, trivial⟩, ⟨rfl, rfl, rfl, rfl, rfl, rfl, trivial⟩, rfl, ⟨(by first | (simp; done) | (simp; omega)), (by first | (simp; done) | (simp; omega)), List.length_replicate, rfl, hR⟩, trivial⟩ ?_
    ·rintro ⟨k12, t14, x8, x10⟩ ⟨iv2_0, iv2_1, ln11, hd, hR⟩
     replace hd : a1.drop k12 = t14 := hd
     replace hR : s77_l2 a0 a1 a2 x3 x4 t14 k12 x8 x10 = some R := hR
     replace iv2_0 : k12 ≤ a1.length := iv2_0
     replace iv2_1 : x8.length ≤ k12 := iv2_1
     replace ln11 : List.length x10 = List.length a1 := ln11
     refine aw_seq ?_
     refine aw_region [.p] ?_
     refine st rfl rfl (eff_lss rfl rfl rfl) rfl ?_
     refine st_nil ?_
     refine len_sl (f := S151.c) (l := a1) 1 rfl fun hlz2 => ?_
     refine aw_seq ?_
     refine aw_cond _ rfl (fun h4 => ?_) (fun h4 => ?_)
     ·replace h4 : (decide (((k12 : Nat) : Int) < (List.length a1 : Int))) = true := h4
      obtain ⟨y13, t14, rfl, hx2, hd⟩ := drop_cons hd (decT h4)
      replace h4 := decT h4
      rw [s77_l2] at hR
      try dsimp only at hR
      refine aw_skip ?_
      refine aw_cut_g (γ := (List Int) × (List Bool)) (fun g => ([(1, .g (G.sl 3 (List.map S151.c a1))), (2, .g (G.sl 3 (List.map S151.c a2))), (3, .g (G.ref [G.int a0.Before, G.int a0.After, G.int a0.Notice, G.int a0.Share, G.sl 1 (List.map cStr a0.Causes), G.int a0.Off, G.int a0.Run])), (6, .ptr 6 0), (9, .omap 35), (10, .omap 36), (13, .osl 57 1 0 (List.length a1)), (14, .osl 60 1 0 (List.length a2)), (15, .osl 15 1 0 (List.length g.1)), (62, .g (G.int (List.length a1 : Int))), (63, .g (G.int ((k12 : Nat) : Int)))], [(6, .box [.g (G.lit (.slice none 0 0)), .g (G.lit (.slice none 0 0))]), (15, .arr 3 1 (List.map cInt g.1)), (35, mpB (K := Int) (V := Int) (Value.int .i64) (fun v => G.int v) x4), (36, mpB (K := Int) (V := Bool) (Value.int .i64) (fun v => G.bool v) x3), (57, .arr 4 1 (List.map cBool g.2)), (60, .arr 4 1 (List.map cBool (List.replicate (List.length a2) false)))])) (fun g => g.1.length ≤ k12 + 1 ∧ List.length g.2 = List.length a1 ∧ s77_j4 (fun k_ z0_ z1_ => s77_l2 a0 a1 a2 x3 x4 t14 k_ z0_ z1_) k12 g.1 g.2 = some R) ?_ ?_
      ·refine aw_block ?_
       refine aw_seq ?_
       refine aw_region [.p, .p] ?_
       refine st rfl rfl (eff_moveg rfl rfl) rfl ?_
       refine st rfl rfl (eff_assigng rfl rfl) rfl ?_
       refine st_nil ?_
       refine aw_seq ?_
       refine aw_region [.p, .p, .r, .p] ?_
       refine st rfl rfl (eff_moveM rfl rfl) rfl ?_
       refine st rfl rfl (eff_moveg rfl rfl) rfl ?_
       refine st_r rfl rfl (eff_lookup (kf := Value.int .i64) (vf := (fun v => G.bool v)) (m := x3) (k := ((k12 : Nat) : Int)) (z := false) rfl Tryz.underlying220 Tryz.underlying3 zr4 (fun _ _ => rfl) rfl rfl rfl) rfl ?_
       refine st rfl rfl (eff_not rfl rfl) rfl ?_
       refine st_nil ?_
       refine aw_cond _ rfl (fun h17 => ?_) (fun h17 => ?_)
       ·replace h17 : (!(mgetD x3 ((k12 : Nat) : Int) false)) = true := h17
        replace hR := condT hR h17
        try simp only [Bool.or_eq_true, Bool.and_eq_true, Bool.or_eq_false_iff, Bool.and_eq_false_iff, Bool.not_eq_true', Bool.not_eq_false', decide_eq_true_eq, decide_eq_false_iff_not] at h17
        refine aw_seq ?_
        obtain ⟨y56, by56, hR⟩ := bindO_inv hR
        refine aw_region [.p, .p, .p, .w] ?_
        refine st rfl rfl (eff_moveO rfl rfl) rfl ?_
        refine st rfl rfl (eff_moveg rfl rfl) rfl ?_
        refine st rfl rfl (eff_ixL rfl Tryz.underlying225 ty4 rfl rfl (ixO_nn by56) (Nat.lt_of_lt_of_eq (get_lt (ixO_get by56)) ln11)) rfl ?_
        refine st_wn rfl rfl (eff_setL (f := cBool) (l := x10) (a' := true) rfl ty4 rfl rfl rfl (Nat.lt_of_lt_of_eq (Nat.lt_of_lt_of_eq (get_lt (ixO_get by56)) ln11) (Eq.symm ln11)) rfl (fun _ => rfl)) ?_
        refine st_nil ?_
        refine aw_region [.p, .p, .p, .k, .p] ?_
        refine st rfl rfl (eff_moveO rfl rfl) rfl ?_
        refine st rfl rfl (eff_moveg rfl rfl) rfl ?_
        refine st rfl rfl (eff_buildSlice rfl Tryz.underlying82 ty3 z3 rfl (ps_cons rfl ps_nil) rfl (by simp []) (by decide)) rfl ?_
        refine st_k rfl rfl (eff_appL (f := cInt) (out := x8) (new := [((k12 : Nat) : Int)]) rfl app82 rfl rfl (src_eq rfl (src_sl (by decide) (by simp []))) (refsM rfl) (by simp; omega)) rfl ?_
        refine st rfl rfl (eff_assignO rfl rfl) rfl ?_
        refine st_nil ?_
        exact ⟨rfl, (x8 ++ [((k12 : Nat) : Int)], List.set x10 (Int.toNat ((k12 : Nat) : Int)) true), ⟨rfl, rfl, rfl, rfl, rfl, rfl, rfl, rfl, rfl, rfl, rfl, trivial⟩, ⟨rfl, rfl, rfl, rfl, rfl, rfl, trivial⟩, rfl, ⟨(by first | omega | (dsimp only; omega) | (simp at *; done) | (simp at *; omega)), ((List.length_set ..).trans ln11), hR⟩, trivial⟩
       ·replace h17 : (!(mgetD x3 ((k12 : Nat) : Int) false)) = false := h17
        replace hR := condF hR h17
        try simp only [Bool.or_eq_true, Bool.and_eq_true, Bool.or_eq_false_iff, Bool.and_eq_false_iff, Bool.not_eq_true', Bool.not_eq_false', decide_eq_true_eq, decide_eq_false_iff_not] at h17
        refine aw_skip ?_
        exact ⟨rfl, (x8, x10), ⟨rfl, rfl, rfl, rfl, rfl, rfl, rfl, rfl, rfl, rfl, rfl, trivial⟩, ⟨rfl, rfl, rfl, rfl, rfl, rfl, trivial⟩, rfl, ⟨(by first | omega | (dsimp only; omega) | (simp at *; done) | (simp at *; omega)), ln11, hR⟩, trivial⟩
      ·rintro ⟨x53, x54⟩ ⟨jv4_0, ln55, hR⟩
       replace jv4_0 : x53.length ≤ k12 + 1 := jv4_0
       replace ln55 : List.length x54 = List.length a1 := ln55
       replace hR : s77_j4 (fun k_ z0_ z1_ => s77_l2 a0 a1 a2 x3 x4 t14 k_ z0_ z1_) k12 x53 x54 = some R := hR
       unfold s77_j4 at hR
       refine aw_region [.p, .p] ?_
       refine st rfl rfl (eff_add rfl rfl rfl (by unfold I64; omega)) rfl ?_
       refine st rfl rfl (eff_moveg rfl rfl) rfl ?_
       refine st_nil ?_
       exact ⟨rfl, (k12 + 1, t14, x53, x54), ⟨rfl, rfl, rfl, rfl, rfl, rfl, rfl, rfl, rfl, rfl, rfl, trivial⟩, ⟨rfl, rfl, rfl, rfl, rfl, rfl, trivial⟩, rfl, ⟨(by first | omega | (dsimp only; omega) | (simp at *; omega)), (by first | omega | (dsimp only; omega) | (simp at *; omega)), ln55, hd, hR⟩, by simp⟩
     ·replace h4 : (decide (((k12 : Nat) : Int) < (List.length a1 : Int))) = false := h4
      obtain rfl := drop_nil hd (decF h4)
      rw [s77_l2] at hR
      refine aw_exit ?_
      refine aw_seq ?_
      refine aw_label ?_
      refine aw_seq ?_
      refine aw_block ?_
      refine aw_loop_g (γ := Nat × (List Int) × (List Bool) × (List Bool)) (fun g => ([(1, .g (G.sl 3 (List.map S151.c a1))), (2, .g (G.sl 3 (List.map S151.c a2))), (3, .g (G.ref [G.int a0.Before, G.int a0.After, G.int a0.Notice, G.int a0.Share, G.sl 1 (List.map cStr a0.Causes), G.int a0.Off, G.int a0.Run])), (6, .ptr 6 0), (9, .omap 35), (13, .osl 57 1 0 (List.length a1)), (14, .osl 60 1 0 (List.length a2)), (15, .osl 15 1 0 (List.length g.2.1))], [(6, .box [.g (G.lit (.slice none 0 0)), .g (G.lit (.slice none 0 0))]), (15, .arr 3 1 (List.map cInt g.2.1)), (35, mpB (K := Int) (V := Int) (Value.int .i64) (fun v => G.int v) x4), (57, .arr 4 1 (List.map cBool g.2.2.2)), (60, .arr 4 1 (List.map cBool g.2.2.1))])) (fun g => g.2.1.length + g.1 * 12 ≤ 168 ∧ List.length g.2.2.1 = List.length a2 ∧ List.length g.2.2.2 = List.length a1 ∧ s77_l3 a0 a1 a2 x4 g.1 g.2.1 g.2.2.1 g.2.2.2 = some R) (fun g => g.1) ⟨rfl, ((a1.length) + 1, x8, List.replicate (List.length a2) false, x10), ⟨rfl, rfl, rfl, rfl, rfl, rfl, rfl, rfl, trivial⟩, ⟨rfl, rfl, rfl, rfl, rfl, trivial⟩, rfl, ⟨(by first | omega | (dsimp only; omega) | simp), List.length_replicate, ln11, hR⟩, trivial⟩ ?_
      ·rintro ⟨k20, x15, x16, x18⟩ ⟨iv3_0, ln17, ln19, hR⟩
       replace hR : s77_l3 a0 a1 a2 x4 k20 x15 x16 x18 = some R := hR
       replace iv3_0 : x15.length + k20 * 12 ≤ 168 := iv3_0
       replace ln17 : List.length x16 = List.length a2 := ln17
       replace ln19 : List.length x18 = List.length a1 := ln19
       obtain ⟨k20, rfl⟩ : ∃ m, k20 = m + 1 := (by cases k20 with | zero => rw [s77_l3] at hR; cases hR | succ m => exact ⟨m, rfl⟩)
       rw [s77_l3] at hR
       try dsimp only at hR
       have hdr := List.length_drop (i := 1) (l := x15)
       refine aw_block ?_
       refine aw_seq ?_
       refine aw_seq ?_
       refine aw_region [.p, .p, .p] ?_
       refine st rfl rfl (eff_moveO rfl rfl) rfl ?_
       refine st rfl rfl (eff_lenO0 rfl Tryz.underlying82 rfl) rfl ?_
       refine st rfl rfl (eff_eql rfl rfl rfl) rfl ?_
       refine st_nil ?_
       refine aw_cond _ rfl (fun h6 => ?_) (fun h6 => ?_)
       ·replace h6 : (decide ((List.length x15 : Int) = 0)) = true := h6
        replace hR := condT hR h6
        try simp only [decide_eq_true_eq] at h6
        refine aw_exit ?_
        refine aw_seq ?_
        refine aw_region [.w] ?_
        refine st_w rfl rfl (eff_alloc 22 rfl z140 rfl rfl) rfl ?_
        refine st_nil ?_
        refine aw_seq ?_
        refine aw_seq ?_
        refine aw_freeze (l := [(6, .ptr 6 0), (13, .g (G.sl 1 (List.map cBool x18))), (14, .osl 60 1 0 (List.length a2)), (22, .ptr 22 0)]) (m := [(6, .box [.g (G.lit (.slice none 0 0)), .g (G.lit (.slice none 0 0))]), (22, .box [.g (G.lit (.slice none 0 0)), .g (G.lit (.slice none 0 0))]), (60, .arr 4 1 (List.map cBool x16))]) 57 rfl ⟨.inl ⟨rfl, rfl⟩, .inr (frz_arr ln19), .inl ⟨rfl, rfl⟩, .inl ⟨rfl, rfl⟩, trivial⟩ ⟨rfl, rfl, rfl, trivial⟩ rfl rfl ?_
        refine aw_nilcell 22 0 2220 1 3 rfl rfl rfl rfl ?_
        refine aw_nilcell 22 1 2221 1 3 rfl rfl rfl rfl ?_
        refine aw_region [.p, .p, .p] ?_
        refine st rfl rfl (eff_moveg rfl rfl) rfl ?_
        refine st rfl rfl (eff_lenM (f := cBool) (l := x18) rfl Tryz.underlying225 rfl) rfl ?_
        refine st rfl rfl (eff_moveg rfl rfl) rfl ?_
        refine st_nil ?_
        refine aw_block ?_
        refine aw_loop_g (γ := Nat × (List Bool) × (List Int)) (fun g => ([(6, .ptr 6 0), (14, .osl 60 1 0 (List.length a2)), (22, .ptr 22 0), (132, .g (G.sl 1 (List.map cBool x18))), (133, .g (G.int (List.length x18 : Int))), (134, .g (G.int ((g.1 : Nat) : Int)))], [(6, .box [.g (G.lit (.slice none 0 0)), .g (G.lit (.slice none 0 0))]), (22, .box [.osl 2220 1 0 (List.length g.2.2), .osl 2221 1 0 (0)]), (60, .arr 4 1 (List.map cBool x16)), (2220, .arr 3 1 (List.map cInt g.2.2)), (2221, .arr 3 1 (List.map cInt ([] : List Int)))])) (fun g => g.2.2.length ≤ g.1 ∧ x18.drop g.1 = g.2.1 ∧ s77_l4 x16 g.2.1 g.1 g.2.2 = some R) (fun g => List.length g.2.1) ⟨rfl, (0, x18, ([] : List Int)), ⟨rfl, rfl, rfl, rfl, rfl, rfl, trivial⟩, ⟨rfl, rfl, rfl, rfl, rfl, trivial⟩, rfl, ⟨(by first | (simp; done) | (simp; omega)), rfl, hR⟩, trivial⟩ ?_
        ·rintro ⟨k23, t25, x22⟩ ⟨iv4_0, hd, hR⟩
         replace hd : x18.drop k23 = t25 := hd
         replace hR : s77_l4 x16 t25 k23 x22 = some R := hR
         replace iv4_0 : x22.length ≤ k23 := iv4_0
         refine aw_seq ?_
         refine aw_region [.p] ?_
         refine st rfl rfl (eff_lss rfl rfl rfl) rfl ?_
         refine st_nil ?_
         refine len_sl (f := cBool) (l := x18) 132 rfl fun hlz4 => ?_
         refine aw_seq ?_
         refine aw_cond _ rfl (fun h7 => ?_) (fun h7 => ?_)
         ·replace h7 : (decide (((k23 : Nat) : Int) < (List.length x18 : Int))) = true := h7
          obtain ⟨y24, t25, rfl, hx4, hd⟩ := drop_cons hd (decT h7)
          replace h7 := decT h7
          rw [s77_l4] at hR
          try dsimp only at hR
          refine aw_skip ?_
          refine aw_cut_g (γ := (List Int)) (fun g => ([(6, .ptr 6 0), (14, .osl 60 1 0 (List.length a2)), (22, .ptr 22 0), (132, .g (G.sl 1 (List.map cBool x18))), (133, .g (G.int (List.length x18 : Int))), (134, .g (G.int ((k23 : Nat) : Int)))], [(6, .box [.g (G.lit (.slice none 0 0)), .g (G.lit (.slice none 0 0))]), (22, .box [.osl 2220 1 0 (List.length g), .osl 2221 1 0 (0)]), (60, .arr 4 1 (List.map cBool x16)), (2220, .arr 3 1 (List.map cInt g)), (2221, .arr 3 1 (List.map cInt ([] : List Int)))])) (fun g => g.length ≤ k23 + 1 ∧ s77_j2 (fun k_ z0_ => s77_l4 x16 t25 k_ z0_) k23 g = some R) ?_ ?_
          ·refine aw_block ?_
           refine aw_seq ?_
           refine aw_region [.p, .p, .p, .p, .p] ?_
           refine st rfl rfl (eff_moveg rfl rfl) rfl ?_
           refine st rfl rfl (eff_ix (f := cBool) (l := x18) (a := y24) rfl Tryz.underlying225 ty4 rfl rfl (Int.natCast_nonneg _) hx4) rfl ?_
           refine st rfl rfl (eff_load rfl ty4 rfl) rfl ?_
           refine st rfl rfl (eff_assigng rfl rfl) rfl ?_
           refine st rfl rfl (eff_assigng rfl rfl) rfl ?_
           refine st_nil ?_
           refine aw_seq ?_
           refine aw_region [.p, .p] ?_
           refine st rfl rfl (eff_moveg rfl rfl) rfl ?_
           refine st rfl rfl (eff_not rfl rfl) rfl ?_
           refine st_nil ?_
           refine aw_cond _ rfl (fun h12 => ?_) (fun h12 => ?_)
           ·replace h12 : (!y24) = true := h12
            replace hR := condT hR h12
            try simp only [Bool.or_eq_true, Bool.and_eq_true, Bool.or_eq_false_iff, Bool.and_eq_false_iff, Bool.not_eq_true', Bool.not_eq_false', decide_eq_true_eq, decide_eq_false_iff_not] at h12
            refine aw_region [.p, .w, .p, .p, .k, .p, .w] ?_
            refine st rfl rfl (eff_fieldO rfl fl140_0 rfl) rfl ?_
            refine st_w rfl rfl (eff_take rfl ty82 rfl rfl rfl) rfl ?_
            refine st rfl rfl (eff_moveg rfl rfl) rfl ?_
            refine st rfl rfl (eff_buildSlice rfl Tryz.underlying82 ty3 z3 rfl (ps_cons rfl ps_nil) rfl (by simp []) (by decide)) rfl ?_
            refine st_k rfl rfl (eff_appL (f := cInt) (out := x22) (new := [((k23 : Nat) : Int)]) rfl app82 rfl rfl (src_eq rfl (src_sl (by decide) (by simp []))) (refsM rfl) (by simp; omega)) rfl ?_
            refine st rfl rfl (eff_fieldO rfl fl140_0 rfl) rfl ?_
            refine st_wn rfl rfl (eff_store (tv := .osl 2220 1 0 (List.length (x22 ++ [((k23 : Nat) : Int)]))) rfl ty82 rfl rfl rfl rfl rfl) ?_
            refine st_nil ?_
            exact ⟨rfl, x22 ++ [((k23 : Nat) : Int)], ⟨rfl, rfl, rfl, rfl, rfl, rfl, trivial⟩, ⟨rfl, rfl, rfl, rfl, rfl, trivial⟩, rfl, ⟨(by first | omega | (dsimp only; omega) | (simp at *; done) | (simp at *; omega)), hR⟩, trivial⟩
           ·replace h12 : (!y24) = false := h12
            replace hR := condF hR h12
            try simp only [Bool.or_eq_true, Bool.and_eq_true, Bool.or_eq_false_iff, Bool.and_eq_false_iff, Bool.not_eq_true', Bool.not_eq_false', decide_eq_true_eq, decide_eq_false_iff_not] at h12
            refine aw_skip ?_
            exact ⟨rfl, x22, ⟨rfl, rfl, rfl, rfl, rfl, rfl, trivial⟩, ⟨rfl, rfl, rfl, rfl, rfl, trivial⟩, rfl, ⟨(by first | omega | (dsimp only; omega) | (simp at *; done) | (simp at *; omega)), hR⟩, trivial⟩
          ·rintro x32 ⟨jv2_0, hR⟩
           replace jv2_0 : x32.length ≤ k23 + 1 := jv2_0
           replace hR : s77_j2 (fun k_ z0_ => s77_l4 x16 t25 k_ z0_) k23 x32 = some R := hR
           unfold s77_j2 at hR
           refine aw_region [.p, .p] ?_
           refine st rfl rfl (eff_add rfl rfl rfl (by unfold I64; omega)) rfl ?_
           refine st rfl rfl (eff_moveg rfl rfl) rfl ?_
           refine st_nil ?_
           exact ⟨rfl, (k23 + 1, t25, x32), ⟨rfl, rfl, rfl, rfl, rfl, rfl, trivial⟩, ⟨rfl, rfl, rfl, rfl, rfl, trivial⟩, rfl, ⟨(by first | omega | (dsimp only; omega) | (simp at *; omega)), hd, hR⟩, by simp⟩
         ·replace h7 : (decide (((k23 : Nat) : Int) < (List.length x18 : Int))) = false := h7
          obtain rfl := drop_nil hd (decF h7)
          rw [s77_l4] at hR
          refine aw_exit ?_
          refine aw_seq ?_
          refine aw_seq ?_
          refine aw_freeze (l := [(6, .ptr 6 0), (14, .g (G.sl 1 (List.map cBool x16))), (22, .ptr 22 0)]) (m := [(6, .box [.g (G.lit (.slice none 0 0)), .g (G.lit (.slice none 0 0))]), (22, .box [.osl 2220 1 0 (List.length x22), .osl 2221 1 0 (0)]), (2220, .arr 3 1 (List.map cInt x22)), (2221, .arr 3 1 (List.map cInt ([] : List Int)))]) 60 rfl ⟨.inl ⟨rfl, rfl⟩, .inr (frz_arr ln17), .inl ⟨rfl, rfl⟩, trivial⟩ ⟨rfl, rfl, rfl, rfl, trivial⟩ rfl rfl ?_
          refine aw_region [.p, .p, .p] ?_
          refine st rfl rfl (eff_moveg rfl rfl) rfl ?_
          refine st rfl rfl (eff_lenM (f := cBool) (l := x16) rfl Tryz.underlying225 rfl) rfl ?_
          refine st rfl rfl (eff_moveg rfl rfl) rfl ?_
          refine st_nil ?_
          refine aw_block ?_
          refine aw_loop_g (γ := Nat × (List Bool) × (List Int)) (fun g => ([(6, .ptr 6 0), (22, .ptr 22 0), (148, .g (G.sl 1 (List.map cBool x16))), (149, .g (G.int (List.length x16 : Int))), (150, .g (G.int ((g.1 : Nat) : Int)))], [(6, .box [.g (G.lit (.slice none 0 0)), .g (G.lit (.slice none 0 0))]), (22, .box [.osl 2220 1 0 (List.length x22), .osl 2221 1 0 (List.length g.2.2)]), (2220, .arr 3 1 (List.map cInt x22)), (2221, .arr 3 1 (List.map cInt g.2.2))])) (fun g => g.2.2.length ≤ g.1 ∧ x16.drop g.1 = g.2.1 ∧ s77_l5 x22 g.2.1 g.1 g.2.2 = some R) (fun g => List.length g.2.1) ⟨rfl, (0, x16, ([] : List Int)), ⟨rfl, rfl, rfl, rfl, rfl, trivial⟩, ⟨rfl, rfl, rfl, rfl, trivial⟩, rfl, ⟨(by first | (simp; done) | (simp; omega)), rfl, hR⟩, trivial⟩ ?_
          ·rintro ⟨k28, t30, x27⟩ ⟨iv5_0, hd, hR⟩
           replace hd : x16.drop k28 = t30 := hd
           replace hR : s77_l5 x22 t30 k28 x27 = some R := hR
           replace iv5_0 : x27.length ≤ k28 := iv5_0
           refine aw_seq ?_
           refine aw_region [.p] ?_
           refine st rfl rfl (eff_lss rfl rfl rfl) rfl ?_
           refine st_nil ?_
           refine len_sl (f := cBool) (l := x16) 148 rfl fun hlz5 => ?_
           refine aw_seq ?_
           refine aw_cond _ rfl (fun h9 => ?_) (fun h9 => ?_)
           ·replace h9 : (decide (((k28 : Nat) : Int) < (List.length x16 : Int))) = true := h9
            obtain ⟨y29, t30, rfl, hx5, hd⟩ := drop_cons hd (decT h9)
            replace h9 := decT h9
            rw [s77_l5] at hR
            try dsimp only at hR
            refine aw_skip ?_
            refine aw_cut_g (γ := (List Int)) (fun g => ([(6, .ptr 6 0), (22, .ptr 22 0), (148, .g (G.sl 1 (List.map cBool x16))), (149, .g (G.int (List.length x16 : Int))), (150, .g (G.int ((k28 : Nat) : Int)))], [(6, .box [.g (G.lit (.slice none 0 0)), .g (G.lit (.slice none 0 0))]), (22, .box [.osl 2220 1 0 (List.length x22), .osl 2221 1 0 (List.length g)]), (2220, .arr 3 1 (List.map cInt x22)), (2221, .arr 3 1 (List.map cInt g))])) (fun g => g.length ≤ k28 + 1 ∧ s77_j1 (fun k_ z0_ => s77_l5 x22 t30 k_ z0_) k28 g = some R) ?_ ?_
            ·refine aw_block ?_
             refine aw_seq ?_
             refine aw_region [.p, .p, .p, .p, .p] ?_
             refine st rfl rfl (eff_moveg rfl rfl) rfl ?_
             refine st rfl rfl (eff_ix (f := cBool) (l := x16) (a := y29) rfl Tryz.underlying225 ty4 rfl rfl (Int.natCast_nonneg _) hx5) rfl ?_
             refine st rfl rfl (eff_load rfl ty4 rfl) rfl ?_
             refine st rfl rfl (eff_assigng rfl rfl) rfl ?_
             refine st rfl rfl (eff_assigng rfl rfl) rfl ?_
             refine st_nil ?_
             refine aw_seq ?_
             refine aw_region [.p] ?_
             refine st rfl rfl (eff_moveg rfl rfl) rfl ?_
             refine st_nil ?_
             refine aw_cond _ rfl (fun h11 => ?_) (fun h11 => ?_)
             ·replace h11 : (y29) = true := h11
              replace hR := condT hR h11
              try simp only [Bool.or_eq_true, Bool.and_eq_true, Bool.or_eq_false_iff, Bool.and_eq_false_iff, Bool.not_eq_true', Bool.not_eq_false', decide_eq_true_eq, decide_eq_false_iff_not] at h11
              refine aw_region [.p, .w, .p, .p, .k, .p, .w] ?_
              refine st rfl rfl (eff_fieldO rfl fl140_1 rfl) rfl ?_
              refine st_w rfl rfl (eff_take rfl ty82 rfl rfl rfl) rfl ?_
              refine st rfl rfl (eff_moveg rfl rfl) rfl ?_
              refine st rfl rfl (eff_buildSlice rfl Tryz.underlying82 ty3 z3 rfl (ps_cons rfl ps_nil) rfl (by simp []) (by decide)) rfl ?_
              refine st_k rfl rfl (eff_appL (f := cInt) (out := x27) (new := [((k28 : Nat) : Int)]) rfl app82 rfl rfl (src_eq rfl (src_sl (by decide) (by simp []))) (refsM rfl) (by simp; omega)) rfl ?_
              refine st rfl rfl (eff_fieldO rfl fl140_1 rfl) rfl ?_
              refine st_wn rfl rfl (eff_store (tv := .osl 2221 1 0 (List.length (x27 ++ [((k28 : Nat) : Int)]))) rfl ty82 rfl rfl rfl rfl rfl) ?_
              refine st_nil ?_
              exact ⟨rfl, x27 ++ [((k28 : Nat) : Int)], ⟨rfl, rfl, rfl, rfl, rfl, trivial⟩, ⟨rfl, rfl, rfl, rfl, trivial⟩, rfl, ⟨(by first | omega | (dsimp only; omega) | (simp at *; done) | (simp at *; omega)), hR⟩, trivial⟩
             ·replace h11 : (y29) = false := h11
              replace hR := condF hR h11
              try simp only [Bool.or_eq_true, Bool.and_eq_true, Bool.or_eq_false_iff, Bool.and_eq_false_iff, Bool.not_eq_true', Bool.not_eq_false', decide_eq_true_eq, decide_eq_false_iff_not] at h11
              refine aw_skip ?_
              exact ⟨rfl, x27, ⟨rfl, rfl, rfl, rfl, rfl, trivial⟩, ⟨rfl, rfl, rfl, rfl, trivial⟩, rfl, ⟨(by first | omega | (dsimp only; omega) | (simp at *; done) | (simp at *; omega)), hR⟩, trivial⟩
            ·rintro x31 ⟨jv1_0, hR⟩
             replace jv1_0 : x31.length ≤ k28 + 1 := jv1_0
             replace hR : s77_j1 (fun k_ z0_ => s77_l5 x22 t30 k_ z0_) k28 x31 = some R := hR
             unfold s77_j1 at hR
             refine aw_region [.p, .p] ?_
             refine st rfl rfl (eff_add rfl rfl rfl (by unfold I64; omega)) rfl ?_
             refine st rfl rfl (eff_moveg rfl rfl) rfl ?_
             refine st_nil ?_
             exact ⟨rfl, (k28 + 1, t30, x31), ⟨rfl, rfl, rfl, rfl, rfl, trivial⟩, ⟨rfl, rfl, rfl, rfl, trivial⟩, rfl, ⟨(by first | omega | (dsimp only; omega) | (simp at *; omega)), hd, hR⟩, by simp⟩
           ·replace h9 : (decide (((k28 : Nat) : Int) < (List.length x16 : Int))) = false := h9
            obtain rfl := drop_nil hd (decF h9)
            rw [s77_l5] at hR
            refine aw_exit ?_
            refine aw_seq ?_
            refine aw_frzcell (l := [(6, .ptr 6 0), (22, .ptr 22 0)]) (m := [(6, .box [.g (G.lit (.slice none 0 0)), .g (G.lit (.slice none 0 0))]), (22, .box [.g (G.sl 1 (List.map cInt x22)), .osl 2221 1 0 (List.length x27)]), (2221, .arr 3 1 (List.map cInt x27))]) 22 0 2220 1 _ rfl rfl rfl ((List.length_map ..).trans rfl) ⟨rfl, rfl, trivial⟩ ⟨rfl, rfl, rfl, trivial⟩ rfl rfl ?_
            refine aw_frzcell (l := [(6, .ptr 6 0), (22, .ptr 22 0)]) (m := [(6, .box [.g (G.lit (.slice none 0 0)), .g (G.lit (.slice none 0 0))]), (22, .box [.g (G.sl 1 (List.map cInt x22)), .g (G.sl 1 (List.map cInt x27))])]) 22 1 2221 1 _ rfl rfl rfl ((List.length_map ..).trans rfl) ⟨rfl, rfl, trivial⟩ ⟨rfl, rfl, trivial⟩ rfl rfl ?_
            refine aw_region [.r, .w, .p] ?_
            refine st_r rfl rfl (eff_loadOA rfl ty140 rfl rfl rfl rfl) rfl ?_
            refine st_wn rfl rfl (eff_store (tv := .g (G.agg [G.sl 1 (List.map cInt x22), G.sl 1 (List.map cInt x27)])) rfl ty140 rfl rfl rfl rfl rfl) ?_
            refine st rfl rfl (eff_assigng rfl rfl) rfl ?_
            refine st_nil ?_
            refine aw_ret ?_
            obtain rfl := Option.some.inj hR
            exact resN rfl ⟨rv_cell rfl rfl ty140 rfl rfl, rv_g rfl, trivial⟩ (by simp)
       ·replace h6 : (decide ((List.length x15 : Int) = 0)) = false := h6
        replace hR := condF hR h6
        try simp only [decide_eq_false_iff_not] at h6
        refine aw_skip ?_
        refine aw_seq ?_
        obtain ⟨y33, by33, hR⟩ := bindO_inv hR
        refine aw_region [.p, .p, .r, .p] ?_
        refine st rfl rfl (eff_moveO rfl rfl) rfl ?_
        refine st rfl rfl (eff_ixL rfl Tryz.underlying82 ty3 rfl rfl (ixO_nn by33) (Nat.lt_of_lt_of_eq (get_lt (ixO_get by33)) rfl)) rfl ?_
        refine st_r rfl rfl (eff_ldE (f := cInt) (l := x15) (a := y33) rfl ty3 rfl rfl (ixO_get by33) rfl) rfl ?_
        refine st rfl rfl (eff_assigng rfl rfl) rfl ?_
        refine st_nil ?_
        refine aw_seq ?_
        refine aw_region [.p, .k, .p] ?_
        refine st rfl rfl (eff_moveO rfl rfl) rfl ?_
        refine st_k rfl rfl (eff_tail (f := cInt) (l := x15) (N := List.length x15) rfl Tryz.underlying82 ty3 rfl rfl rfl rfl (by omega) (refsM rfl)) rfl ?_
        refine st rfl rfl (eff_assignO rfl rfl) rfl ?_
        refine st_nil ?_
        refine aw_seq ?_
        refine aw_region [.p, .p, .p] ?_
        refine st rfl rfl (eff_moveg rfl rfl) rfl ?_
        refine st rfl rfl (eff_lenM (f := S151.c) (l := a2) rfl Tryz.underlying25 rfl) rfl ?_
        refine st rfl rfl (eff_moveg rfl rfl) rfl ?_
        refine st_nil ?_
        refine aw_block ?_
        refine aw_loop_g (γ := Nat × (List S151) × (List Int) × (List Bool) × (List Bool)) (fun g => ([(1, .g (G.sl 3 (List.map S151.c a1))), (2, .g (G.sl 3 (List.map S151.c a2))), (3, .g (G.ref [G.int a0.Before, G.int a0.After, G.int a0.Notice, G.int a0.Share, G.sl 1 (List.map cStr a0.Causes), G.int a0.Off, G.int a0.Run])), (6, .ptr 6 0), (9, .omap 35), (13, .osl 57 1 0 (List.length a1)), (14, .osl 60 1 0 (List.length a2)), (15, .osl 15 1 0 (List.length g.2.2.1)), (17, .g (G.int y33)), (86, .g (G.sl 3 (List.map S151.c a2))), (87, .g (G.int (List.length a2 : Int))), (88, .g (G.int ((g.1 : Nat) : Int)))], [(6, .box [.g (G.lit (.slice none 0 0)), .g (G.lit (.slice none 0 0))]), (15, .arr 3 1 (List.map cInt g.2.2.1)), (35, mpB (K := Int) (V := Int) (Value.int .i64) (fun v => G.int v) x4), (57, .arr 4 1 (List.map cBool g.2.2.2.2)), (60, .arr 4 1 (List.map cBool g.2.2.2.1))])) (fun g => g.2.2.1.length ≤ (List.drop 1 x15).length + g.1 ∧ g.1 ≤ a2.length ∧ List.length g.2.2.2.1 = List.length a2 ∧ List.length g.2.2.2.2 = List.length a1 ∧ a2.drop g.1 = g.2.1 ∧ s77_l6 (fun z0_ z1_ z2_ => s77_l3 a0 a1 a2 x4 k20 z0_ z1_ z2_) a0 a1 x4 y33 g.2.1 g.1 g.2.2.1 g.2.2.2.1 g.2.2.2.2 = some R) (fun g => List.length g.2.1) ⟨rfl, (0, a2, List.drop 1 x15, x16, x18), ⟨rfl, rfl, rfl, rfl, rfl, rfl, rfl, rfl, rfl, rfl, rfl, rfl, trivial⟩, ⟨rfl, rfl, rfl, rfl, rfl, trivial⟩, rfl, ⟨(by first | (simp; done) | (simp; omega)), (by first | (simp; done) | (simp; omega)), ln17, ln19, rfl, hR⟩, trivial⟩ ?_
        ·rintro ⟨k40, t42, x34, x36, x38⟩ ⟨iv6_0, iv6_1, ln37, ln39, hd, hR⟩
         replace hd : a2.drop k40 = t42 := hd
         replace hR : s77_l6 (fun z0_ z1_ z2_ => s77_l3 a0 a1 a2 x4 k20 z0_ z1_ z2_) a0 a1 x4 y33 t42 k40 x34 x36 x38 = some R := hR
         replace iv6_0 : x34.length ≤ (List.drop 1 x15).length + k40 := iv6_0
         replace iv6_1 : k40 ≤ a2.length := iv6_1
         replace ln37 : List.length x36 = List.length a2 := ln37
         replace ln39 : List.length x38 = List.length a1 := ln39
         refine aw_seq ?_
         refine aw_region [.p] ?_
         refine st rfl rfl (eff_lss rfl rfl rfl) rfl ?_
         refine st_nil ?_
         refine len_sl (f := S151.c) (l := a2) 2 rfl fun hlz6 => ?_
         refine aw_seq ?_
         refine aw_cond _ rfl (fun h13 => ?_) (fun h13 => ?_)
         ·replace h13 : (decide (((k40 : Nat) : Int) < (List.length a2 : Int))) = true := h13
          obtain ⟨y41, t42, rfl, hx6, hd⟩ := drop_cons hd (decT h13)
          replace h13 := decT h13
          rw [s77_l6] at hR
          try dsimp only at hR
          refine aw_skip ?_
          refine aw_cut_g (γ := (List Int) × (List Bool) × (List Bool)) (fun g => ([(1, .g (G.sl 3 (List.map S151.c a1))), (2, .g (G.sl 3 (List.map S151.c a2))), (3, .g (G.ref [G.int a0.Before, G.int a0.After, G.int a0.Notice, G.int a0.Share, G.sl 1 (List.map cStr a0.Causes), G.int a0.Off, G.int a0.Run])), (6, .ptr 6 0), (9, .omap 35), (13, .osl 57 1 0 (List.length a1)), (14, .osl 60 1 0 (List.length a2)), (15, .osl 15 1 0 (List.length g.1)), (17, .g (G.int y33)), (86, .g (G.sl 3 (List.map S151.c a2))), (87, .g (G.int (List.length a2 : Int))), (88, .g (G.int ((k40 : Nat) : Int)))], [(6, .box [.g (G.lit (.slice none 0 0)), .g (G.lit (.slice none 0 0))]), (15, .arr 3 1 (List.map cInt g.1)), (35, mpB (K := Int) (V := Int) (Value.int .i64) (fun v => G.int v) x4), (57, .arr 4 1 (List.map cBool g.2.2)), (60, .arr 4 1 (List.map cBool g.2.1))])) (fun g => g.1.length ≤ x34.length + 1 ∧ List.length g.2.1 = List.length a2 ∧ List.length g.2.2 = List.length a1 ∧ s77_j3 (fun k_ z0_ z1_ z2_ => s77_l6 (fun z0_ z1_ z2_ => s77_l3 a0 a1 a2 x4 k20 z0_ z1_ z2_) a0 a1 x4 y33 t42 k_ z0_ z1_ z2_) k40 g.1 g.2.1 g.2.2 = some R) ?_ ?_
          ·refine aw_block ?_
           refine aw_seq ?_
           refine aw_region [.p, .p, .p, .w, .p, .w] ?_
           refine st rfl rfl (eff_moveg rfl rfl) rfl ?_
           refine st rfl rfl (eff_ix (f := S151.c) (l := a2) (a := y41) rfl Tryz.underlying25 ty152 rfl rfl (Int.natCast_nonneg _) hx6) rfl ?_
           refine st rfl rfl (eff_loadA rfl ty152 rfl rfl rfl) rfl ?_
           refine st_w rfl rfl (eff_alloc 19 rfl z152 rfl rfl) rfl ?_
           refine st rfl rfl (eff_assigng rfl rfl) rfl ?_
           refine st_wn rfl rfl (eff_store (tv := .g (G.agg [G.str y41.Name, G.int y41.Moment, G.str y41.Kind])) rfl ty152 rfl rfl rfl rfl rfl) ?_
           refine st_nil ?_
           refine aw_seq ?_
           refine aw_seq ?_
           obtain ⟨y48, by48, hR⟩ := bindO_inv hR
           obtain ⟨y49, by49, hR⟩ := bindO_inv hR
           refine aw_draw [.p, .p, .p, .r, .p, .p, .p, .p, .p, .p, .r, .p, .p, .p] (by kernel_rfl) ?_
           refine st rfl rfl (eff_moveO rfl rfl) rfl ?_
           refine st rfl rfl (eff_moveg rfl rfl) rfl ?_
           refine st rfl rfl (eff_ixL rfl Tryz.underlying225 ty4 rfl rfl (ixO_nn by48) (Nat.lt_of_lt_of_eq (get_lt (ixO_get by48)) ln37)) rfl ?_
           refine st_r rfl rfl (eff_ldE (f := cBool) (l := x36) (a := y48) rfl ty4 rfl rfl (ixO_get by48) rfl) rfl ?_
           refine st rfl rfl (eff_moveg rfl rfl) rfl ?_
           refine st_g rfl rfl rfl (gb_bool _ _) (fun h => eff_loadA rfl ty24 rfl rfl rfl) rfl ?_
           refine st_g rfl rfl rfl (gb_bool _ _) (fun h => eff_moveg rfl rfl) rfl ?_
           refine st_g rfl rfl rfl (gb_bool _ _) (fun h => eff_moveg rfl rfl) rfl ?_
           refine st_g rfl rfl rfl (gb_bool _ _) (fun h => eff_ix (f := S151.c) (l := a1) (a := y49) rfl Tryz.underlying25 ty152 (gd h rfl) (gd h rfl) (ixO_nn (condF1 by49 h)) (ixO_get (condF1 by49 h))) rfl ?_
           refine st_g rfl rfl rfl (gb_bool _ _) (fun h => eff_loadA rfl ty152 (gd h rfl) rfl rfl) rfl ?_
           refine st_gr rfl rfl rfl (gb_bool _ _) (fun h => eff_loadOA rfl ty152 rfl rfl rfl rfl) rfl ?_
           refine st_g rfl rfl rfl (gb_bool _ _) (fun h => eff_call rfl K142 rfl (c142 a0 y49 y41) (ag_cons (gd h rfl) (ag_cons (gd h rfl) (ag_cons (gd h rfl) ag_nil)))) rfl ?_
           refine st_g rfl rfl rfl (gb_bool _ _) (fun h => eff_not rfl (gd h rfl)) rfl ?_
           refine st rfl rfl (eff_or rfl rfl rfl rfl) rfl ?_
           refine st_nil ?_
           refine aw_cond _ rfl (fun h15 => ?_) (fun h15 => ?_)
           ·replace h15 : (y48 || (!(s142 a0 y49 y41))) = true := h15
            replace hR := condT hR h15
            try simp only [Bool.or_eq_true, Bool.and_eq_true, Bool.or_eq_false_iff, Bool.and_eq_false_iff, Bool.not_eq_true', Bool.not_eq_false', decide_eq_true_eq, decide_eq_false_iff_not] at h15
            refine aw_exit ?_
            exact ⟨rfl, (x34, x36, x38), ⟨rfl, rfl, rfl, rfl, rfl, rfl, rfl, rfl, rfl, rfl, rfl, rfl, trivial⟩, ⟨rfl, rfl, rfl, rfl, rfl, trivial⟩, rfl, ⟨(by first | omega | (dsimp only; omega) | (simp at *; done) | (simp at *; omega)), ln37, ln39, hR⟩, trivial⟩
           ·replace h15 : (y48 || (!(s142 a0 y49 y41))) = false := h15
            replace hR := condF hR h15
            try simp only [Bool.or_eq_true, Bool.and_eq_true, Bool.or_eq_false_iff, Bool.and_eq_false_iff, Bool.not_eq_true', Bool.not_eq_false', decide_eq_true_eq, decide_eq_false_iff_not] at h15
            refine aw_skip ?_
            refine aw_seq ?_
            obtain ⟨y50, by50, hR⟩ := bindO_inv hR
            refine aw_region [.p, .p, .p, .w] ?_
            refine st rfl rfl (eff_moveO rfl rfl) rfl ?_
            refine st rfl rfl (eff_moveg rfl rfl) rfl ?_
            refine st rfl rfl (eff_ixL rfl Tryz.underlying225 ty4 rfl rfl (ixO_nn by50) (Nat.lt_of_lt_of_eq (get_lt (ixO_get by50)) ln37)) rfl ?_
            refine st_wn rfl rfl (eff_setL (f := cBool) (l := x36) (a' := true) rfl ty4 rfl rfl rfl (Nat.lt_of_lt_of_eq (Nat.lt_of_lt_of_eq (get_lt (ixO_get by50)) ln37) (Eq.symm ln37)) rfl (fun _ => rfl)) ?_
            refine st_nil ?_
            refine aw_seq ?_
            refine aw_region [.p, .p, .r, .p, .p, .p, .p, .p] ?_
            refine st rfl rfl (eff_moveM rfl rfl) rfl ?_
            refine st rfl rfl (eff_moveg rfl rfl) rfl ?_
            refine st_r rfl rfl (eff_lookup2 (kf := Value.int .i64) (vf := (fun v => G.int v)) (m := x4) (k := ((k40 : Nat) : Int)) (z := 0) rfl Tryz.underlying224 Tryz.underlying3 zr3 (fun _ _ => rfl) rfl rfl rfl) rfl ?_
            refine st rfl rfl (eff_moveg rfl rfl) rfl ?_
            refine st rfl rfl (eff_extract rfl rfl rfl) rfl ?_
            refine st rfl rfl (eff_extract rfl rfl rfl) rfl ?_
            refine st rfl rfl (eff_assigng rfl rfl) rfl ?_
            refine st rfl rfl (eff_assigng rfl rfl) rfl ?_
            refine st_nil ?_
            refine aw_seq ?_
            obtain ⟨y51, by51, hR⟩ := bindO_inv hR
            refine aw_region [.p, .p, .p, .p, .p, .r, .p, .p] ?_
            refine st rfl rfl (eff_moveg rfl rfl) rfl ?_
            refine st rfl rfl (eff_moveg rfl rfl) rfl ?_
            refine st_g rfl rfl rfl (gb_bool _ _) (fun h => eff_moveO rfl rfl) rfl ?_
            refine st_g rfl rfl rfl (gb_bool _ _) (fun h => eff_moveg rfl rfl) rfl ?_
            refine st_g rfl rfl rfl (gb_bool _ _) (fun h => eff_ixL rfl Tryz.underlying225 ty4 (gd h rfl) (gd h rfl) (ixO_nn (condT1 by51 h)) (Nat.lt_of_lt_of_eq (get_lt (ixO_get (condT1 by51 h))) ln39)) rfl ?_
            refine st_gr rfl rfl rfl (gb_bool _ _) (fun h => eff_ldE (f := cBool) (l := x38) (a := y51) rfl ty4 (gd h rfl) rfl (ixO_get (condT1 by51 h)) rfl) rfl ?_
            refine st_g rfl rfl rfl (gb_bool _ _) (fun h => eff_not rfl (gd h rfl)) rfl ?_
            refine st rfl rfl (eff_and rfl rfl rfl rfl) rfl ?_
            refine st_nil ?_
            refine aw_cond _ rfl (fun h16 => ?_) (fun h16 => ?_)
            ·replace h16 : ((mhas x4 ((k40 : Nat) : Int)) && (!y51)) = true := h16
             replace hR := condT hR h16
             try simp only [Bool.or_eq_true, Bool.and_eq_true, Bool.or_eq_false_iff, Bool.and_eq_false_iff, Bool.not_eq_true', Bool.not_eq_false', decide_eq_true_eq, decide_eq_false_iff_not] at h16
             refine aw_seq ?_
             obtain ⟨y52, by52, hR⟩ := bindO_inv hR
             refine aw_region [.p, .p, .p, .w] ?_
             refine st rfl rfl (eff_moveO rfl rfl) rfl ?_
             refine st rfl rfl (eff_moveg rfl rfl) rfl ?_
             refine st rfl rfl (eff_ixL rfl Tryz.underlying225 ty4 rfl rfl (ixO_nn by52) (Nat.lt_of_lt_of_eq (get_lt (ixO_get by52)) ln39)) rfl ?_
             refine st_wn rfl rfl (eff_setL (f := cBool) (l := x38) (a' := true) rfl ty4 rfl rfl rfl (Nat.lt_of_lt_of_eq (Nat.lt_of_lt_of_eq (get_lt (ixO_get by52)) ln39) (Eq.symm ln39)) rfl (fun _ => rfl)) ?_
             refine st_nil ?_
             refine aw_region [.p, .p, .p, .k, .p] ?_
             refine st rfl rfl (eff_moveO rfl rfl) rfl ?_
             refine st rfl rfl (eff_moveg rfl rfl) rfl ?_
             refine st rfl rfl (eff_buildSlice rfl Tryz.underlying82 ty3 z3 rfl (ps_cons rfl ps_nil) rfl (by simp []) (by decide)) rfl ?_
             refine st_k rfl rfl (eff_appL (f := cInt) (out := x34) (new := [(mgetD x4 ((k40 : Nat) : Int) 0)]) rfl app82 rfl rfl (src_eq rfl (src_sl (by decide) (by simp []))) (refsM rfl) (by simp; omega)) rfl ?_
             refine st rfl rfl (eff_assignO rfl rfl) rfl ?_
             refine st_nil ?_
             exact ⟨rfl, (x34 ++ [(mgetD x4 ((k40 : Nat) : Int) 0)], List.set x36 (Int.toNat ((k40 : Nat) : Int)) true, List.set x38 (Int.toNat (mgetD x4 ((k40 : Nat) : Int) 0)) true), ⟨rfl, rfl, rfl, rfl, rfl, rfl, rfl, rfl, rfl, rfl, rfl, rfl, trivial⟩, ⟨rfl, rfl, rfl, rfl, rfl, trivial⟩, rfl, ⟨(by first | omega | (dsimp only; omega) | (simp at *; done) | (simp at *; omega)), ((List.length_set ..).trans ln37), ((List.length_set ..).trans ln39), hR⟩, trivial⟩
            ·replace h16 : ((mhas x4 ((k40 : Nat) : Int)) && (!y51)) = false := h16
             replace hR := condF hR h16
             try simp only [Bool.or_eq_true, Bool.and_eq_true, Bool.or_eq_false_iff, Bool.and_eq_false_iff, Bool.not_eq_true', Bool.not_eq_false', decide_eq_true_eq, decide_eq_false_iff_not] at h16
             refine aw_skip ?_
             exact ⟨rfl, (x34, List.set x36 (Int.toNat ((k40 : Nat) : Int)) true, x38), ⟨rfl, rfl, rfl, rfl, rfl, rfl, rfl, rfl, rfl, rfl, rfl, rfl, trivial⟩, ⟨rfl, rfl, rfl, rfl, rfl, trivial⟩, rfl, ⟨(by first | omega | (dsimp only; omega) | (simp at *; done) | (simp at *; omega)), ((List.length_set ..).trans ln37), ln39, hR⟩, trivial⟩
          ·rintro ⟨x43, x44, x46⟩ ⟨jv3_0, ln45, ln47, hR⟩
           replace jv3_0 : x43.length ≤ x34.length + 1 := jv3_0
           replace ln45 : List.length x44 = List.length a2 := ln45
           replace ln47 : List.length x46 = List.length a1 := ln47
           replace hR : s77_j3 (fun k_ z0_ z1_ z2_ => s77_l6 (fun z0_ z1_ z2_ => s77_l3 a0 a1 a2 x4 k20 z0_ z1_ z2_) a0 a1 x4 y33 t42 k_ z0_ z1_ z2_) k40 x43 x44 x46 = some R := hR
           unfold s77_j3 at hR
           refine aw_region [.p, .p] ?_
           refine st rfl rfl (eff_add rfl rfl rfl (by unfold I64; omega)) rfl ?_
           refine st rfl rfl (eff_moveg rfl rfl) rfl ?_
           refine st_nil ?_
           exact ⟨rfl, (k40 + 1, t42, x43, x44, x46), ⟨rfl, rfl, rfl, rfl, rfl, rfl, rfl, rfl, rfl, rfl, rfl, rfl, trivial⟩, ⟨rfl, rfl, rfl, rfl, rfl, trivial⟩, rfl, ⟨(by first | omega | (dsimp only; omega) | (simp at *; omega)), (by first | omega | (dsimp only; omega) | (simp at *; omega)), ln45, ln47, hd, hR⟩, by simp⟩
         ·replace h13 : (decide (((k40 : Nat) : Int) < (List.length a2 : Int))) = false := h13
          obtain rfl := drop_nil hd (decF h13)
          rw [s77_l6] at hR
          refine aw_exit ?_
          exact ⟨rfl, (k20, x34, x36, x38), ⟨rfl, rfl, rfl, rfl, rfl, rfl, rfl, rfl, trivial⟩, ⟨rfl, rfl, rfl, rfl, rfl, trivial⟩, rfl, ⟨(by first | omega | (dsimp only; omega) | (simp at *; omega)), ln37, ln39, hR⟩, by simp⟩
end Go.Sim

namespace Go.Sim
/-! ## the windows of valid slots and movements -/
theorem s85_ok {a b c : Int} (h : s85 a b c = 0) : b ≤ a ∧ a ≤ c := by
  unfold s85 s86 at h
  by_cases h1 : a < b
  · simp [h1] at h
  · by_cases h2 : c < a
    · simp [h2] at h
    · omega
theorem s93_map (l : List S151) (f : S151 → Int) : s93 l f = l.map f := by
  have key : ∀ (l : List S151) (k : Nat) (x : List Int), s93_l1 f l k x = x ++ l.map f := by
    intro l
    induction l with
    | nil => intro k x; simp [s93_l1]
    | cons y l ih => intro k x; rw [s93_l1, ih]; simp
  unfold s93; rw [key]; rfl
theorem s25_mom {l : List S151} (h : s25 l = 0) {s : S151} (hs : s ∈ l) : 0 ≤ s.Moment ∧ s.Moment ≤ 143999999 := by
  unfold s25 at h
  by_cases h1 : 512 < (l.length : Int)
  · rw [decide_eq_true h1] at h; cases h
  · rw [decide_eq_false h1, cond_false, s93_map] at h
    have h2 := s84_all h (s94 s) (List.mem_map_of_mem hs)
    unfold s94 at h2
    exact s85_ok (s84_all h2 (s85 s.Moment 0 143999999) (by simp))
theorem s23_tol {a : S23} (h : s23 a = 0) : (0 ≤ a.Before ∧ a.Before ≤ 720) ∧ (0 ≤ a.After ∧ a.After ≤ 720) := by
  unfold s23 at h
  cases hc : decide ((s84 [(s85 a.Before 0 720), (s85 a.After 0 720), (s85 a.Notice 0 365), (s85 a.Share 1 100), (s86 (decide (16 < (List.length a.Causes : Int))) 5)]) ≠ 0)
  · have h0 : s84 [(s85 a.Before 0 720), (s85 a.After 0 720), (s85 a.Notice 0 365), (s85 a.Share 1 100), (s86 (decide (16 < (List.length a.Causes : Int))) 5)] = 0 := by simpa using hc
    have := s84_all h0
    exact ⟨s85_ok (this _ (by simp)), s85_ok (this (s85 a.After 0 720) (by simp))⟩
  · rw [hc, cond_true] at h
    exact absurd h (of_decide_eq_true hc)
theorem s142_iff {a0 : S23} {a b : S151} (hr : s23 a0 = 0) (ha : 0 ≤ a.Moment ∧ a.Moment ≤ 143999999) : s142 a0 a b = true ↔ (b.Name = a.Name ∧ b.Kind = a.Kind) ∧ a.Moment - a0.Before ≤ b.Moment ∧ b.Moment ≤ a.Moment + a0.After := by
  obtain ⟨h1, h2⟩ := s23_tol hr
  have w1 : IntKind.i64.wrap (a.Moment - a0.Before) = a.Moment - a0.Before := wrap_i64 ⟨by omega, by omega⟩
  have w2 : IntKind.i64.wrap (a.Moment + a0.After) = a.Moment + a0.After := wrap_i64 ⟨by omega, by omega⟩
  unfold s142
  rw [w1, w2]
  simp [eqAnd, Bool.and_eq_true, and_assoc]
def clsI (l : List S151) (i : Int) : Option (ByteArray × ByteArray) := (l[i.toNat]?).map fun s => (s.Name, s.Kind)
theorem win_ok {a0 : S23} {u v : List S151} (hr : s23 a0 = 0) (hu : s25 u = 0) : Win a0.After a0.Before (momI u) (momI v) (clsI u) (clsI v) (okI a0 u v) (ordI u) (ordI v) where
  p := fun i hi k hk => by
    obtain ⟨a, _, ha⟩ := ixO_idx (ordI_mem.1 hi)
    obtain ⟨b, _, hb⟩ := ixO_idx (ordI_mem.1 hk)
    rw [okI_of ha hb, s142_iff hr (s25_mom hu (List.mem_of_getElem? ha)), momI_of ha, momI_of hb]
    unfold clsI
    rw [ha, hb]
    simp only [Option.map_some, Option.some.injEq, Prod.mk.injEq]
    constructor
    · rintro ⟨⟨h1, h2⟩, h3⟩; exact ⟨⟨h1.symm, h2.symm⟩, h3⟩
    · rintro ⟨⟨h1, h2⟩, h3⟩; exact ⟨⟨h1.symm, h2.symm⟩, h3⟩
  u := (ordI_sorted u).imp fun h => by unfold RelM at h; omega
  un := ordI_nodup u
  v := (ordI_sorted v).imp fun h => by unfold RelM at h; omega
end Go.Sim
namespace Go.Sim
end Go.Sim

set_option linter.unusedSimpArgs false
namespace Go.Sim
/-! ## pairs and covers: the program and the reference answer alike -/
theorem s84_4 (A B C D : Bool) : s84 [s86 A 10, s86 B 10, s86 C 11, s86 D 9] = bif A || B then 10 else bif C then 11 else bif D then 9 else 0 := by
  cases A <;> cases B <;> cases C <;> cases D <;> rfl
theorem prev_eq {α : Type} [Inhabited α] {l : List α} {k : Nat} (h : k < l.length) (hl : l.length ≤ 100000) : ∃ q, (bif decide (0 < ((k : Nat) : Int)) then ixO l (max 0 (IntKind.i64.wrap (((k : Nat) : Int) - 1))) else some default) = some q ∧
    (bif decide (0 < ((k : Nat) : Int)) then ixO l (IntKind.i64.wrap (((k : Nat) : Int) - 1)) else some default) = some q ∧ (0 < k → l[k - 1]? = some q) := by
  cases k with
  | zero => exact ⟨default, rfl, rfl, fun h => absurd h (by decide)⟩
  | succ j =>
    have e : decide (0 < ((j + 1 : Nat) : Int)) = true := decide_eq_true (by omega)
    have w : IntKind.i64.wrap (((j + 1 : Nat) : Int) - 1) = (j : Int) := by rw [wrap_i64 ⟨by omega, by omega⟩]; omega
    have m : max 0 (j : Int) = (j : Int) := by omega
    have g : l[j]? = some l[j] := List.getElem?_eq_getElem (by omega)
    exact ⟨l[j], by rw [e, cond_true, w, m, ixO_nat g], by rw [e, cond_true, w, ixO_nat g], fun _ => by simpa using g⟩
theorem s78_in (rec1 : Nat → Option Int) (a0 : S23) (a1 a2 : List S151) (a3 : List S154) (k2 : Nat) (y : S154) : ∀ (n x : Nat), x + n ≤ a3.length →
    s78_l2 rec1 a0 a1 a2 a3 k2 y n (x : Int) = bif decide (y.Record ∈ ((a3.drop x).take n).map S154.Record) then some 9 else s78_l2 rec1 a0 a1 a2 a3 k2 y 0 0
  | 0, x, _ => by simp [s78_l2]
  | n + 1, x, h => by
    have hx : x < a3.length := by omega
    conv => lhs; rw [s78_l2]
    rw [ixO_nat (List.getElem?_eq_getElem hx), List.drop_eq_getElem_cons hx, List.take_succ_cons, List.map_cons]
    simp only [bindO]
    have ih := s78_in rec1 a0 a1 a2 a3 k2 y n (x + 1) (by omega)
    have e : ((x : Nat) : Int) + 1 = ((x + 1 : Nat) : Int) := by omega
    rw [e, ih]
    by_cases hr : a3[x].Record = y.Record
    · simp [hr]
    · have hr' : ¬ y.Record = a3[x].Record := fun h => hr h.symm
      simp [hr, hr']
theorem cm_loop (a0 : S23) (a1 a2 : List S151) (a3 : List S154) (hl : a3.length ≤ 100000) : ∀ (rest : List S154) (k : Nat) (m : List (Int × Bool)), a3.drop k = rest → k + rest.length = a3.length → (∀ j, mgetD m j false = decide (j ∈ (a3.take k).map S154.Record)) → s75_l1 a0 a1 a2 a3 rest k m = s78_l1 a0 a1 a2 a3 rest k
  | [], k, m, _, _, _ => by rw [s75_l1, s78_l1]
  | y :: rest, k, m, hd, hk, hm => by
    rw [List.length_cons] at hk
    have hky : a3[k]? = some y := by
      have : (a3.drop k)[0]? = some y := by rw [hd]; rfl
      simpa using this
    have hd' : a3.drop (k + 1) = rest := by
      have : a3.drop (k + 1) = (a3.drop k).drop 1 := by rw [List.drop_drop]
      rw [this, hd]; rfl
    obtain ⟨q, p1, p2, _⟩ := prev_eq (l := a3) (k := k) (by omega) hl
    have ih := cm_loop a0 a1 a2 a3 hl rest (k + 1) (mset m y.Record true) hd' (by omega) fun j => by
      rw [mgetD_mset, hm, List.take_succ, hky]
      by_cases hj : y.Record = j
      · subst hj; simp
      · have : ¬ j = y.Record := fun e => hj e.symm
        simp [hj, this]
    have hin := s78_in (fun k_ => s78_l1 a0 a1 a2 a3 rest k_) a0 a1 a2 a3 k y k 0 (by omega)
    have e0 : ((((k : Nat) : Int) - 0).toNat) = k := by omega
    have e1 : ((0 : Nat) : Int) = 0 := rfl
    rw [e1] at hin
    rw [s75_l1, s78_l1, p1, p2, e0, hin]
    simp only [bindO]
    unfold s141
    rw [s84_4, hm, List.drop_zero]
    generalize hA : (decide (y.Slot < 0) || decide ((List.length a1 : Int) ≤ y.Slot)) = A
    generalize hB : (decide (y.Record < 0) || decide ((List.length a2 : Int) ≤ y.Record)) = B
    have hAB : ((A || (decide (y.Record < 0))) || (decide ((List.length a2 : Int) ≤ y.Record))) = (A || B) := by rw [← hB, Bool.or_assoc]
    rw [hAB]
    generalize (decide (0 < ((k : Nat) : Int)) && decide (y.Slot ≤ q.Slot)) = C
    generalize decide (y.Record ∈ (a3.take k).map S154.Record) = D
    cases A
    · cases B
      · have hs : 0 ≤ y.Slot ∧ y.Slot.toNat < a1.length := by
          simp only [Bool.or_eq_false_iff, decide_eq_false_iff_not] at hA; omega
        have hr : 0 ≤ y.Record ∧ y.Record.toNat < a2.length := by
          simp only [Bool.or_eq_false_iff, decide_eq_false_iff_not] at hB; omega
        have i1 := ixO_in hs.1 hs.2
        have i2 := ixO_in hr.1 hr.2
        cases C
        · cases D
          · simp only [Bool.or_self, cond_false, decide_true, cond_true, i1, i2, Bool.true_and, s75_j1, s78_l2, bindO]
            rw [s142_eq]
            cases s145 a0 a1[y.Slot.toNat] a2[y.Record.toNat]
            · rfl
            · simpa using ih
          · simp [s75_j1]
        · simp [s75_j1]
      · simp [s75_j1]
    · simp [s75_j1]
theorem s75_eq {a0 : S23} {a1 a2 : List S151} {a3 : List S154} (h : s113 a0 a1 a2 = 0) (hl : a3.length ≤ 100000) : s75 a0 a1 a2 a3 = s78 a0 a1 a2 a3 := by
  unfold s75 s78
  rw [decide_eq_false (by simpa using h), cond_false]
  exact cm_loop a0 a1 a2 a3 hl a3 0 [] rfl (by simp) fun j => by simp [mgetD, mget]
end Go.Sim

set_option linter.unusedSimpArgs false
namespace Go.Sim
/-! ## the cover: the search from the slots without a match -/
def mapS (l : List S154) (m : List (Int × Bool)) : List (Int × Bool) := l.foldl (fun m e => mset m e.Slot true) m
def mapO (l : List S154) (m : List (Int × Int)) : List (Int × Int) := l.foldl (fun m e => mset m e.Record e.Slot) m
theorem s77_maps (a0 : S23) (u v : List S151) : ∀ (l : List S154) (k : Nat) (x : List (Int × Bool)) (y : List (Int × Int)), s77_l1 a0 u v l k x y = s77_l2 a0 u v (mapS l x) (mapO l y) u 0 [] (List.replicate u.length false)
  | [], k, x, y => by rw [s77_l1]; rfl
  | e :: l, k, x, y => by rw [s77_l1, s77_maps a0 u v l (k + 1)]; rfl
theorem mapS_get : ∀ (l : List S154) (m : List (Int × Bool)) (i : Int), mgetD (mapS l m) i false = (mgetD m i false || decide (i ∈ l.map S154.Slot))
  | [], m, i => by simp [mapS]
  | e :: l, m, i => by
    have : mapS (e :: l) m = mapS l (mset m e.Slot true) := rfl
    rw [this, mapS_get l, mgetD_mset]
    by_cases h : e.Slot = i
    · subst h; simp
    · have h' : ¬ i = e.Slot := fun q => h q.symm
      simp [h, h']
theorem mapO_ne : ∀ (l : List S154) (m : List (Int × Int)) (k : Int), k ∉ l.map S154.Record → mget (mapO l m) k = mget m k
  | [], m, k, _ => rfl
  | e :: l, m, k, h => by
    simp only [List.map_cons, List.mem_cons, not_or] at h
    have : mapO (e :: l) m = mapO l (mset m e.Record e.Slot) := rfl
    rw [this, mapO_ne l _ k h.2, mget_mset, if_neg (fun q => h.1 q.symm)]
theorem mapO_get : ∀ (l : List S154) (m : List (Int × Int)) (o k : Int), (l.map S154.Record).Nodup → (⟨o, k⟩ : S154) ∈ l → mget (mapO l m) k = some o
  | [], _, _, _, _, h => by cases h
  | e :: l, m, o, k, hn, h => by
    rw [List.map_cons, List.nodup_cons] at hn
    have : mapO (e :: l) m = mapO l (mset m e.Record e.Slot) := rfl
    rw [this]
    rcases List.mem_cons.1 h with rfl | h
    · rw [mapO_ne l _ k hn.1, mget_mset, if_pos rfl]
    · exact mapO_get l _ o k hn.2 h
def cF (l : List Bool) : Nat := l.countP (fun b => !b)
theorem cF_set : ∀ {l : List Bool} {i : Nat}, l[i]? = some false → cF (l.set i true) + 1 = cF l
  | [], i, h => by simp at h
  | b :: l, 0, h => by simp at h; subst h; simp [cF]
  | b :: l, i + 1, h => by
    have := cF_set (l := l) (i := i) (by simpa using h)
    unfold cF at this ⊢
    rw [List.set_cons_succ, List.countP_cons, List.countP_cons]
    omega
abbrev RchI (a0 : S23) (u v : List S151) (i : Int) : Prop := Rch a0.After a0.Before (momI u) (momI v) (clsI u) (clsI v) (okI a0 u v) (ordI u) (ordI v) i
structure SI (a0 : S23) (u v : List S151) (w : List Int) (met re : List Bool) (x : Nat → Prop) : Prop where
  lm : met.length = v.length
  lr : re.length = u.length
  i2 : ∀ i ∈ w, ∃ n : Nat, i = (n : Int) ∧ re[n]? = some true
  i3 : ∀ n : Nat, re[n]? = some true → RchI a0 u v (n : Int)
  i4 : ∀ k : Nat, met[k]? = some true → ∃ o : Nat, (⟨(o : Int), (k : Int)⟩ : S154) ∈ mat a0 u v ∧ re[o]? = some true
  i5 : ∀ n : Nat, re[n]? = some true → (n : Int) ∈ w ∨ (∀ k : Nat, k < v.length → okI a0 u v n k = true → met[k]? = some true) ∨ x n
  i6 : ∀ n : Nat, n < u.length → (n : Int) ∉ (mat a0 u v).map S154.Slot → re[n]? = some true
theorem set_true {l : List Bool} {i n : Nat} (h : l[n]? = some true) : (l.set i true)[n]? = some true := by
  by_cases e : i = n
  · subst e
    have := (List.getElem?_eq_some_iff.1 h).1
    simp [this]
  · rw [List.getElem?_set_ne e]; exact h
theorem set_inv {l : List Bool} {i n : Nat} (h : (l.set i true)[n]? = some true) : n = i ∨ l[n]? = some true := by
  by_cases e : i = n
  · exact .inl e.symm
  · rw [List.getElem?_set_ne e] at h; exact .inr h
section
variable {a0 : S23} {u v : List S151} (W : Win a0.After a0.Before (momI u) (momI v) (clsI u) (clsI v) (okI a0 u v) (ordI u) (ordI v))
include W
theorem inner (rec3 : List Int → List Bool → List Bool → Option (S139 × Int)) (i : Nat) (hi : RchI a0 u v (i : Int)) (hiu : i < u.length) : ∀ (rest : List S151) (k : Nat) (w : List Int) (met re : List Bool), v.drop k = rest → k + rest.length = v.length →
    SI a0 u v w met re (fun n => n = i ∧ ∀ j : Nat, j < k → okI a0 u v n j = true → met[j]? = some true) →
    ∃ w' met' re', SI a0 u v w' met' re' (fun n => n = i ∧ ∀ j : Nat, j < v.length → okI a0 u v n j = true → met'[j]? = some true) ∧ w'.length + cF re' = w.length + cF re ∧
      s77_l6 rec3 a0 u (mapO (mat a0 u v) []) (i : Int) rest k w met re = rec3 w' met' re'
  | [], k, w, met, re, _, hk, h => by
    have : k = v.length := by simpa using hk
    subst this
    exact ⟨w, met, re, h, rfl, by rw [s77_l6]⟩
  | z :: rest, k, w, met, re, hd, hk, h => by
    rw [List.length_cons] at hk
    have hz : v[k]? = some z := by
      have : (v.drop k)[0]? = some z := by rw [hd]; rfl
      simpa using this
    have hd' : v.drop (k + 1) = rest := by
      have : v.drop (k + 1) = (v.drop k).drop 1 := by rw [List.drop_drop]
      rw [this, hd]; rfl
    have hlk : k < met.length := by rw [h.lm]; omega
    have hmk : met[k]? = some met[k] := List.getElem?_eq_getElem hlk
    have hui : u[i]? = some u[i] := List.getElem?_eq_getElem hiu
    have hok : okI a0 u v (i : Int) (k : Int) = s142 a0 u[i] z := okI_of (by simpa using hui) (by simpa using hz)
    have same : ∀ (hm : met[k]? = some true ∨ okI a0 u v (i : Int) (k : Int) = false), SI a0 u v w met re (fun n => n = i ∧ ∀ j : Nat, j < k + 1 → okI a0 u v n j = true → met[j]? = some true) := fun hm =>
      { lm := h.lm, lr := h.lr, i2 := h.i2, i3 := h.i3, i4 := h.i4, i6 := h.i6
        i5 := fun n hn => by
          rcases h.i5 n hn with g | g | ⟨rfl, g⟩
          · exact .inl g
          · exact .inr (.inl g)
          · refine .inr (.inr ⟨rfl, fun j hj ho => ?_⟩)
            by_cases hjk : j < k
            · exact g j hjk ho
            · have : j = k := by omega
              subst this
              rcases hm with hm | hm
              · exact hm
              · rw [hm] at ho; cases ho }
    rw [s77_l6, ixO_nat hmk]
    simp only [bindO]
    cases hmv : met[k]
    · rw [hmv] at hmk
      simp only [Bool.not_false, cond_true, ixO_nat hui, bindO, Bool.false_or]
      cases hp : s142 a0 u[i] z
      · simp only [Bool.not_false, cond_true, s77_j3]
        exact inner rec3 i hi hiu rest (k + 1) w met re hd' (by omega) (same (.inr (by rw [hok, hp])))
      · have hokt : okI a0 u v (i : Int) (k : Int) = true := by rw [hok, hp]
        obtain ⟨o, ho, hor⟩ := rch_step W hi (ordI_mem.2 (mem_idxs.2 ⟨by omega, by have := (List.getElem?_eq_some_iff.1 hz).1; simpa using this⟩)) hokt
        have ho : (⟨o, (k : Int)⟩ : S154) ∈ mat a0 u v := ho
        have hsl : o ∈ idxs u.length := mat_slot ho
        obtain ⟨o0, o1⟩ := mem_idxs.1 hsl
        obtain ⟨q, rfl⟩ : ∃ q : Nat, o = (q : Int) := ⟨o.toNat, by omega⟩
        have o1 : q < u.length := by simpa using o1
        have hget := mapO_get (mat a0 u v) [] (q : Int) (k : Int) (mat_recs a0 u v) ho
        have hhas : mhas (mapO (mat a0 u v) []) (k : Int) = true := by unfold mhas; rw [hget]; rfl
        have hgd : mgetD (mapO (mat a0 u v) []) (k : Int) 0 = (q : Int) := by unfold mgetD; rw [hget]
        have hq0 : q < re.length := by rw [h.lr]; exact o1
        have hrq : re[q]? = some re[q] := List.getElem?_eq_getElem hq0
        have eq1 : Int.toNat ((k : Nat) : Int) = k := by omega
        have eq2 : Int.toNat ((q : Nat) : Int) = q := by omega
        have hset : (met.set k true)[k]? = some true := by simp [hlk]
        simp only [Bool.not_true, cond_false, hhas, cond_true, hgd, ixO_nat hrq, bindO, ixO_nat hmk, Bool.true_and, eq1, eq2, s77_j3]
        cases hrv : re[q]
        · rw [hrv] at hrq
          simp only [Bool.not_false, cond_true]
          have hlq : q < re.length := (List.getElem?_eq_some_iff.1 hrq).1
          have hset2 : (re.set q true)[q]? = some true := by simp [hlq]
          obtain ⟨w', met', re', g1, g2, g3⟩ := inner rec3 i hi hiu rest (k + 1) (w ++ [(q : Int)]) (met.set k true) (re.set q true) hd' (by omega)
            { lm := by rw [List.length_set]; exact h.lm
              lr := by rw [List.length_set]; exact h.lr
              i2 := fun x hx => by
                rcases List.mem_append.1 hx with hx | hx
                · obtain ⟨n, e, g⟩ := h.i2 x hx; exact ⟨n, e, set_true g⟩
                · exact ⟨q, List.mem_singleton.1 hx, hset2⟩
              i3 := fun n hn => by
                rcases set_inv hn with rfl | hn
                · exact hor
                · exact h.i3 n hn
              i4 := fun j hj => by
                rcases set_inv hj with rfl | hj
                · exact ⟨q, ho, hset2⟩
                · obtain ⟨o', g1, g2⟩ := h.i4 j hj; exact ⟨o', g1, set_true g2⟩
              i5 := fun n hn => by
                rcases set_inv hn with rfl | hn
                · exact .inl (by simp)
                · rcases h.i5 n hn with g | g | ⟨rfl, g⟩
                  · exact .inl (List.mem_append_left _ g)
                  · exact .inr (.inl fun j hj ho' => set_true (g j hj ho'))
                  · refine .inr (.inr ⟨rfl, fun j hj ho' => ?_⟩)
                    by_cases hjk : j < k
                    · exact set_true (g j hjk ho')
                    · have : j = k := by omega
                      subst this; exact hset
              i6 := fun n hn hs => set_true (h.i6 n hn hs) }
          have := cF_set hrq
          exact ⟨w', met', re', g1, by rw [g2]; simp; omega, g3⟩
        · rw [hrv] at hrq
          simp only [Bool.not_true, cond_false]
          exact inner rec3 i hi hiu rest (k + 1) w (met.set k true) re hd' (by omega)
            { lr := h.lr, i2 := h.i2, i3 := h.i3, i6 := h.i6
              lm := by rw [List.length_set]; exact h.lm
              i4 := fun j hj => by
                rcases set_inv hj with rfl | hj
                · exact ⟨q, ho, hrq⟩
                · exact h.i4 j hj
              i5 := fun n hn => by
                rcases h.i5 n hn with g | g | ⟨rfl, g⟩
                · exact .inl g
                · exact .inr (.inl fun j hj ho' => set_true (g j hj ho'))
                · refine .inr (.inr ⟨rfl, fun j hj ho' => ?_⟩)
                  by_cases hjk : j < k
                  · exact set_true (g j hjk ho')
                  · have : j = k := by omega
                    subst this; exact hset }
    · rw [hmv] at hmk
      simp only [Bool.not_true, cond_false, Bool.true_or, cond_true, bindO, s77_j3]
      exact inner rec3 i hi hiu rest (k + 1) w met re hd' (by omega) (same (.inl hmk))
theorem outer : ∀ (fuel : Nat) (w : List Int) (met re : List Bool), SI a0 u v w met re (fun _ => False) → w.length + cF re < fuel →
    ∃ met' re', SI a0 u v [] met' re' (fun _ => False) ∧ s77_l3 a0 u v (mapO (mat a0 u v) []) fuel w met re = s77_l4 met' re' 0 []
  | 0, _, _, _, _, h => by omega
  | fuel + 1, [], met, re, h, _ => ⟨met, re, h, by rw [s77_l3]; rfl⟩
  | fuel + 1, i :: w, met, re, h, hl => by
    obtain ⟨n, rfl, hn⟩ := h.i2 i List.mem_cons_self
    have hnu : n < u.length := by rw [← h.lr]; exact (List.getElem?_eq_some_iff.1 hn).1
    obtain ⟨w', met', re', g1, g2, g3⟩ := inner W (fun z0_ z1_ z2_ => s77_l3 a0 u v (mapO (mat a0 u v) []) fuel z0_ z1_ z2_) n (h.i3 n hn) hnu v 0 w met re rfl (by simp)
      { lm := h.lm, lr := h.lr, i3 := h.i3, i4 := h.i4, i6 := h.i6
        i2 := fun x hx => h.i2 x (List.mem_cons_of_mem _ hx)
        i5 := fun q hq => by
          rcases h.i5 q hq with g | g | g
          · rcases List.mem_cons.1 g with g | g
            · exact .inr (.inr ⟨by omega, fun j hj => absurd hj (Nat.not_lt_zero _)⟩)
            · exact .inl g
          · exact .inr (.inl g)
          · exact g.elim }
    have hlt : decide ((List.length ((n : Int) :: w) : Int) = 0) = false := decide_eq_false (by rw [List.length_cons]; omega)
    rw [s77_l3, hlt, cond_false, show ixO ((n : Int) :: w) 0 = some (n : Int) from rfl]
    simp only [bindO, List.drop_succ_cons, List.drop_zero]
    rw [List.length_cons] at hl
    have hsi : SI a0 u v w' met' re' (fun _ => False) := ⟨g1.lm, g1.lr, g1.i2, g1.i3, g1.i4, fun q hq => by
      rcases g1.i5 q hq with g | g | ⟨rfl, g⟩
      · exact .inl g
      · exact .inr (.inl g)
      · exact .inr (.inl g), g1.i6⟩
    obtain ⟨m2, r2, k1, k2⟩ := outer fuel w' met' re' hsi (by omega)
    exact ⟨m2, r2, k1, by rw [← k2]; exact g3⟩
end
end Go.Sim

