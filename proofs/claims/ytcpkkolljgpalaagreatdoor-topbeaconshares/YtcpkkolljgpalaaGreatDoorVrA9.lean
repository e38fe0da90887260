/-
  What is proved: lemmas and contracts of functions on the way to the law topBeaconShares (part 9).
-/
import Derived.Test.YtcpkkolljgpalaaGreatDoorVrA8
import Derived.Test.YtcpkkolljgpalaaGreatDoorVrA7
import Derived.Test.YtcpkkolljgpalaaGreatDoorVrA5
import Derived.Scope
import Derived.Test.YtcpkkolljgpalaaGreatDoorVrA2
import Derived.Maps.RangeRun
set_option linter.unusedSectionVars false
set_option linter.unusedSimpArgs false
set_option linter.unusedVariables false
set_option linter.unnecessarySimpa false
set_option linter.deprecated false
namespace Go.Ex
open Go.Proofs
def isInt (n : Int) : Re (V × H × Nat) → Bool
 | .ok (.lit (.int .i64 m), _, _) => m == n
 | _ => false
theorem isInt_ex {n : Int} {r : Re (V × H × Nat)} (h : isInt n r = true) : ∃ h' c', r = .ok (.lit (.int .i64 n), h', c') := by
 unfold isInt at h
 split at h
 ·rename_i m h' c'; exact ⟨h', c', by rw [of_decide_eq_true (by simpa using h) |> fun (e : m = n) => e]⟩
 ·cases h
def lenT (n : Int) : Int := bif decide (n ≤ 0) then 0 else bif decide (n ≤ 1) then 1 else bif decide (n ≤ 3) then 2 else bif decide (n ≤ 7) then 3 else 4
theorem r182_0 : isInt 0 (call Tryz.prog gl (fun _ _ _ _ _ => none) 40 (.fn 179) [.lit (.int .u64 0)] h0 1000 1000) = true := by kernel_rfl
theorem k182_0 : Sim.Con (Sim.EG Sim.glT) 179 [Sim.G.lit (.int .u64 0)] (Sim.G.int 0) := by
 obtain ⟨h', c', h⟩ := isInt_ex r182_0;exact con_of_call (vs := [.int .u64 0]) orc_none orcK_none (by decide) (gl_ok (by decide)) h
theorem r182_1 : isInt 1 (call Tryz.prog gl (fun _ _ _ _ _ => none) 40 (.fn 179) [.lit (.int .u64 1)] h0 1000 1000) = true := by kernel_rfl
theorem k182_1 : Sim.Con (Sim.EG Sim.glT) 179 [Sim.G.lit (.int .u64 1)] (Sim.G.int 1) := by
 obtain ⟨h', c', h⟩ := isInt_ex r182_1;exact con_of_call (vs := [.int .u64 1]) orc_none orcK_none (by decide) (gl_ok (by decide)) h
theorem r182_2 : isInt 2 (call Tryz.prog gl (fun _ _ _ _ _ => none) 40 (.fn 179) [.lit (.int .u64 2)] h0 1000 1000) = true := by kernel_rfl
theorem k182_2 : Sim.Con (Sim.EG Sim.glT) 179 [Sim.G.lit (.int .u64 2)] (Sim.G.int 2) := by
 obtain ⟨h', c', h⟩ := isInt_ex r182_2;exact con_of_call (vs := [.int .u64 2]) orc_none orcK_none (by decide) (gl_ok (by decide)) h
theorem r182_3 : isInt 2 (call Tryz.prog gl (fun _ _ _ _ _ => none) 40 (.fn 179) [.lit (.int .u64 3)] h0 1000 1000) = true := by kernel_rfl
theorem k182_3 : Sim.Con (Sim.EG Sim.glT) 179 [Sim.G.lit (.int .u64 3)] (Sim.G.int 2) := by
 obtain ⟨h', c', h⟩ := isInt_ex r182_3;exact con_of_call (vs := [.int .u64 3]) orc_none orcK_none (by decide) (gl_ok (by decide)) h
theorem r182_4 : isInt 3 (call Tryz.prog gl (fun _ _ _ _ _ => none) 40 (.fn 179) [.lit (.int .u64 4)] h0 1000 1000) = true := by kernel_rfl
theorem k182_4 : Sim.Con (Sim.EG Sim.glT) 179 [Sim.G.lit (.int .u64 4)] (Sim.G.int 3) := by
 obtain ⟨h', c', h⟩ := isInt_ex r182_4;exact con_of_call (vs := [.int .u64 4]) orc_none orcK_none (by decide) (gl_ok (by decide)) h
theorem r182_5 : isInt 3 (call Tryz.prog gl (fun _ _ _ _ _ => none) 40 (.fn 179) [.lit (.int .u64 5)] h0 1000 1000) = true := by kernel_rfl
theorem k182_5 : Sim.Con (Sim.EG Sim.glT) 179 [Sim.G.lit (.int .u64 5)] (Sim.G.int 3) := by
 obtain ⟨h', c', h⟩ := isInt_ex r182_5;exact con_of_call (vs := [.int .u64 5]) orc_none orcK_none (by decide) (gl_ok (by decide)) h
theorem r182_6 : isInt 3 (call Tryz.prog gl (fun _ _ _ _ _ => none) 40 (.fn 179) [.lit (.int .u64 6)] h0 1000 1000) = true := by kernel_rfl
theorem k182_6 : Sim.Con (Sim.EG Sim.glT) 179 [Sim.G.lit (.int .u64 6)] (Sim.G.int 3) := by
 obtain ⟨h', c', h⟩ := isInt_ex r182_6;exact con_of_call (vs := [.int .u64 6]) orc_none orcK_none (by decide) (gl_ok (by decide)) h
theorem r182_7 : isInt 3 (call Tryz.prog gl (fun _ _ _ _ _ => none) 40 (.fn 179) [.lit (.int .u64 7)] h0 1000 1000) = true := by kernel_rfl
theorem k182_7 : Sim.Con (Sim.EG Sim.glT) 179 [Sim.G.lit (.int .u64 7)] (Sim.G.int 3) := by
 obtain ⟨h', c', h⟩ := isInt_ex r182_7;exact con_of_call (vs := [.int .u64 7]) orc_none orcK_none (by decide) (gl_ok (by decide)) h
theorem r182_8 : isInt 4 (call Tryz.prog gl (fun _ _ _ _ _ => none) 40 (.fn 179) [.lit (.int .u64 8)] h0 1000 1000) = true := by kernel_rfl
theorem k182_8 : Sim.Con (Sim.EG Sim.glT) 179 [Sim.G.lit (.int .u64 8)] (Sim.G.int 4) := by
 obtain ⟨h', c', h⟩ := isInt_ex r182_8;exact con_of_call (vs := [.int .u64 8]) orc_none orcK_none (by decide) (gl_ok (by decide)) h
theorem r182_9 : isInt 4 (call Tryz.prog gl (fun _ _ _ _ _ => none) 40 (.fn 179) [.lit (.int .u64 9)] h0 1000 1000) = true := by kernel_rfl
theorem k182_9 : Sim.Con (Sim.EG Sim.glT) 179 [Sim.G.lit (.int .u64 9)] (Sim.G.int 4) := by
 obtain ⟨h', c', h⟩ := isInt_ex r182_9;exact con_of_call (vs := [.int .u64 9]) orc_none orcK_none (by decide) (gl_ok (by decide)) h
theorem r182_10 : isInt 4 (call Tryz.prog gl (fun _ _ _ _ _ => none) 40 (.fn 179) [.lit (.int .u64 10)] h0 1000 1000) = true := by kernel_rfl
theorem k182_10 : Sim.Con (Sim.EG Sim.glT) 179 [Sim.G.lit (.int .u64 10)] (Sim.G.int 4) := by
 obtain ⟨h', c', h⟩ := isInt_ex r182_10;exact con_of_call (vs := [.int .u64 10]) orc_none orcK_none (by decide) (gl_ok (by decide)) h
theorem r182_11 : isInt 4 (call Tryz.prog gl (fun _ _ _ _ _ => none) 40 (.fn 179) [.lit (.int .u64 11)] h0 1000 1000) = true := by kernel_rfl
theorem k182_11 : Sim.Con (Sim.EG Sim.glT) 179 [Sim.G.lit (.int .u64 11)] (Sim.G.int 4) := by
 obtain ⟨h', c', h⟩ := isInt_ex r182_11;exact con_of_call (vs := [.int .u64 11]) orc_none orcK_none (by decide) (gl_ok (by decide)) h
theorem r182_12 : isInt 4 (call Tryz.prog gl (fun _ _ _ _ _ => none) 40 (.fn 179) [.lit (.int .u64 12)] h0 1000 1000) = true := by kernel_rfl
theorem k182_12 : Sim.Con (Sim.EG Sim.glT) 179 [Sim.G.lit (.int .u64 12)] (Sim.G.int 4) := by
 obtain ⟨h', c', h⟩ := isInt_ex r182_12;exact con_of_call (vs := [.int .u64 12]) orc_none orcK_none (by decide) (gl_ok (by decide)) h
end Go.Ex
namespace Go.Sim
open Go.Proofs Go.Ex
def lenU (n : Int) : Int := lenT n
theorem c182 (n : Int) (h : 0 ≤ n ∧ n ≤ 12) : Con (EG glT) 179 [G.lit (.int .u64 n)] (G.int (lenU n)) := by
 have : n = 0 ∨ n = 1 ∨ n = 2 ∨ n = 3 ∨ n = 4 ∨ n = 5 ∨ n = 6 ∨ n = 7 ∨ n = 8 ∨ n = 9 ∨ n = 10 ∨ n = 11 ∨ n = 12 := by omega
 rcases this with rfl | rfl | rfl | rfl | rfl | rfl | rfl | rfl | rfl | rfl | rfl | rfl | rfl
 ·exact k182_0
 ·exact k182_1
 ·exact k182_2
 ·exact k182_3
 ·exact k182_4
 ·exact k182_5
 ·exact k182_6
 ·exact k182_7
 ·exact k182_8
 ·exact k182_9
 ·exact k182_10
 ·exact k182_11
 ·exact k182_12
theorem c182w (n : Int) (h : 0 ≤ n ∧ n ≤ 12) : Con (EG glT) 179 [G.lit (.int .u64 (IntKind.u64.wrap n))] (G.int (lenU n)) := by
 have : IntKind.u64.wrap n = n := by
  have : n = 0 ∨ n = 1 ∨ n = 2 ∨ n = 3 ∨ n = 4 ∨ n = 5 ∨ n = 6 ∨ n = 7 ∨ n = 8 ∨ n = 9 ∨ n = 10 ∨ n = 11 ∨ n = 12 := by omega
  rcases this with rfl | rfl | rfl | rfl | rfl | rfl | rfl | rfl | rfl | rfl | rfl | rfl | rfl <;> decide
 rw [this]; exact c182 n h
end Go.Sim
set_option maxRecDepth 10000
namespace Go.Sim
open Go.Proofs
def s167 (a0 : Int) (a1 : Int) : Int :=
 (bif (s202 a0) then (bif (s202 a1) then 0 else (-1)) else (bif (s202 a1) then 1 else (bif decide (a0 < a1) then (-1) else (bif decide (a1 < a0) then 1 else 0))))
theorem c167 {g : List (Nat × List Value)} (a0 : Int) (a1 : Int)    : Con (EG g) 122 [G.int a0, G.int a1] (G.int (s167 a0 a1)) := by
 generalize hR : s167 a0 a1 = R;unfold s167 at hR;refine con_of_aw Tryz.func122 rfl rfl fun w0 M0 => ?_;refine aw_seq ?_;refine aw_region [.p] ?_;refine sa rfl rfl ?_;refine st_nil ?_;refine aw_seq ?_;refine aw_region [.p, .p, .p] ?_;refine sm rfl rfl ?_;refine su (eff_call rfl K202 rfl (c202 a0) (ag_cons rfl ag_nil)) rfl ?_;refine sa rfl rfl ?_;refine st_nil ?_;refine aw_seq ?_;refine aw_region [.p, .p, .p] ?_;refine sm rfl rfl ?_;refine su (eff_call rfl K202 rfl (c202 a1) (ag_cons rfl ag_nil)) rfl ?_;refine sa rfl rfl ?_;refine st_nil ?_;refine aw_seq ?_;refine aw_seq ?_;refine aw_region [.p] ?_;refine sm rfl rfl ?_;refine st_nil ?_;refine aw_cond _ rfl (fun h1 => ?_) (fun h1 => ?_)
 ·replace h1 : ((s202 a0)) = true := h1;replace hR := condT hR h1;(try simp only [bB] at h1);refine aw_seq ?_;refine aw_seq ?_;refine aw_region [.p] ?_;refine sm rfl rfl ?_;refine st_nil ?_;refine aw_cond _ rfl (fun h2 => ?_) (fun h2 => ?_)
  ·replace h2 : ((s202 a1)) = true := h2;replace hR := condT hR h2;(try simp only [bB] at h2);refine aw_seq ?_;refine aw_region [.p] ?_;refine sa rfl rfl ?_;refine st_nil ?_;refine aw_ret ?_;subst hR;exact res_c rfl (rv_g rfl)
  ·replace h2 : ((s202 a1)) = false := h2;replace hR := condF hR h2;(try simp only [bB] at h2);refine aw_skip ?_;refine aw_seq ?_;refine aw_region [.p] ?_;refine sa rfl rfl ?_;refine st_nil ?_;refine aw_ret ?_;subst hR;exact res_c rfl (rv_g rfl)
 ·replace h1 : ((s202 a0)) = false := h1;replace hR := condF hR h1;(try simp only [bB] at h1);refine aw_skip ?_;refine aw_seq ?_;refine aw_seq ?_;refine aw_region [.p] ?_;refine sm rfl rfl ?_;refine st_nil ?_;refine aw_cond _ rfl (fun h3 => ?_) (fun h3 => ?_)
  ·replace h3 : ((s202 a1)) = true := h3;replace hR := condT hR h3;(try simp only [bB] at h3);refine aw_seq ?_;refine aw_region [.p] ?_;refine sa rfl rfl ?_;refine st_nil ?_;refine aw_ret ?_;subst hR;exact res_c rfl (rv_g rfl)
  ·replace h3 : ((s202 a1)) = false := h3;replace hR := condF hR h3;(try simp only [bB] at h3);refine aw_skip ?_;refine aw_seq ?_;refine aw_seq ?_;refine aw_region [.p, .p, .p] ?_;refine sm rfl rfl ?_;refine sm rfl rfl ?_;refine su (eff_lss rfl rfl rfl) rfl ?_;refine st_nil ?_;refine aw_cond _ rfl (fun h4 => ?_) (fun h4 => ?_)
   ·replace h4 : (decide (a0 < a1)) = true := h4;replace hR := condT hR h4;(try simp only [bB] at h4);refine aw_seq ?_;refine aw_region [.p] ?_;refine sa rfl rfl ?_;refine st_nil ?_;refine aw_ret ?_;subst hR;exact res_c rfl (rv_g rfl)
   ·replace h4 : (decide (a0 < a1)) = false := h4;replace hR := condF hR h4;(try simp only [bB] at h4);refine aw_skip ?_;refine aw_seq ?_;refine aw_seq ?_;refine aw_region [.p, .p, .p] ?_;refine sm rfl rfl ?_;refine sm rfl rfl ?_;refine su (eff_gtr rfl rfl rfl) rfl ?_;refine st_nil ?_;refine aw_cond _ rfl (fun h5 => ?_) (fun h5 => ?_)
    ·replace h5 : (decide (a1 < a0)) = true := h5;replace hR := condT hR h5;(try simp only [bB] at h5);refine aw_seq ?_;refine aw_region [.p] ?_;refine sa rfl rfl ?_;refine st_nil ?_;refine aw_ret ?_;subst hR;exact res_c rfl (rv_g rfl)
    ·replace h5 : (decide (a1 < a0)) = false := h5;replace hR := condF hR h5;(try simp only [bB] at h5);refine aw_skip ?_;refine aw_seq ?_;refine aw_region [.p] ?_;refine sa rfl rfl ?_;refine st_nil ?_;refine aw_ret ?_;subst hR;exact res_c rfl (rv_g rfl)
def s233_l2 (r6 : List Int) : Nat → Int → Option (List Int)
 | 0, _ => none
 | k8 + 1, x7 => some r6
def s233_l1 (a1 : Int) (a2 : Int → Int → Option Int) : Nat → Int → Int → (List Int) → Option (List Int)
 | 0, _, _, _ => none
 | k5 + 1, x1, x2, x3 => bindO (s252 x3 x1 a1 a2) fun r6 => s233_l2 r6 ((0) + 1) 20
def s233 (a0 : List Int) (a1 : Int) (a2 : Int → Int → Option Int) : Option (List Int) :=
 s233_l1 a1 a2 ((0) + 1) 0 20 a0
theorem c233 {g : List (Nat × List Value)} (a0 : List Int) (a1 : Int) (a2 : Int → Int → Option Int) {R : List Int} {N0 : Nat} (hN0 : List.length a0 = N0) {ca2 : G} {ia2 : FuncId} {ka2 : List G} (ha2 : FnIs ca2 ia2 ka2) (Ka2 : Known Tryz.prog ia2) (Ha2 : ∀ (x0 : Int) (x1 : Int) (r : Int), a2 x0 x1 = some r → Con (EG g) ia2 ([G.int x0, G.int x1] ++ ka2) (G.int r)) (hA : 0 ≤ a1) (hB : a1 ≤ 12) (hR : s233 a0 a1 a2 = some R) : ConB (EG g) 245 [.osl 0 1 0 N0, .g (G.int a1), .g (ca2)] [(0, .arr 3 1 (List.map cInt a0))] (G.tup []) [(0, .arr 3 1 (List.map cInt R))] := by
 unfold s233 at hR;refine conB_of_aw Tryz.func245 rfl rfl rfl fun w0 M0 x => ?_;refine len_osl (f := cInt) (l := a0) 0 rfl fun hla0 => ?_;refine aw_seq ?_;refine aw_region [.p] ?_;refine sa rfl rfl ?_;refine st_nil ?_;refine aw_seq ?_;refine aw_region [.p, .p, .p] ?_;refine sm rfl rfl ?_;refine sa rfl rfl ?_;refine sa rfl rfl ?_;refine st_nil ?_;refine aw_seq ?_;refine aw_block ?_;refine aw_loop_g (γ := Nat × Int × Int × (List Int)) (fun g => ([(0, .osl 0 1 0 (N0)), (1, .g (G.int a1)), (2, .g (ca2)), (6, .g (G.int 20)), (7, .g (G.int g.2.1)), (8, .g (G.int g.2.2.1))], [(0, .arr 3 1 (List.map cInt g.2.2.2))])) (fun g => 0 < g.1 ∧ g.2.1 = 0 ∧ g.2.2.1 = 20 ∧ List.length g.2.2.2 = N0 ∧ s233_l1 a1 a2 g.1 g.2.1 g.2.2.1 g.2.2.2 = some R) (fun g => g.1) ⟨rfl, ((0) + 1, 0, 20, a0), ⟨rfl, rfl, rfl, rfl, rfl, rfl, trivial⟩, ⟨rfl, trivial⟩, rfl, ⟨Nat.lt_succ_self _, iD, iD, hN0, hR⟩, trivial⟩ ?_
 ·rintro ⟨k5, x1, x2, x3⟩ ⟨hk1, iv1_0, iv1_1, ln4, hR⟩;replace hk1 : 0 < k5 := hk1;replace hR : s233_l1 a1 a2 k5 x1 x2 x3 = some R := hR;replace iv1_0 : x1 = 0 := iv1_0;replace iv1_1 : x2 = 20 := iv1_1;replace ln4 : List.length x3 = N0 := ln4;obtain ⟨k5, rfl⟩ : ∃ m, k5 = m + 1 := ⟨k5 - 1, by omega⟩;rw [s233_l1] at hR;(try dsimp only at hR);refine aw_seq ?_;refine aw_seq ?_;refine aw_region [.p, .p, .p] ?_;refine sm rfl rfl ?_;refine sm rfl rfl ?_;refine su (eff_leq rfl rfl rfl) rfl ?_;refine st_nil ?_;refine aw_cond _ rfl (fun h1 => ?_) (fun h1 => ?_)
  ·(try simp only [bB] at h1)
   exfalso; omega
  ·replace h1 : (decide (x2 ≤ a1)) = false := h1;(try simp only [bB] at h1);refine aw_exit ?_;refine aw_seq ?_;obtain ⟨r6, br6, hR⟩ := bindO_inv hR;refine aw_region [.p, .p, .p, .p, .w] ?_;refine su (eff_moveO rfl rfl) rfl ?_;refine sm rfl rfl ?_;refine sm rfl rfl ?_;refine sm rfl rfl ?_;refine sw (eff_callB1 0 0 rfl K252 rfl (ConB.lend (c252 x3 x1 a1 a2 ln4 ha2 Ka2 Ha2 iA iA iA br6)) (at_cons rfl rfl (at_cons rfl rfl (at_cons rfl rfl (at_cons rfl rfl at_nil)))) rfl rfl rfl) rfl ?_;refine st_nil ?_;refine aw_block ?_;refine aw_loop_g (γ := Nat × Int) (fun g => ([(0, .osl 0 1 0 (N0)), (1, .g (G.int a1)), (2, .g (ca2)), (6, .g (G.int g.2))], [(0, .arr 3 1 (List.map cInt r6))])) (fun g => 0 < g.1 ∧ g.2 = 20 ∧ s233_l2 r6 g.1 g.2 = some R) (fun g => g.1) ⟨rfl, ((0) + 1, 20), ⟨rfl, rfl, rfl, rfl, trivial⟩, ⟨rfl, trivial⟩, rfl, ⟨Nat.lt_succ_self _, iD, hR⟩, trivial⟩ ?_
   ·rintro ⟨k8, x7⟩ ⟨hk2, iv2_0, hR⟩;replace hk2 : 0 < k8 := hk2;replace hR : s233_l2 r6 k8 x7 = some R := hR;replace iv2_0 : x7 = 20 := iv2_0;obtain ⟨k8, rfl⟩ : ∃ m, k8 = m + 1 := ⟨k8 - 1, by omega⟩;rw [s233_l2] at hR;(try dsimp only at hR);refine aw_seq ?_;refine aw_seq ?_;refine aw_region [.p, .p, .p] ?_;refine sm rfl rfl ?_;refine sm rfl rfl ?_;refine su (eff_lss rfl rfl rfl) rfl ?_;refine st_nil ?_;refine aw_cond _ rfl (fun h2 => ?_) (fun h2 => ?_)
    ·(try simp only [bB] at h2)
     exfalso; omega
    ·replace h2 : (decide (x7 < a1)) = false := h2;(try simp only [bB] at h2);refine aw_exit ?_;obtain rfl := Option.some.inj hR;show ResOk _ _ _ _ ∧ MemL _ _;exact ⟨res0 rfl, ⟨rfl, trivial⟩⟩
def s234_l2 (rec1 : Int → (List S151) → Option (List S151)) (a1 : Int) (a3 : S151 → S151 → Option Int) (x1 : Int) : Nat → Int → (List S151) → Option (List S151)
 | 0, _, _ => none
 | k8 + 1, x5, x6 => bindO (bif decide (a1 < x5) then ixO x6 x5 else some default) fun y9 => bindO (bif decide (a1 < x5) then ixO x6 (x5 - 1) else some default) fun y10 => bindO (bif decide (a1 < x5) then a3 y9 y10 else some default) fun r11 => (bif (decide (a1 < x5)) && (decide (r11 < 0)) then bindO (ixO x6 (x5 - 1)) fun y12 => bindO (ixO x6 x5) fun y13 => bindO (ixO x6 x5) fun y14 => bindO (ixO (List.set x6 (Int.toNat x5) y12) (x5 - 1)) fun y15 => s234_l2 rec1 a1 a3 x1 k8 (x5 - 1) (List.set (List.set x6 (Int.toNat x5) y12) (Int.toNat (x5 - 1)) y13) else rec1 (x1 + 1) x6)
def s234_l1 (a1 : Int) (a3 : S151 → S151 → Option Int) : Nat → Int → (List S151) → Option (List S151)
 | 0, x1, x2 => some x2
 | k4 + 1, x1, x2 => s234_l2 (fun z0_ z1_ => s234_l1 a1 a3 k4 z0_ z1_) a1 a3 x1 (((x1 - a1).toNat) + 1) x1 x2
def s234 (a0 : List S151) (a1 : Int) (a2 : Int) (a3 : S151 → S151 → Option Int) : Option (List S151) :=
 s234_l1 a1 a3 ((a2 - (a1 + 1)).toNat) (a1 + 1) a0
theorem c234 {g : List (Nat × List Value)} (a0 : List S151) (a1 : Int) (a2 : Int) (a3 : S151 → S151 → Option Int) {R : List S151} {N0 : Nat} (hN0 : List.length a0 = N0) {ca3 : G} {ia3 : FuncId} {ka3 : List G} (ha3 : FnIs ca3 ia3 ka3) (Ka3 : Known Tryz.prog ia3) (Ha3 : ∀ (x0 : S151) (x1 : S151) (r : Int), a3 x0 x1 = some r → Con (EG g) ia3 ([G.agg [G.str x0.Name, G.int x0.Moment, G.str x0.Kind], G.agg [G.str x1.Name, G.int x1.Moment, G.str x1.Kind]] ++ ka3) (G.int r)) (hA : 0 ≤ a1) (hA2 : a1 ≤ 1000000) (hB : a2 ≤ 1000000) (hR : s234 a0 a1 a2 a3 = some R) : ConB (EG g) 246 [.osl 0 3 0 N0, .g (G.int a1), .g (G.int a2), .g (ca3)] [(0, .arr 110 3 (List.map S151.c a0))] (G.tup []) [(0, .arr 110 3 (List.map S151.c R))] := by
 unfold s234 at hR;refine conB_of_aw Tryz.func246 rfl rfl rfl fun w0 M0 x => ?_;refine len_osl (f := S151.c) (l := a0) 0 rfl fun hla0 => ?_;refine aw_seq ?_;refine aw_region [.p, .p, .p] ?_;refine sm rfl rfl ?_;refine su (eff_add rfl rfl rfl iF) rfl ?_;refine sa rfl rfl ?_;refine st_nil ?_;refine aw_block ?_;refine aw_loop_g (γ := Nat × Int × (List S151)) (fun g => ([(0, .osl 0 3 0 (N0)), (1, .g (G.int a1)), (2, .g (G.int a2)), (3, .g (ca3)), (8, .g (G.int g.2.1))], [(0, .arr 110 3 (List.map S151.c g.2.2))])) (fun g => g.1 = (a2 - g.2.1).toNat ∧ (a1 + 1) ≤ g.2.1 ∧ List.length g.2.2 = N0 ∧ s234_l1 a1 a3 g.1 g.2.1 g.2.2 = some R) (fun g => g.1) ⟨rfl, ((a2 - (a1 + 1)).toNat, a1 + 1, a0), ⟨rfl, rfl, rfl, rfl, rfl, trivial⟩, ⟨rfl, trivial⟩, rfl, ⟨rfl, iD, hN0, hR⟩, trivial⟩ ?_
 ·rintro ⟨k4, x1, x2⟩ ⟨hk1, iv1_0, ln3, hR⟩;replace hk1 : k4 = (a2 - x1).toNat := hk1;replace hR : s234_l1 a1 a3 k4 x1 x2 = some R := hR;replace iv1_0 : (a1 + 1) ≤ x1 := iv1_0;replace ln3 : List.length x2 = N0 := ln3;refine aw_seq ?_;refine aw_seq ?_;refine aw_region [.p, .p, .p] ?_;refine sm rfl rfl ?_;refine sm rfl rfl ?_;refine su (eff_lss rfl rfl rfl) rfl ?_;refine st_nil ?_;refine aw_cond _ rfl (fun h1 => ?_) (fun h1 => ?_)
  ·replace h1 : (decide (x1 < a2)) = true := h1;replace h1 := decT h1;obtain ⟨k4, rfl⟩ : ∃ m, k4 = m + 1 := ⟨k4 - 1, by omega⟩;rw [s234_l1] at hR;(try dsimp only at hR);refine aw_skip ?_;refine aw_seq ?_;refine aw_block ?_;refine aw_seq ?_;refine aw_region [.p, .p] ?_;refine sm rfl rfl ?_;refine sa rfl rfl ?_;refine st_nil ?_;refine aw_block ?_;refine aw_loop_g (γ := Nat × Int × (List S151)) (fun g => ([(0, .osl 0 3 0 (N0)), (1, .g (G.int a1)), (2, .g (G.int a2)), (3, .g (ca3)), (8, .g (G.int x1)), (9, .g (G.int g.2.1))], [(0, .arr 110 3 (List.map S151.c g.2.2))])) (fun g => (g.2.1 - a1).toNat < g.1 ∧ a1 ≤ g.2.1 ∧ g.2.1 ≤ 1000000 ∧ List.length g.2.2 = N0 ∧ s234_l2 (fun z0_ z1_ => s234_l1 a1 a3 k4 z0_ z1_) a1 a3 x1 g.1 g.2.1 g.2.2 = some R) (fun g => g.1) ⟨rfl, (((x1 - a1).toNat) + 1, x1, x2), ⟨rfl, rfl, rfl, rfl, rfl, rfl, trivial⟩, ⟨rfl, trivial⟩, rfl, ⟨Nat.lt_succ_self _, iD, iD, ln3, hR⟩, trivial⟩ ?_
   ·rintro ⟨k8, x5, x6⟩ ⟨hk2, iv2_0, iv2_1, ln7, hR⟩;replace hk2 : (x5 - a1).toNat < k8 := hk2;replace hR : s234_l2 (fun z0_ z1_ => s234_l1 a1 a3 k4 z0_ z1_) a1 a3 x1 k8 x5 x6 = some R := hR;replace iv2_0 : a1 ≤ x5 := iv2_0;replace iv2_1 : x5 ≤ 1000000 := iv2_1;replace ln7 : List.length x6 = N0 := ln7;obtain ⟨k8, rfl⟩ : ∃ m, k8 = m + 1 := ⟨k8 - 1, by omega⟩;rw [s234_l2] at hR;(try dsimp only at hR);refine aw_seq ?_;refine aw_seq ?_;obtain ⟨y9, by9, hR⟩ := bindO_inv hR;obtain ⟨y10, by10, hR⟩ := bindO_inv hR;obtain ⟨r11, br11, hR⟩ := bindO_inv hR;refine aw_draw [.p, .p, .p, .p, .p, .p, .p, .p, .r, .p, .p, .p, .p, .r, .p, .p, .p] (by kernel_rfl) ?_;refine sm rfl rfl ?_;refine sm rfl rfl ?_;refine su (eff_gtr rfl rfl rfl) rfl ?_;refine sm rfl rfl ?_;refine sg rfl rfl (fun h => eff_moveg rfl rfl) rfl ?_;refine sg rfl rfl (fun h => eff_moveO rfl rfl) rfl ?_;refine sg rfl rfl (fun h => eff_moveg rfl rfl) rfl ?_;refine sg rfl rfl (fun h => eff_ixL rfl Tryz.underlying39 ty152 (gd h rfl) (gd h rfl) (ixO_nn (condT1 by9 h)) (Nat.lt_of_lt_of_eq (get_lt (ixO_get (condT1 by9 h))) ln7)) rfl ?_;refine st_gr rfl rfl rfl (gb_bool _ _) (fun h => eff_ldEA (f := S151.c) (l := x6) (a := y9) rfl ty152 (gd h rfl) rfl (ixO_get (condT1 by9 h))) rfl ?_;refine sg rfl rfl (fun h => eff_moveO rfl rfl) rfl ?_;refine sg rfl rfl (fun h => eff_moveg rfl rfl) rfl ?_;refine sg rfl rfl (fun h => eff_sub rfl (gd h rfl) rfl iF) rfl ?_;refine sg rfl rfl (fun h => eff_ixL rfl Tryz.underlying39 ty152 (gd h rfl) (gd h rfl) (ixO_nn (condT1 by10 h)) (Nat.lt_of_lt_of_eq (get_lt (ixO_get (condT1 by10 h))) ln7)) rfl ?_;refine st_gr rfl rfl rfl (gb_bool _ _) (fun h => eff_ldEA (f := S151.c) (l := x6) (a := y10) rfl ty152 (gd h rfl) rfl (ixO_get (condT1 by10 h))) rfl ?_;refine sg rfl rfl (fun h => eff_callf rfl ha3 Ka3 (gd h rfl) (Con.lend (Ha3 y9 y10 _ (condT1 br11 h))) (ag_cons (gd h rfl) (ag_cons (gd h rfl) ag_nil))) rfl ?_;refine sg rfl rfl (fun h => eff_lss rfl (gd h rfl) rfl) rfl ?_;refine su (eff_and rfl rfl rfl rfl) rfl ?_;refine st_nil ?_;refine aw_cond _ rfl (fun h3 => ?_) (fun h3 => ?_)
    ·replace h3 : ((decide (a1 < x5)) && (decide (r11 < 0))) = true := h3;replace hR := condT hR h3;(try simp only [bB] at h3);refine aw_skip ?_;refine aw_seq ?_;refine aw_block ?_;obtain ⟨y12, by12, hR⟩ := bindO_inv hR;obtain ⟨y13, by13, hR⟩ := bindO_inv hR;obtain ⟨y14, by14, hR⟩ := bindO_inv hR;obtain ⟨y15, by15, hR⟩ := bindO_inv hR;refine aw_draw [.p, .p, .p, .p, .p, .p, .p, .p, .p, .r, .p, .p, .p, .r, .p, .w, .p, .w] (by kernel_rfl) ?_;refine su (eff_moveO rfl rfl) rfl ?_;refine sm rfl rfl ?_;refine su (eff_moveO rfl rfl) rfl ?_;refine sm rfl rfl ?_;refine su (eff_sub rfl rfl rfl iF) rfl ?_;refine su (eff_moveO rfl rfl) rfl ?_;refine sm rfl rfl ?_;refine su (eff_sub rfl rfl rfl iF) rfl ?_;refine su (eff_ixL rfl Tryz.underlying39 ty152 rfl rfl (ixO_nn by12) (Nat.lt_of_lt_of_eq (get_lt (ixO_get by12)) ln7)) rfl ?_;refine sr (eff_ldEA (f := S151.c) (l := x6) (a := y12) rfl ty152 rfl rfl (ixO_get by12)) rfl ?_;refine su (eff_moveO rfl rfl) rfl ?_;refine sm rfl rfl ?_;refine su (eff_ixL rfl Tryz.underlying39 ty152 rfl rfl (ixO_nn by13) (Nat.lt_of_lt_of_eq (get_lt (ixO_get by13)) ln7)) rfl ?_;refine sr (eff_ldEA (f := S151.c) (l := x6) (a := y13) rfl ty152 rfl rfl (ixO_get by13)) rfl ?_;refine su (eff_ixL rfl Tryz.underlying39 ty152 rfl rfl (ixO_nn by14) (Nat.lt_of_lt_of_eq (get_lt (ixO_get by14)) ln7)) rfl ?_;refine st_wn rfl rfl (eff_setL (f := S151.c) (l := x6) (a' := y12) rfl ty152 rfl rfl rfl (Nat.lt_of_lt_of_eq (Nat.lt_of_lt_of_eq (get_lt (ixO_get by14)) ln7) (Eq.symm ln7)) rfl (fun _ => rfl)) ?_;refine su (eff_ixL rfl Tryz.underlying39 ty152 rfl rfl (ixO_nn by15) (Nat.lt_of_lt_of_eq (get_lt (ixO_get by15)) ((List.length_set ..).trans ln7))) rfl ?_;refine st_wn rfl rfl (eff_setL (f := S151.c) (l := List.set x6 (Int.toNat x5) y12) (a' := y13) rfl ty152 rfl rfl rfl (Nat.lt_of_lt_of_eq (Nat.lt_of_lt_of_eq (get_lt (ixO_get by15)) ((List.length_set ..).trans ln7)) (Eq.symm ((List.length_set ..).trans ln7))) rfl (fun _ => rfl)) ?_;refine st_nil ?_;refine aw_region [.p, .p, .p] ?_;refine sm rfl rfl ?_;refine su (eff_sub rfl rfl rfl iF) rfl ?_;refine sa rfl rfl ?_;refine st_nil ?_;exact ⟨rfl, (k8, x5 - 1, List.set (List.set x6 (Int.toNat x5) y12) (Int.toNat (x5 - 1)) y13), ⟨(by simp only [List.length_set]; rfl), rfl, rfl, rfl, rfl, rfl, trivial⟩, ⟨rfl, trivial⟩, rfl, ⟨iB, iB, iB, ((List.length_set ..).trans ((List.length_set ..).trans ln7)), hR⟩, by simp⟩
    ·replace h3 : ((decide (a1 < x5)) && (decide (r11 < 0))) = false := h3;replace hR := condF hR h3;(try simp only [bB] at h3);refine aw_exit ?_;refine aw_region [.p, .p, .p] ?_;refine sm rfl rfl ?_;refine su (eff_add rfl rfl rfl iG) rfl ?_;refine sa rfl rfl ?_;refine st_nil ?_;exact ⟨rfl, (k4, x1 + 1, x6), ⟨rfl, rfl, rfl, rfl, rfl, trivial⟩, ⟨rfl, trivial⟩, rfl, ⟨iB, iB, ln7, hR⟩, by simp⟩
  ·replace h1 : (decide (x1 < a2)) = false := h1;replace h1 := decF h1
   obtain rfl : k4 = 0 := by omega
   rw [s234_l1] at hR;refine aw_exit ?_;obtain rfl := Option.some.inj hR;show ResOk _ _ _ _ ∧ MemL _ _;exact ⟨res0 rfl, ⟨rfl, trivial⟩⟩
theorem len233 {a0 : List Int} {a1 : Int} {a2 : Int → Int → Option Int} {R : List Int} (h : s233 a0 a1 a2 = some R) : R.length = a0.length := by
 unfold s233 at h;rw [s233_l1] at h;obtain ⟨y1, h1, h⟩ := bindO_inv h;rw [s233_l2] at h
 cases h
 exact len252 h1
theorem len234_l2 (rec1 : Int → List S151 → Option (List S151)) (hrec : ∀ x l r, rec1 x l = some r → r.length = l.length) (a1 : Int) (a3 : S151 → S151 → Option Int) (x1 : Int) : ∀ (k : Nat) (x : Int) (l r : List S151), s234_l2 rec1 a1 a3 x1 k x l = some r → r.length = l.length
 | 0, _, _, _, h => by rw [s234_l2] at h; cases h
 | k + 1, x, l, r, h => by
  rw [s234_l2] at h;obtain ⟨y1, _, h⟩ := bindO_inv h;obtain ⟨y2, _, h⟩ := bindO_inv h;obtain ⟨y3, _, h⟩ := bindO_inv h
  cases hc : (decide (a1 < x) && decide (y3 < 0)) with
  | true =>
   have h := condT h hc;obtain ⟨y4, _, h⟩ := bindO_inv h;obtain ⟨y5, _, h⟩ := bindO_inv h;obtain ⟨y6, _, h⟩ := bindO_inv h;obtain ⟨y7, _, h⟩ := bindO_inv h;have := len234_l2 rec1 hrec a1 a3 x1 k _ _ _ h
   simpa using this
  | false => exact hrec _ _ _ (condF h hc)
theorem len234_l1 (a1 : Int) (a3 : S151 → S151 → Option Int) : ∀ (k : Nat) (x : Int) (l r : List S151), s234_l1 a1 a3 k x l = some r → r.length = l.length
 | 0, _, _, _, h => by rw [s234_l1] at h; cases h; rfl
 | k + 1, x, l, r, h => by
  rw [s234_l1] at h;exact len234_l2 _ (fun x l r h => len234_l1 a1 a3 k x l r h) a1 a3 x _ _ _ _ h
theorem len234 {a0 : List S151} {a1 a2 : Int} {a3 : S151 → S151 → Option Int} {R : List S151} (h : s234 a0 a1 a2 a3 = some R) : R.length = a0.length := len234_l1 _ _ _ _ _ _ h
end Go.Sim
set_option maxRecDepth 10000
namespace Go.Sim
open Go.Proofs
def s203 (a0 : List Int) (a1 : Int → Int → Option Int) : Option (List Int) :=
 bindO (s233 a0 (List.length a0 : Int) a1) fun r1 => some r1
theorem c203 {g : List (Nat × List Value)} (a0 : List Int) (a1 : Int → Int → Option Int) {R : List Int} {N0 : Nat} (hN0 : List.length a0 = N0) {ca1 : G} {ia1 : FuncId} {ka1 : List G} (ha1 : FnIs ca1 ia1 ka1) (Ka1 : Known Tryz.prog ia1) (Ha1 : ∀ (x0 : Int) (x1 : Int) (r : Int), a1 x0 x1 = some r → Con (EG g) ia1 ([G.int x0, G.int x1] ++ ka1) (G.int r)) (hB : (List.length a0 : Int) ≤ 12) (hR : s203 a0 a1 = some R) : ConB (EG g) 203 [.osl 0 1 0 N0, .g (ca1)] [(0, .arr 3 1 (List.map cInt a0))] (G.tup []) [(0, .arr 3 1 (List.map cInt R))] := by
 unfold s203 at hR;refine conB_of_aw Tryz.func203 rfl rfl rfl fun w0 M0 x => ?_;refine len_osl (f := cInt) (l := a0) 0 rfl fun hla0 => ?_;obtain ⟨r1, br1, hR⟩ := bindO_inv hR;refine aw_region [.p, .p, .p, .p, .w] ?_;refine su (eff_moveO rfl rfl) rfl ?_;refine su (eff_moveO rfl rfl) rfl ?_;refine su (eff_lenON hN0 rfl Tryz.underlying64 rfl) rfl ?_;refine sm rfl rfl ?_;refine sw (eff_callB1 0 0 rfl K233 rfl (ConB.lend (c233 a0 (List.length a0 : Int) a1 hN0 ha1 Ka1 Ha1 iA iA br1)) (at_cons rfl rfl (at_cons rfl rfl (at_cons rfl rfl at_nil))) rfl rfl rfl) rfl ?_;refine st_nil ?_;obtain rfl := Option.some.inj hR;show ResOk _ _ _ _ ∧ MemL _ _;exact ⟨res0 rfl, ⟨rfl, trivial⟩⟩
def s205_l1 (a0 : List S151) (a4 : S151 → S151 → Option Int) : Nat → Int → Int → Int → Bool → Bool → Option (List S151)
 | 0, _, _, _, _, _ => none
 | k6 + 1, x1, x2, x3, x4, x5 => bindO (s234 a0 x1 x2 a4) fun r7 => some r7
def s205 (a0 : List S151) (a1 : Int) (a2 : Int) (a3 : Int) (a4 : S151 → S151 → Option Int) : Option (List S151) :=
 s205_l1 a0 a4 ((0) + 1) a1 a2 a3 true true
theorem c205 {g : List (Nat × List Value)} (a0 : List S151) (a1 : Int) (a2 : Int) (a3 : Int) (a4 : S151 → S151 → Option Int) {R : List S151} {N0 : Nat} (hN0 : List.length a0 = N0) {ca4 : G} {ia4 : FuncId} {ka4 : List G} (ha4 : FnIs ca4 ia4 ka4) (Ka4 : Known Tryz.prog ia4) (Ha4 : ∀ (x0 : S151) (x1 : S151) (r : Int), a4 x0 x1 = some r → Con (EG g) ia4 ([G.agg [G.str x0.Name, G.int x0.Moment, G.str x0.Kind], G.agg [G.str x1.Name, G.int x1.Moment, G.str x1.Kind]] ++ ka4) (G.int r)) (hA : 0 ≤ a1) (hA2 : a1 ≤ 12) (hB0 : 0 ≤ a2) (hB : a2 ≤ 12) (hR : s205 a0 a1 a2 a3 a4 = some R) : ConB (EG g) 205 [.osl 0 3 0 N0, .g (G.int a1), .g (G.int a2), .g (G.int a3), .g (ca4)] [(0, .arr 110 3 (List.map S151.c a0))] (G.tup []) [(0, .arr 110 3 (List.map S151.c R))] := by
 unfold s205 at hR;refine conB_of_aw Tryz.func205 rfl rfl rfl fun w0 M0 x => ?_;refine len_osl (f := S151.c) (l := a0) 0 rfl fun hla0 => ?_;refine aw_seq ?_;refine aw_region [.p] ?_;refine sa rfl rfl ?_;refine st_nil ?_;refine aw_seq ?_;refine aw_region [.p] ?_;refine sa rfl rfl ?_;refine st_nil ?_;refine aw_block ?_;refine aw_loop_g (γ := Nat × Int × Int × Int × Bool × Bool) (fun g => ([(0, .osl 0 3 0 (N0)), (1, .g (G.int g.2.1)), (2, .g (G.int g.2.2.1)), (3, .g (G.int g.2.2.2.1)), (4, .g (ca4)), (10, .g (G.bool g.2.2.2.2.1)), (11, .g (G.bool g.2.2.2.2.2))], [(0, .arr 110 3 (List.map S151.c a0))])) (fun g => 0 < g.1 ∧ 0 ≤ g.2.1 ∧ g.2.1 ≤ 12 ∧ 0 ≤ g.2.2.1 ∧ g.2.2.1 ≤ 12 ∧ s205_l1 a0 a4 g.1 g.2.1 g.2.2.1 g.2.2.2.1 g.2.2.2.2.1 g.2.2.2.2.2 = some R) (fun g => g.1) ⟨rfl, ((0) + 1, a1, a2, a3, true, true), ⟨rfl, rfl, rfl, rfl, rfl, rfl, rfl, trivial⟩, ⟨rfl, trivial⟩, rfl, ⟨Nat.lt_succ_self _, iD, iD, iD, iD, hR⟩, trivial⟩ ?_
 ·rintro ⟨k6, x1, x2, x3, x4, x5⟩ ⟨hk1, iv1_0, iv1_1, iv1_2, iv1_3, hR⟩;replace hk1 : 0 < k6 := hk1;replace hR : s205_l1 a0 a4 k6 x1 x2 x3 x4 x5 = some R := hR;replace iv1_0 : 0 ≤ x1 := iv1_0;replace iv1_1 : x1 ≤ 12 := iv1_1;replace iv1_2 : 0 ≤ x2 := iv1_2;replace iv1_3 : x2 ≤ 12 := iv1_3;obtain ⟨k6, rfl⟩ : ∃ m, k6 = m + 1 := ⟨k6 - 1, by omega⟩;rw [s205_l1] at hR;(try dsimp only at hR);refine aw_block ?_;refine aw_seq ?_;refine aw_region [.p, .p, .p, .p] ?_;refine sm rfl rfl ?_;refine sm rfl rfl ?_;refine su (eff_sub rfl rfl rfl iF) rfl ?_;refine sa rfl rfl ?_;refine st_nil ?_;refine aw_seq ?_;refine aw_seq ?_;refine aw_region [.p, .p] ?_;refine sm rfl rfl ?_;refine su (eff_leq rfl rfl rfl) rfl ?_;refine st_nil ?_;refine aw_cond _ rfl (fun h1 => ?_) (fun h1 => ?_)
  ·replace h1 : (decide (x2 - x1 ≤ 12)) = true := h1;(try simp only [bB] at h1);refine aw_seq ?_;obtain ⟨r7, br7, hR⟩ := bindO_inv hR;refine aw_region [.p, .p, .p, .p, .w] ?_;refine su (eff_moveO rfl rfl) rfl ?_;refine sm rfl rfl ?_;refine sm rfl rfl ?_;refine sm rfl rfl ?_;refine sw (eff_callB1 0 0 rfl K234 rfl (ConB.lend (c234 a0 x1 x2 a4 hN0 ha4 Ka4 Ha4 iA iA iA br7)) (at_cons rfl rfl (at_cons rfl rfl (at_cons rfl rfl (at_cons rfl rfl at_nil)))) rfl rfl rfl) rfl ?_;refine st_nil ?_;refine aw_ret ?_;obtain rfl := Option.some.inj hR;show ResOk _ _ _ _ ∧ MemL _ _;exact ⟨res0 rfl, ⟨rfl, trivial⟩⟩
  ·(try simp only [bB] at h1)
   exfalso; omega
theorem len203 {a0 : List Int} {a1 : Int → Int → Option Int} {R : List Int} (h : s203 a0 a1 = some R) : R.length = a0.length := by
 unfold s203 at h;obtain ⟨y1, h1, h⟩ := bindO_inv h
 cases h
 exact len233 h1
theorem len205 {a0 : List S151} {a1 a2 a3 : Int} {a4 : S151 → S151 → Option Int} {R : List S151} (h : s205 a0 a1 a2 a3 a4 = some R) : R.length = a0.length := by
 unfold s205 at h;rw [s205_l1] at h;obtain ⟨y1, h1, h⟩ := bindO_inv h
 cases h
 exact len234 h1
end Go.Sim
set_option maxRecDepth 10000
namespace Go.Sim
open Go.Proofs
def s174 (a0 : List S151) (a1 : S151 → S151 → Option Int) : Option (List S151) :=
 bindO (s205 a0 0 (List.length a0 : Int) (lenU (List.length a0 : Int)) a1) fun r1 => some r1
theorem c174 (a0 : List S151) (a1 : S151 → S151 → Option Int) {R : List S151} {N0 : Nat} (hN0 : List.length a0 = N0) {ca1 : G} {ia1 : FuncId} {ka1 : List G} (ha1 : FnIs ca1 ia1 ka1) (Ka1 : Known Tryz.prog ia1) (Ha1 : ∀ (x0 : S151) (x1 : S151) (r : Int), a1 x0 x1 = some r → Con (EG glT) ia1 ([G.agg [G.str x0.Name, G.int x0.Moment, G.str x0.Kind], G.agg [G.str x1.Name, G.int x1.Moment, G.str x1.Kind]] ++ ka1) (G.int r)) (hB : (List.length a0 : Int) ≤ 12) (hR : s174 a0 a1 = some R) : ConB (EG glT) 150 [.osl 0 3 0 N0, .g (ca1)] [(0, .arr 110 3 (List.map S151.c a0))] (G.tup []) [(0, .arr 110 3 (List.map S151.c R))] := by
 unfold s174 at hR;refine conB_of_aw Tryz.func150 rfl rfl rfl fun w0 M0 x => ?_;refine len_osl (f := S151.c) (l := a0) 0 rfl fun hla0 => ?_;refine aw_seq ?_;refine aw_region [.p, .p, .p] ?_;refine su (eff_moveO rfl rfl) rfl ?_;refine su (eff_lenON hN0 rfl Tryz.underlying39 rfl) rfl ?_;refine sa rfl rfl ?_;refine st_nil ?_;obtain ⟨r1, br1, hR⟩ := bindO_inv hR;refine aw_region [.p, .p, .p, .p, .p, .p, .w] ?_;refine su (eff_moveO rfl rfl) rfl ?_;refine sm rfl rfl ?_;refine sm rfl rfl ?_;refine su (eff_conv rfl Tryz.underlying3 Tryz.underlying255 rfl) rfl ?_;refine su (eff_call rfl K182 rfl (Con.lend (c182w (List.length a0 : Int) (by omega))) (ag_cons rfl ag_nil)) rfl ?_;refine sm rfl rfl ?_;refine sw (eff_callB1 0 0 rfl K205 rfl (ConB.lend (c205 a0 0 (List.length a0 : Int) (lenU (List.length a0 : Int)) a1 hN0 ha1 Ka1 Ha1 iA iA iA iA br1)) (at_cons rfl rfl (at_cons rfl rfl (at_cons rfl rfl (at_cons rfl rfl (at_cons rfl rfl at_nil))))) rfl rfl rfl) rfl ?_;refine st_nil ?_;obtain rfl := Option.some.inj hR;show ResOk _ _ _ _ ∧ MemL _ _;exact ⟨res0 rfl, ⟨rfl, trivial⟩⟩
theorem len174 {a0 : List S151} {a1 : S151 → S151 → Option Int} {R : List S151} (h : s174 a0 a1 = some R) : R.length = a0.length := by
 unfold s174 at h;obtain ⟨y1, h1, h⟩ := bindO_inv h
 cases h
 exact len205 h1
end Go.Sim
set_option maxRecDepth 10000
namespace Go.Sim
open Go.Proofs
def s204 (a0 : Int) (a1 : Int) (a2 : List S151) : Option Int :=
 bindO (ixO a2 a0) fun y1 => bindO (ixO a2 a1) fun y2 => some (s167 y1.Moment y2.Moment)
theorem c204 {g : List (Nat × List Value)} (a0 : Int) (a1 : Int) (a2 : List S151) {R : Int}   (hR : s204 a0 a1 a2 = some R) : Con (EG g) 204 [G.int a0, G.int a1, G.ref [G.sl 3 (List.map S151.c a2)]] (G.int R) := by
 unfold s204 at hR;refine con_of_aw Tryz.func204 rfl rfl fun w0 M0 => ?_;refine aw_seq ?_;refine aw_region [.p] ?_;refine sa rfl rfl ?_;refine st_nil ?_;refine aw_seq ?_;obtain ⟨y1, by1, hR⟩ := bindO_inv hR;obtain ⟨y2, by2, hR⟩ := bindO_inv hR;refine aw_draw [.p, .p, .p, .p, .p, .p, .p, .p, .p, .p, .p, .p] (by kernel_rfl) ?_;refine su (eff_load rfl ty25 rfl) rfl ?_;refine sm rfl rfl ?_;refine su (eff_ix (f := S151.c) (l := a2) (a := y1) rfl Tryz.underlying39 ty152 rfl rfl (ixO_nn by1) (ixO_get by1)) rfl ?_;refine su (eff_fieldAddr rfl fl152_1 rfl) rfl ?_;refine su (eff_load rfl ty3 rfl) rfl ?_;refine su (eff_load rfl ty25 rfl) rfl ?_;refine sm rfl rfl ?_;refine su (eff_ix (f := S151.c) (l := a2) (a := y2) rfl Tryz.underlying39 ty152 rfl rfl (ixO_nn by2) (ixO_get by2)) rfl ?_;refine su (eff_fieldAddr rfl fl152_1 rfl) rfl ?_;refine su (eff_load rfl ty3 rfl) rfl ?_;refine su (eff_call rfl K167 rfl (c167 y1.Moment y2.Moment) (ag_cons rfl (ag_cons rfl ag_nil))) rfl ?_;refine sa rfl rfl ?_;refine st_nil ?_;refine aw_ret ?_;obtain rfl := Option.some.inj hR;exact res_c rfl (rv_g rfl)
def s168_l1 (a0 : List S151) : List S151 → Nat → (List Int) → Option (List Int)
 | [], k4, x2 => bindO (s203 x2 (fun x0 x1 => s204 x0 x1 a0)) fun r7 => some r7
 | y5 :: t6, k4, x2 => bindO (ixO x2 ((k4 : Nat) : Int)) fun y8 => s168_l1 a0 t6 (k4 + 1) (List.set x2 (Int.toNat ((k4 : Nat) : Int)) ((k4 : Nat) : Int))
def s168 (a0 : List S151) : Option (List Int) :=
 s168_l1 a0 a0 0 (List.replicate (List.length a0) 0)
theorem n168 {g : List (Nat × List Value)} (a0 : List S151) {R : List Int}  (hb0 : a0.length ≤ 12) (hR : s168 a0 = some R) : ConN (EG g) 144 [G.sl 3 (List.map S151.c a0)] 3 1 (List.map cInt R) := by
 unfold s168 at hR;refine conN_of_aw Tryz.func144 rfl rfl fun w0 M0 => ?_;refine len_sl (f := S151.c) (l := a0) 0 rfl fun hla0 => ?_;refine aw_seq ?_;refine aw_region [.p, .w] ?_;refine su (eff_box rfl rfl) rfl ?_;refine sw (eff_nilL 2 3 1 rfl rfl rfl) rfl ?_;refine st_nil ?_;refine aw_seq ?_;refine aw_region [.p, .p, .w, .p] ?_;refine su (eff_load rfl ty25 rfl) rfl ?_;refine su (eff_lenM (f := S151.c) (l := a0) rfl Tryz.underlying39 rfl) rfl ?_;refine sw (eff_makeS (f := cInt) (z := 0) 7 rfl mk82 rfl rfl rfl (by first | exact Int.le_refl _ | omega) (by first | decide | omega) rfl rfl rfl) rfl ?_;refine su (eff_assignO rfl rfl) rfl ?_;refine st_nil ?_;refine aw_seq ?_;refine aw_seq ?_;refine aw_region [.p, .p, .p] ?_;refine su (eff_load rfl ty25 rfl) rfl ?_;refine su (eff_lenM (f := S151.c) (l := a0) rfl Tryz.underlying39 rfl) rfl ?_;refine sm rfl rfl ?_;refine st_nil ?_;refine aw_block ?_;refine aw_loop_g (γ := Nat × (List S151) × (List Int)) (fun g => ([(1, .g (G.ref [G.sl 3 (List.map S151.c a0)])), (3, .osl 7 1 0 (List.length a0)), (9, .g (G.int (List.length a0 : Int))), (10, .g (G.int ((g.1 : Nat) : Int)))], [(7, .arr 3 1 (List.map cInt g.2.2))])) (fun g => List.length g.2.2 = List.length a0 ∧ a0.drop g.1 = g.2.1 ∧ s168_l1 a0 g.2.1 g.1 g.2.2 = some R) (fun g => List.length g.2.1) ⟨rfl, (0, a0, List.replicate (List.length a0) 0), ⟨rfl, rfl, rfl, rfl, trivial⟩, ⟨rfl, trivial⟩, rfl, ⟨List.length_replicate, rfl, hR⟩, trivial⟩ ?_
 ·rintro ⟨k4, t6, x2⟩ ⟨ln3, hd, hR⟩;replace hd : a0.drop k4 = t6 := hd;replace hR : s168_l1 a0 t6 k4 x2 = some R := hR;replace ln3 : List.length x2 = List.length a0 := ln3;refine aw_seq ?_;refine aw_region [.p] ?_;refine su (eff_lss rfl rfl rfl) rfl ?_;refine st_nil ?_;refine aw_seq ?_;refine aw_cond _ rfl (fun h1 => ?_) (fun h1 => ?_)
  ·replace h1 : (decide (((k4 : Nat) : Int) < (List.length a0 : Int))) = true := h1;obtain ⟨y5, t6, rfl, hx1, hd⟩ := drop_cons hd (decT h1);replace h1 := decT h1;rw [s168_l1] at hR;(try dsimp only at hR);refine aw_skip ?_;refine aw_seq ?_;refine aw_block ?_;refine aw_seq ?_;refine aw_region [.p, .p] ?_;refine sm rfl rfl ?_;refine sa rfl rfl ?_;refine st_nil ?_;obtain ⟨y8, by8, hR⟩ := bindO_inv hR;refine aw_region [.p, .p, .p, .p, .w] ?_;refine su (eff_moveO rfl rfl) rfl ?_;refine sm rfl rfl ?_;refine sm rfl rfl ?_;refine su (eff_ixL rfl Tryz.underlying64 ty3 rfl rfl (ixO_nn by8) (Nat.lt_of_lt_of_eq (get_lt (ixO_get by8)) ln3)) rfl ?_;refine st_wn rfl rfl (eff_setL (f := cInt) (l := x2) (a' := ((k4 : Nat) : Int)) rfl ty3 rfl rfl rfl (Nat.lt_of_lt_of_eq (Nat.lt_of_lt_of_eq (get_lt (ixO_get by8)) ln3) (Eq.symm ln3)) rfl (fun _ => rfl)) ?_;refine st_nil ?_;refine aw_region [.p, .p] ?_;refine su (eff_add rfl rfl rfl iE) rfl ?_;refine sm rfl rfl ?_;refine st_nil ?_;exact ⟨rfl, (k4 + 1, t6, List.set x2 (Int.toNat ((k4 : Nat) : Int)) ((k4 : Nat) : Int)), ⟨rfl, rfl, rfl, rfl, trivial⟩, ⟨rfl, trivial⟩, rfl, ⟨((List.length_set ..).trans ln3), hd, hR⟩, by simp⟩
  ·replace h1 : (decide (((k4 : Nat) : Int) < (List.length a0 : Int))) = false := h1;obtain rfl := drop_nil hd (decF h1);rw [s168_l1] at hR;refine aw_exit ?_;refine aw_seq ?_;obtain ⟨r7, br7, hR⟩ := bindO_inv hR;refine aw_region [.p, .p, .w] ?_;refine su (eff_moveO rfl rfl) rfl ?_;refine su (eff_makeF rfl rfl rfl) rfl ?_;refine sw (eff_callB1 0 7 rfl K203 rfl (c203 x2 (fun x0 x1 => s204 x0 x1 a0) ln3 fnis_fn K204 (fun x0 x1 r_ h_ => c204 x0 x1 a0 h_) iA br7) (at_cons rfl rfl (at_cons rfl rfl at_nil)) rfl rfl rfl) rfl ?_;refine st_nil ?_;refine aw_seq ?_;refine aw_region [.p, .p] ?_;refine su (eff_moveO rfl rfl) rfl ?_;refine su (eff_assignO rfl rfl) rfl ?_;refine st_nil ?_;refine aw_ret ?_;obtain rfl := Option.some.inj hR;exact doneN_own rfl rfl rfl ((List.length_map ..).trans ((len203 br7).trans ln3))
theorem len168_l (a0 : List S151) : ∀ (l : List S151) (k : Nat) (x r : List Int), s168_l1 a0 l k x = some r → r.length = x.length
 | [], k, x, r, h => by
  rw [s168_l1] at h;obtain ⟨y, h1, h⟩ := bindO_inv h
  cases h
  exact len203 h1
 | y :: l, k, x, r, h => by
  rw [s168_l1] at h;obtain ⟨z, h1, h⟩ := bindO_inv h;have := len168_l a0 l _ _ _ h
  simpa using this
theorem len168 {a0 : List S151} {r : List Int} (h : s168 a0 = some r) : r.length = a0.length := by
 have := len168_l a0 _ _ _ _ h
 simpa using this
end Go.Sim
set_option maxRecDepth 10000
namespace Go.Sim
open Go.Proofs
def s142 (a0 : S23) (a1 : S151) (a2 : S151) : Bool :=
 ((eqAnd [decide (a2.Name = a1.Name), decide (a2.Moment = a2.Moment), decide (a2.Kind = a1.Kind)]) && (decide (IntKind.i64.wrap (a1.Moment - a0.Before) ≤ a2.Moment))) && (decide (a2.Moment ≤ IntKind.i64.wrap (a1.Moment + a0.After)))
theorem c142 {g : List (Nat × List Value)} (a0 : S23) (a1 : S151) (a2 : S151)    : Con (EG g) 145 [G.agg [G.int a0.Before, G.int a0.After, G.int a0.Notice, G.int a0.Share, G.sl 1 (List.map cStr a0.Causes), G.int a0.Off, G.int a0.Run], G.agg [G.str a1.Name, G.int a1.Moment, G.str a1.Kind], G.agg [G.str a2.Name, G.int a2.Moment, G.str a2.Kind]] (G.bool (s142 a0 a1 a2)) := by
 generalize hR : s142 a0 a1 a2 = R;unfold s142 at hR;refine con_of_aw Tryz.func145 rfl rfl fun w0 M0 => ?_;refine aw_seq ?_;refine aw_region [.p, .p, .p, .p] ?_;refine su (eff_box rfl rfl) rfl ?_;refine su (eff_box rfl rfl) rfl ?_;refine su (eff_box rfl rfl) rfl ?_;refine sa rfl rfl ?_;refine st_nil ?_;refine aw_seq ?_;refine aw_region [.p, .p, .p, .p, .p, .p, .p, .w, .w] ?_;refine su (eff_fieldAddr rfl fl152_0 rfl) rfl ?_;refine su (eff_load rfl ty9 rfl) rfl ?_;refine su (eff_fieldAddr rfl fl152_1 rfl) rfl ?_;refine su (eff_load rfl ty3 rfl) rfl ?_;refine su (eff_fieldAddr rfl fl152_2 rfl) rfl ?_;refine su (eff_load rfl ty9 rfl) rfl ?_;refine su (eff_build rfl z152 rfl pl152 (pb_cons rfl (pb_cons rfl (pb_cons rfl pb_nil))) rfl) rfl ?_;refine sw (eff_alloc 7 rfl z152 rfl rfl) rfl ?_;refine st_wn rfl rfl (eff_store (tv := .g (G.agg [G.str a1.Name, G.int a2.Moment, G.str a1.Kind])) rfl ty152 rfl rfl rfl rfl rfl) ?_;refine st_nil ?_;refine aw_seq ?_;refine aw_region [.p, .r, .p, .p, .p, .p, .p, .p, .p, .p, .p, .p, .p, .p, .p, .p, .p, .p, .p, .p, .p, .p, .p, .p] ?_;refine su (eff_loadA rfl ty152 rfl rfl rfl) rfl ?_;refine sr (eff_loadOA rfl ty152 rfl rfl rfl rfl) rfl ?_;refine su (eff_aeql [.string a2.Name, .int .i64 a2.Moment, .string a2.Kind] [.string a1.Name, .int .i64 a2.Moment, .string a1.Kind] rfl flat152 rfl rfl rfl rfl rfl) rfl ?_;refine sm rfl rfl ?_;refine sg rfl rfl (fun h => eff_fieldAddr rfl fl152_1 rfl) rfl ?_;refine sg rfl rfl (fun h => eff_load rfl ty3 (gd h rfl)) rfl ?_;refine sg rfl rfl (fun h => eff_fieldAddr rfl fl152_1 rfl) rfl ?_;refine sg rfl rfl (fun h => eff_load rfl ty3 (gd h rfl)) rfl ?_;refine sg rfl rfl (fun h => eff_fieldAddr rfl fl24_0 rfl) rfl ?_;refine sg rfl rfl (fun h => eff_load rfl ty3 (gd h rfl)) rfl ?_;refine sg rfl rfl (fun h => eff_subw rfl (gd h rfl) (gd h rfl)) rfl ?_;refine sg rfl rfl (fun h => eff_geq rfl (gd h rfl) (gd h rfl)) rfl ?_;refine su (eff_and rfl rfl rfl rfl) rfl ?_;refine sm rfl rfl ?_;refine sg rfl rfl (fun h => eff_fieldAddr rfl fl152_1 rfl) rfl ?_;refine sg rfl rfl (fun h => eff_load rfl ty3 (gd h rfl)) rfl ?_;refine sg rfl rfl (fun h => eff_fieldAddr rfl fl152_1 rfl) rfl ?_;refine sg rfl rfl (fun h => eff_load rfl ty3 (gd h rfl)) rfl ?_;refine sg rfl rfl (fun h => eff_fieldAddr rfl fl24_1 rfl) rfl ?_;refine sg rfl rfl (fun h => eff_load rfl ty3 (gd h rfl)) rfl ?_;refine sg rfl rfl (fun h => eff_addw rfl (gd h rfl) (gd h rfl)) rfl ?_;refine sg rfl rfl (fun h => eff_leq rfl (gd h rfl) (gd h rfl)) rfl ?_;refine su (eff_and rfl rfl rfl rfl) rfl ?_;refine sa rfl rfl ?_;refine st_nil ?_;refine aw_ret ?_;subst hR;exact res_c rfl (rv_g rfl)
def s115_j1 (rec1 : Nat → (List S154) → (List (Int × Bool)) → Option (List S154)) (k6 : Nat) (x9 : List S154) (x10 : List (Int × Bool)) : Option (List S154) :=
 rec1 (k6 + 1) x9 x10
def s115_l2 (rec1 : Nat → (List S154) → (List (Int × Bool)) → Option (List S154)) (a0 : S23) (a1 : List S151) (a2 : List S151) (x3 : List S154) (x5 : List (Int × Bool)) (k6 : Nat) (y7 : Int) : List Int → Nat → Option (List S154)
 | [], k12 => s115_j1 rec1 k6 x3 x5
 | y13 :: t14, k12 => bindO (bif !(mgetD x5 y13 false) then ixO a1 y7 else some default) fun y15 => bindO (bif !(mgetD x5 y13 false) then ixO a2 y13 else some default) fun y16 => (bif (!(mgetD x5 y13 false)) && (s142 a0 y15 y16) then s115_j1 rec1 k6 (x3 ++ [(S154.mk y7 y13)]) (mset x5 y13 true) else s115_l2 rec1 a0 a1 a2 x3 x5 k6 y7 t14 (k12 + 1))
def s115_l1 (a0 : S23) (a1 : List S151) (a2 : List S151) (r1 : List Int) : List Int → Nat → (List S154) → (List (Int × Bool)) → Option (List S154)
 | [], k6, x3, x5 => some x3
 | y7 :: t8, k6, x3, x5 => s115_l2 (fun k_ z0_ z1_ => s115_l1 a0 a1 a2 r1 t8 k_ z0_ z1_) a0 a1 a2 x3 x5 k6 y7 r1 0
def s115 (a0 : S23) (a1 : List S151) (a2 : List S151) : Option (List S154) :=
 bindO (s168 a2) fun r1 => bindO (s168 a1) fun r2 => s115_l1 a0 a1 a2 r1 r2 0 [] []
end Go.Sim
set_option maxRecDepth 10000
namespace Go.Sim
open Go.Proofs
def s83_l1 (a1 : List Int) : List Int → Nat → Option Bool
 | [], k2 => some true
 | y3 :: t4, k2 => bindO (ixO a1 ((k2 : Nat) : Int)) fun y5 => (bif decide (y3 ≠ y5) then some false else s83_l1 a1 t4 (k2 + 1))
def s83 (a0 : List Int) (a1 : List Int) : Option Bool :=
 (bif decide ((List.length a0 : Int) ≠ (List.length a1 : Int)) then some false else s83_l1 a1 a0 0)
theorem c83 {g : List (Nat × List Value)} (a0 : List Int) (a1 : List Int) {R : Bool}   (hR : s83 a0 a1 = some R) : Con (EG g) 17 [G.sl 1 (List.map cInt a0), G.sl 1 (List.map cInt a1)] (G.bool R) := by
 unfold s83 at hR;refine con_of_aw Tryz.func17 rfl rfl fun w0 M0 => ?_;refine len_sl (f := cInt) (l := a0) 0 rfl fun hla0 => ?_;refine len_sl (f := cInt) (l := a1) 1 rfl fun hla1 => ?_;refine aw_seq ?_;refine aw_region [.p] ?_;refine sa rfl rfl ?_;refine st_nil ?_;refine aw_seq ?_;refine aw_seq ?_;refine aw_region [.p, .p, .p, .p, .p] ?_;refine sm rfl rfl ?_;refine su (eff_lenM (f := cInt) (l := a0) rfl Tryz.underlying64 rfl) rfl ?_;refine sm rfl rfl ?_;refine su (eff_lenM (f := cInt) (l := a1) rfl Tryz.underlying64 rfl) rfl ?_;refine su (eff_neq rfl rfl rfl) rfl ?_;refine st_nil ?_;refine aw_cond _ rfl (fun h1 => ?_) (fun h1 => ?_)
 ·replace h1 : (decide ((List.length a0 : Int) ≠ (List.length a1 : Int))) = true := h1;replace hR := condT hR h1;(try simp only [bB] at h1);refine aw_seq ?_;refine aw_region [.p] ?_;refine sa rfl rfl ?_;refine st_nil ?_;refine aw_ret ?_;obtain rfl := Option.some.inj hR;exact res_c rfl (rv_g rfl)
 ·replace h1 : (decide ((List.length a0 : Int) ≠ (List.length a1 : Int))) = false := h1;replace hR := condF hR h1;(try simp only [bB] at h1);refine aw_skip ?_;refine aw_seq ?_;refine aw_seq ?_;refine aw_region [.p] ?_;refine sa rfl rfl ?_;refine st_nil ?_;refine aw_block ?_;refine aw_loop_g (γ := Nat × (List Int)) (fun g => ([(0, .g (G.sl 1 (List.map cInt a0))), (1, .g (G.sl 1 (List.map cInt a1))), (5, .g (G.int ((g.1 : Nat) : Int)))], [])) (fun g => a0.drop g.1 = g.2 ∧ s83_l1 a1 g.2 g.1 = some R) (fun g => List.length g.2) ⟨rfl, (0, a0), ⟨rfl, rfl, rfl, trivial⟩, trivial, rfl, ⟨rfl, hR⟩, trivial⟩ ?_
  ·rintro ⟨k2, t4⟩ ⟨hd, hR⟩;replace hd : a0.drop k2 = t4 := hd;replace hR : s83_l1 a1 t4 k2 = some R := hR;refine aw_seq ?_;refine aw_seq ?_;refine aw_region [.p, .p, .p, .p] ?_;refine sm rfl rfl ?_;refine sm rfl rfl ?_;refine su (eff_lenM (f := cInt) (l := a0) rfl Tryz.underlying64 rfl) rfl ?_;refine su (eff_lss rfl rfl rfl) rfl ?_;refine st_nil ?_;refine len_sl (f := cInt) (l := a0) 0 rfl fun hlz1 => ?_;refine aw_cond _ rfl (fun h2 => ?_) (fun h2 => ?_)
   ·replace h2 : (decide (((k2 : Nat) : Int) < (List.length a0 : Int))) = true := h2;obtain ⟨y3, t4, rfl, hx1, hd⟩ := drop_cons hd (decT h2);replace h2 := decT h2;rw [s83_l1] at hR;(try dsimp only at hR);refine aw_skip ?_;refine aw_seq ?_;refine aw_block ?_;refine aw_seq ?_;obtain ⟨y5, by5, hR⟩ := bindO_inv hR;refine aw_draw [.p, .p, .p, .p, .p, .p, .p, .p, .p] (by kernel_rfl) ?_;refine sm rfl rfl ?_;refine sm rfl rfl ?_;refine su (eff_ix (f := cInt) (l := a0) (a := y3) rfl Tryz.underlying64 ty3 rfl rfl (Int.natCast_nonneg _) hx1) rfl ?_;refine su (eff_load rfl ty3 rfl) rfl ?_;refine sm rfl rfl ?_;refine sm rfl rfl ?_;refine su (eff_ix (f := cInt) (l := a1) (a := y5) rfl Tryz.underlying64 ty3 rfl rfl (ixO_nn by5) (ixO_get by5)) rfl ?_;refine su (eff_load rfl ty3 rfl) rfl ?_;refine su (eff_neq rfl rfl rfl) rfl ?_;refine st_nil ?_;refine aw_cond _ rfl (fun h4 => ?_) (fun h4 => ?_)
    ·replace h4 : (decide (y3 ≠ y5)) = true := h4;replace hR := condT hR h4;(try simp only [bB] at h4);refine aw_seq ?_;refine aw_region [.p] ?_;refine sa rfl rfl ?_;refine st_nil ?_;refine aw_ret ?_;obtain rfl := Option.some.inj hR;exact res_c rfl (rv_g rfl)
    ·replace h4 : (decide (y3 ≠ y5)) = false := h4;replace hR := condF hR h4;(try simp only [bB] at h4);refine aw_skip ?_;refine aw_region [.p, .p, .p] ?_;refine sm rfl rfl ?_;refine su (eff_add rfl rfl rfl iE) rfl ?_;refine sa rfl rfl ?_;refine st_nil ?_;exact ⟨rfl, (k2 + 1, t4), ⟨rfl, rfl, rfl, trivial⟩, trivial, rfl, ⟨hd, hR⟩, by simp⟩
   ·replace h2 : (decide (((k2 : Nat) : Int) < (List.length a0 : Int))) = false := h2;obtain rfl := drop_nil hd (decF h2);rw [s83_l1] at hR;refine aw_exit ?_;refine aw_seq ?_;refine aw_region [.p] ?_;refine sa rfl rfl ?_;refine st_nil ?_;refine aw_ret ?_;obtain rfl := Option.some.inj hR;exact res_c rfl (rv_g rfl)
theorem s84_all {l : List Int} (h : s84 l = 0) : ∀ x ∈ l, x = 0 := by
 have key : ∀ (l : List Int) (k : Nat), s84_l1 l k = 0 → ∀ x ∈ l, x = 0 := by
  intro l
  induction l with
  | nil => intro k _ x hx; cases hx
  | cons y l ih =>
   intro k h x hx;rw [s84_l1] at h
   by_cases hy : y = 0
   ·subst hy
    simp at h
    rcases List.mem_cons.1 hx with rfl | hx
    ·rfl
    ·exact ih _ h x hx
   ·simp [hy] at h
 exact key l 0 h
end Go.Sim
set_option maxRecDepth 10000
namespace Go.Sim
open Go.Proofs
def s183 (a0 : ByteArray) : Bool :=
 !decide (a0 = a0)
theorem c183 {g : List (Nat × List Value)} (a0 : ByteArray)    : Con (EG g) 206 [G.str a0] (G.bool (s183 a0)) := by
 generalize hR : s183 a0 = R;unfold s183 at hR;refine con_of_aw Tryz.func206 rfl rfl fun w0 M0 => ?_;refine aw_seq ?_;refine aw_region [.p] ?_;refine sa rfl rfl ?_;refine st_nil ?_;refine aw_seq ?_;refine aw_region [.p, .p, .p, .p] ?_;refine sm rfl rfl ?_;refine sm rfl rfl ?_;refine su (eff_sne rfl rfl rfl) rfl ?_;refine sa rfl rfl ?_;refine st_nil ?_;refine aw_ret ?_;subst hR;exact res_c rfl (rv_g rfl)
def s133 (a0 : ByteArray) (a1 : ByteArray) : Int :=
 (bif (s183 a0) then (bif (s183 a1) then 0 else (-1)) else (bif (s183 a1) then 1 else (bif strLt a0 a1 then (-1) else (bif !(strLt a0 a1 || decide (a0 = a1)) then 1 else 0))))
theorem c133 {g : List (Nat × List Value)} (a0 : ByteArray) (a1 : ByteArray)    : Con (EG g) 152 [G.str a0, G.str a1] (G.int (s133 a0 a1)) := by
 generalize hR : s133 a0 a1 = R;unfold s133 at hR;refine con_of_aw Tryz.func152 rfl rfl fun w0 M0 => ?_;refine aw_seq ?_;refine aw_region [.p] ?_;refine sa rfl rfl ?_;refine st_nil ?_;refine aw_seq ?_;refine aw_region [.p, .p, .p] ?_;refine sm rfl rfl ?_;refine su (eff_call rfl K183 rfl (c183 a0) (ag_cons rfl ag_nil)) rfl ?_;refine sa rfl rfl ?_;refine st_nil ?_;refine aw_seq ?_;refine aw_region [.p, .p, .p] ?_;refine sm rfl rfl ?_;refine su (eff_call rfl K183 rfl (c183 a1) (ag_cons rfl ag_nil)) rfl ?_;refine sa rfl rfl ?_;refine st_nil ?_;refine aw_seq ?_;refine aw_seq ?_;refine aw_region [.p] ?_;refine sm rfl rfl ?_;refine st_nil ?_;refine aw_cond _ rfl (fun h1 => ?_) (fun h1 => ?_)
 ·replace h1 : ((s183 a0)) = true := h1;replace hR := condT hR h1;(try simp only [bB] at h1);refine aw_seq ?_;refine aw_seq ?_;refine aw_region [.p] ?_;refine sm rfl rfl ?_;refine st_nil ?_;refine aw_cond _ rfl (fun h2 => ?_) (fun h2 => ?_)
  ·replace h2 : ((s183 a1)) = true := h2;replace hR := condT hR h2;(try simp only [bB] at h2);refine aw_seq ?_;refine aw_region [.p] ?_;refine sa rfl rfl ?_;refine st_nil ?_;refine aw_ret ?_;subst hR;exact res_c rfl (rv_g rfl)
  ·replace h2 : ((s183 a1)) = false := h2;replace hR := condF hR h2;(try simp only [bB] at h2);refine aw_skip ?_;refine aw_seq ?_;refine aw_region [.p] ?_;refine sa rfl rfl ?_;refine st_nil ?_;refine aw_ret ?_;subst hR;exact res_c rfl (rv_g rfl)
 ·replace h1 : ((s183 a0)) = false := h1;replace hR := condF hR h1;(try simp only [bB] at h1);refine aw_skip ?_;refine aw_seq ?_;refine aw_seq ?_;refine aw_region [.p] ?_;refine sm rfl rfl ?_;refine st_nil ?_;refine aw_cond _ rfl (fun h3 => ?_) (fun h3 => ?_)
  ·replace h3 : ((s183 a1)) = true := h3;replace hR := condT hR h3;(try simp only [bB] at h3);refine aw_seq ?_;refine aw_region [.p] ?_;refine sa rfl rfl ?_;refine st_nil ?_;refine aw_ret ?_;subst hR;exact res_c rfl (rv_g rfl)
  ·replace h3 : ((s183 a1)) = false := h3;replace hR := condF hR h3;(try simp only [bB] at h3);refine aw_skip ?_;refine aw_seq ?_;refine aw_seq ?_;refine aw_region [.p, .p, .p] ?_;refine sm rfl rfl ?_;refine sm rfl rfl ?_;refine su (eff_slt rfl rfl rfl) rfl ?_;refine st_nil ?_;refine aw_cond _ rfl (fun h4 => ?_) (fun h4 => ?_)
   ·replace h4 : (strLt a0 a1) = true := h4;replace hR := condT hR h4;(try simp only [bB] at h4);refine aw_seq ?_;refine aw_region [.p] ?_;refine sa rfl rfl ?_;refine st_nil ?_;refine aw_ret ?_;subst hR;exact res_c rfl (rv_g rfl)
   ·replace h4 : (strLt a0 a1) = false := h4;replace hR := condF hR h4;(try simp only [bB] at h4);refine aw_skip ?_;refine aw_seq ?_;refine aw_seq ?_;refine aw_region [.p, .p, .p] ?_;refine sm rfl rfl ?_;refine sm rfl rfl ?_;refine su (eff_sgt rfl rfl rfl) rfl ?_;refine st_nil ?_;refine aw_cond _ rfl (fun h5 => ?_) (fun h5 => ?_)
    ·replace h5 : (!(strLt a0 a1 || decide (a0 = a1))) = true := h5;replace hR := condT hR h5;(try simp only [bB] at h5);refine aw_seq ?_;refine aw_region [.p] ?_;refine sa rfl rfl ?_;refine st_nil ?_;refine aw_ret ?_;subst hR;exact res_c rfl (rv_g rfl)
    ·replace h5 : (!(strLt a0 a1 || decide (a0 = a1))) = false := h5;replace hR := condF hR h5;(try simp only [bB] at h5);refine aw_skip ?_;refine aw_seq ?_;refine aw_region [.p] ?_;refine sa rfl rfl ?_;refine st_nil ?_;refine aw_ret ?_;subst hR;exact res_c rfl (rv_g rfl)
def s176_l1  : List Int → Nat → Int
 | [], k2 => 0
 | y3 :: t4, k2 => (bif decide (y3 ≠ 0) then y3 else s176_l1  t4 (k2 + 1))
def s176 (a0 : List Int) : Int :=
 s176_l1 a0 0
theorem c176 {g : List (Nat × List Value)} (a0 : List Int)    : Con (EG g) 121 [G.sl 1 (List.map cInt a0)] (G.int (s176 a0)) := by
 generalize hR : s176 a0 = R;unfold s176 at hR;refine con_of_aw Tryz.func121 rfl rfl fun w0 M0 => ?_;refine len_sl (f := cInt) (l := a0) 0 rfl fun hla0 => ?_;refine aw_seq ?_;refine aw_region [.p] ?_;refine sa rfl rfl ?_;refine st_nil ?_;refine aw_seq ?_;refine aw_region [.p] ?_;refine sa rfl rfl ?_;refine st_nil ?_;refine aw_seq ?_;refine aw_seq ?_;refine aw_region [.p, .p, .p] ?_;refine sm rfl rfl ?_;refine su (eff_lenM (f := cInt) (l := a0) rfl Tryz.underlying64 rfl) rfl ?_;refine sm rfl rfl ?_;refine st_nil ?_;refine aw_block ?_;refine aw_loop_g (γ := Nat × (List Int)) (fun g => ([(3, .g (G.int 0)), (6, .g (G.sl 1 (List.map cInt a0))), (7, .g (G.int (List.length a0 : Int))), (8, .g (G.int ((g.1 : Nat) : Int)))], [])) (fun g => a0.drop g.1 = g.2 ∧ s176_l1  g.2 g.1 = R) (fun g => List.length g.2) ⟨rfl, (0, a0), ⟨rfl, rfl, rfl, rfl, trivial⟩, trivial, rfl, ⟨rfl, hR⟩, trivial⟩ ?_
 ·rintro ⟨k2, t4⟩ ⟨hd, hR⟩;replace hd : a0.drop k2 = t4 := hd;replace hR : s176_l1  t4 k2 = R := hR;refine aw_seq ?_;refine aw_region [.p] ?_;refine su (eff_lss rfl rfl rfl) rfl ?_;refine st_nil ?_;refine len_sl (f := cInt) (l := a0) 6 rfl fun hlz1 => ?_;refine aw_seq ?_;refine aw_cond _ rfl (fun h1 => ?_) (fun h1 => ?_)
  ·replace h1 : (decide (((k2 : Nat) : Int) < (List.length a0 : Int))) = true := h1;obtain ⟨y3, t4, rfl, hx1, hd⟩ := drop_cons hd (decT h1);replace h1 := decT h1;rw [s176_l1] at hR;(try dsimp only at hR);refine aw_skip ?_;refine aw_seq ?_;refine aw_block ?_;refine aw_seq ?_;refine aw_region [.p, .p, .p] ?_;refine su (eff_ix (f := cInt) (l := a0) (a := y3) rfl Tryz.underlying64 ty3 rfl rfl (Int.natCast_nonneg _) hx1) rfl ?_;refine su (eff_load rfl ty3 rfl) rfl ?_;refine sa rfl rfl ?_;refine st_nil ?_;refine aw_seq ?_;refine aw_region [.p, .p, .p] ?_;refine sm rfl rfl ?_;refine sm rfl rfl ?_;refine su (eff_neq rfl rfl rfl) rfl ?_;refine st_nil ?_;refine aw_cond _ rfl (fun h3 => ?_) (fun h3 => ?_)
   ·replace h3 : (decide (y3 ≠ 0)) = true := h3;replace hR := condT hR h3;(try simp only [bB] at h3);refine aw_seq ?_;refine aw_region [.p, .p] ?_;refine sm rfl rfl ?_;refine sa rfl rfl ?_;refine st_nil ?_;refine aw_ret ?_;subst hR;exact res_c rfl (rv_g rfl)
   ·replace h3 : (decide (y3 ≠ 0)) = false := h3;replace hR := condF hR h3;(try simp only [bB] at h3);refine aw_skip ?_;refine aw_region [.p, .p] ?_;refine su (eff_add rfl rfl rfl iE) rfl ?_;refine sm rfl rfl ?_;refine st_nil ?_;exact ⟨rfl, (k2 + 1, t4), ⟨rfl, rfl, rfl, rfl, trivial⟩, trivial, rfl, ⟨hd, hR⟩, by simp⟩
  ·replace h1 : (decide (((k2 : Nat) : Int) < (List.length a0 : Int))) = false := h1;obtain rfl := drop_nil hd (decF h1);rw [s176_l1] at hR;refine aw_exit ?_;refine aw_seq ?_;refine aw_region [.p, .p] ?_;refine sm rfl rfl ?_;refine sa rfl rfl ?_;refine st_nil ?_;refine aw_ret ?_;subst hR;exact res_c rfl (rv_g rfl)
def s172 (a0 : S104) : Bool :=
 decide (a0.Kind = (⟨#[102, 108, 121]⟩))
theorem c172 {g : List (Nat × List Value)} (a0 : S104)    : Con (EG g) 148 [G.agg [G.str a0.Kind, G.str a0.Name, G.int a0.Moment, G.str a0.Move, G.int a0.fFrom, G.int a0.fTo, G.str a0.Cause, G.int a0.Told]] (G.bool (s172 a0)) := by
 generalize hR : s172 a0 = R;unfold s172 at hR;refine con_of_aw Tryz.func148 rfl rfl fun w0 M0 => ?_;refine aw_seq ?_;refine aw_region [.p, .p] ?_;refine su (eff_box rfl rfl) rfl ?_;refine sa rfl rfl ?_;refine st_nil ?_;refine aw_seq ?_;refine aw_region [.p, .p, .p, .p] ?_;refine su (eff_fieldAddr rfl fl105_0 rfl) rfl ?_;refine su (eff_load rfl ty9 rfl) rfl ?_;refine su (eff_seq rfl rfl rfl) rfl ?_;refine sa rfl rfl ?_;refine st_nil ?_;refine aw_ret ?_;subst hR;exact res_c rfl (rv_g rfl)
def s173 (a0 : S104) : S151 :=
 (S151.mk a0.Name a0.Moment a0.Move)
theorem c173 {g : List (Nat × List Value)} (a0 : S104)    : Con (EG g) 149 [G.agg [G.str a0.Kind, G.str a0.Name, G.int a0.Moment, G.str a0.Move, G.int a0.fFrom, G.int a0.fTo, G.str a0.Cause, G.int a0.Told]] (G.agg [G.str ((s173 a0).Name), G.int ((s173 a0).Moment), G.str ((s173 a0).Kind)]) := by
 generalize hR : s173 a0 = R;unfold s173 at hR;refine con_of_aw Tryz.func149 rfl rfl fun w0 M0 => ?_;refine aw_seq ?_;refine aw_region [.p, .w] ?_;refine su (eff_box rfl rfl) rfl ?_;refine sw (eff_alloc 2 rfl z152 rfl rfl) rfl ?_;refine st_nil ?_;refine aw_seq ?_;refine aw_region [.p, .p, .p, .p, .p, .p, .p, .w] ?_;refine su (eff_fieldAddr rfl fl105_1 rfl) rfl ?_;refine su (eff_load rfl ty9 rfl) rfl ?_;refine su (eff_fieldAddr rfl fl105_2 rfl) rfl ?_;refine su (eff_load rfl ty3 rfl) rfl ?_;refine su (eff_fieldAddr rfl fl105_3 rfl) rfl ?_;refine su (eff_load rfl ty9 rfl) rfl ?_;refine su (eff_build rfl z152 rfl pl152 (pb_cons rfl (pb_cons rfl (pb_cons rfl pb_nil))) rfl) rfl ?_;refine st_wn rfl rfl (eff_store (tv := .g (G.agg [G.str a0.Name, G.int a0.Moment, G.str a0.Move])) rfl ty152 rfl rfl rfl rfl rfl) ?_;refine st_nil ?_;refine aw_ret ?_;subst hR;exact res_c rfl (rv_cell rfl rfl ty152 rfl rfl)
def s175 (a0 : S151) (a1 : S151) : Int :=
 (s176 [(s167 a0.Moment a1.Moment), (s133 a0.Name a1.Name), (s133 a0.Kind a1.Kind)])
theorem c175 {g : List (Nat × List Value)} (a0 : S151) (a1 : S151)    : Con (EG g) 151 [G.agg [G.str a0.Name, G.int a0.Moment, G.str a0.Kind], G.agg [G.str a1.Name, G.int a1.Moment, G.str a1.Kind]] (G.int (s175 a0 a1)) := by
 generalize hR : s175 a0 a1 = R;unfold s175 at hR;refine con_of_aw Tryz.func151 rfl rfl fun w0 M0 => ?_;refine aw_seq ?_;refine aw_region [.p, .p, .p] ?_;refine su (eff_box rfl rfl) rfl ?_;refine su (eff_box rfl rfl) rfl ?_;refine sa rfl rfl ?_;refine st_nil ?_;refine aw_seq ?_;refine aw_draw [.p, .p, .p, .p, .p, .p, .p, .p, .p, .p, .p, .p, .p, .p, .p, .p, .p, .p] (by kernel_rfl) ?_;refine su (eff_fieldAddr rfl fl152_1 rfl) rfl ?_;refine su (eff_load rfl ty3 rfl) rfl ?_;refine su (eff_fieldAddr rfl fl152_1 rfl) rfl ?_;refine su (eff_load rfl ty3 rfl) rfl ?_;refine su (eff_call rfl K167 rfl (c167 a0.Moment a1.Moment) (ag_cons rfl (ag_cons rfl ag_nil))) rfl ?_;refine su (eff_fieldAddr rfl fl152_0 rfl) rfl ?_;refine su (eff_load rfl ty9 rfl) rfl ?_;refine su (eff_fieldAddr rfl fl152_0 rfl) rfl ?_;refine su (eff_load rfl ty9 rfl) rfl ?_;refine su (eff_call rfl K133 rfl (c133 a0.Name a1.Name) (ag_cons rfl (ag_cons rfl ag_nil))) rfl ?_;refine su (eff_fieldAddr rfl fl152_2 rfl) rfl ?_;refine su (eff_load rfl ty9 rfl) rfl ?_;refine su (eff_fieldAddr rfl fl152_2 rfl) rfl ?_;refine su (eff_load rfl ty9 rfl) rfl ?_;refine su (eff_call rfl K133 rfl (c133 a0.Kind a1.Kind) (ag_cons rfl (ag_cons rfl ag_nil))) rfl ?_;refine su (eff_buildSlice rfl Tryz.underlying64 ty3 z3 rfl (ps_cons rfl (ps_cons rfl (ps_cons rfl ps_nil))) rfl (by simp []) (by decide)) rfl ?_;refine su (eff_call rfl K176 rfl (c176 [(s167 a0.Moment a1.Moment), (s133 a0.Name a1.Name), (s133 a0.Kind a1.Kind)]) (ag_cons rfl ag_nil)) rfl ?_;refine sa rfl rfl ?_;refine st_nil ?_;refine aw_ret ?_;subst hR;exact res_c rfl (rv_g rfl)
def s208 (a0 : S104) (a1 : Int) : Bool :=
 (decide (a0.fFrom ≤ a1)) && (decide (a1 ≤ a0.fTo))
theorem c208 {g : List (Nat × List Value)} (a0 : S104) (a1 : Int)    : Con (EG g) 142 [G.agg [G.str a0.Kind, G.str a0.Name, G.int a0.Moment, G.str a0.Move, G.int a0.fFrom, G.int a0.fTo, G.str a0.Cause, G.int a0.Told], G.int a1] (G.bool (s208 a0 a1)) := by
 generalize hR : s208 a0 a1 = R;unfold s208 at hR;refine con_of_aw Tryz.func142 rfl rfl fun w0 M0 => ?_;refine aw_seq ?_;refine aw_region [.p, .p] ?_;refine su (eff_box rfl rfl) rfl ?_;refine sa rfl rfl ?_;refine st_nil ?_;refine aw_seq ?_;refine aw_region [.p, .p, .p, .p, .p, .p, .p, .p, .p, .p, .p] ?_;refine su (eff_fieldAddr rfl fl105_4 rfl) rfl ?_;refine su (eff_load rfl ty3 rfl) rfl ?_;refine sm rfl rfl ?_;refine su (eff_leq rfl rfl rfl) rfl ?_;refine sm rfl rfl ?_;refine sg rfl rfl (fun h => eff_moveg rfl rfl) rfl ?_;refine sg rfl rfl (fun h => eff_fieldAddr rfl fl105_5 rfl) rfl ?_;refine sg rfl rfl (fun h => eff_load rfl ty3 (gd h rfl)) rfl ?_;refine sg rfl rfl (fun h => eff_leq rfl (gd h rfl) (gd h rfl)) rfl ?_;refine su (eff_and rfl rfl rfl rfl) rfl ?_;refine sa rfl rfl ?_;refine st_nil ?_;refine aw_ret ?_;subst hR;exact res_c rfl (rv_g rfl)
def s207 (a0 : S104) (a1 : S151) (a2 : Int) (a3 : S23) : Bool :=
 (((decide (a0.Kind = (⟨#[98, 97, 99, 107]⟩))) && (decide (a0.Name = a1.Name))) && (s208 a0 a2)) && (decide (IntKind.i64.wrap (a0.Told + a3.Notice) ≤ a2))
theorem c207 {g : List (Nat × List Value)} (a0 : S104) (a1 : S151) (a2 : Int) (a3 : S23)    : Con (EG g) 141 [G.agg [G.str a0.Kind, G.str a0.Name, G.int a0.Moment, G.str a0.Move, G.int a0.fFrom, G.int a0.fTo, G.str a0.Cause, G.int a0.Told], G.ref [G.str a1.Name, G.int a1.Moment, G.str a1.Kind], G.ref [G.int a2], G.ref [G.int a3.Before, G.int a3.After, G.int a3.Notice, G.int a3.Share, G.sl 1 (List.map cStr a3.Causes), G.int a3.Off, G.int a3.Run]] (G.bool (s207 a0 a1 a2 a3)) := by
 generalize hR : s207 a0 a1 a2 a3 = R;unfold s207 at hR;refine con_of_aw Tryz.func141 rfl rfl fun w0 M0 => ?_;refine aw_seq ?_;refine aw_region [.p, .p] ?_;refine su (eff_box rfl rfl) rfl ?_;refine sa rfl rfl ?_;refine st_nil ?_;refine aw_seq ?_;refine aw_region [.p, .p, .p, .p, .p, .p, .p, .p, .p, .p, .p, .p, .p, .p, .p, .p, .p, .p, .p, .p, .p, .p, .p, .p, .p] ?_;refine su (eff_fieldAddr rfl fl105_0 rfl) rfl ?_;refine su (eff_load rfl ty9 rfl) rfl ?_;refine su (eff_seq rfl rfl rfl) rfl ?_;refine sm rfl rfl ?_;refine sg rfl rfl (fun h => eff_fieldAddr rfl fl105_1 rfl) rfl ?_;refine sg rfl rfl (fun h => eff_load rfl ty9 (gd h rfl)) rfl ?_;refine sg rfl rfl (fun h => eff_fieldAddr rfl fl152_0 rfl) rfl ?_;refine sg rfl rfl (fun h => eff_load rfl ty9 (gd h rfl)) rfl ?_;refine sg rfl rfl (fun h => eff_seq rfl (gd h rfl) (gd h rfl)) rfl ?_;refine su (eff_and rfl rfl rfl rfl) rfl ?_;refine sm rfl rfl ?_;refine sg rfl rfl (fun h => eff_loadA rfl ty105 rfl rfl rfl) rfl ?_;refine sg rfl rfl (fun h => eff_load rfl ty3 rfl) rfl ?_;refine sg rfl rfl (fun h => eff_call rfl K208 rfl (c208 a0 a2) (ag_cons (gd h rfl) (ag_cons (gd h rfl) ag_nil))) rfl ?_;refine su (eff_and rfl rfl rfl rfl) rfl ?_;refine sm rfl rfl ?_;refine sg rfl rfl (fun h => eff_fieldAddr rfl fl105_7 rfl) rfl ?_;refine sg rfl rfl (fun h => eff_load rfl ty3 (gd h rfl)) rfl ?_;refine sg rfl rfl (fun h => eff_fieldAddr rfl fl24_2 rfl) rfl ?_;refine sg rfl rfl (fun h => eff_load rfl ty3 (gd h rfl)) rfl ?_;refine sg rfl rfl (fun h => eff_addw rfl (gd h rfl) (gd h rfl)) rfl ?_;refine sg rfl rfl (fun h => eff_load rfl ty3 rfl) rfl ?_;refine sg rfl rfl (fun h => eff_leq rfl (gd h rfl) (gd h rfl)) rfl ?_;refine su (eff_and rfl rfl rfl rfl) rfl ?_;refine sa rfl rfl ?_;refine st_nil ?_;refine aw_ret ?_;subst hR;exact res_c rfl (rv_g rfl)
def s209 (a0 : S104) (a1 : Int) (a2 : S151) (a3 : S23) : Bool :=
 (s208 a0 a1) && ((decide (a0.Kind = (⟨#[119, 101, 97, 116, 104, 101, 114]⟩))) || (((decide (a0.Kind = (⟨#[99, 97, 110, 99, 101, 108]⟩))) && (decide (a0.Name = a2.Name))) && (s88 a3.Causes a0.Cause)))
theorem c209 {g : List (Nat × List Value)} (a0 : S104) (a1 : Int) (a2 : S151) (a3 : S23)    : Con (EG g) 143 [G.agg [G.str a0.Kind, G.str a0.Name, G.int a0.Moment, G.str a0.Move, G.int a0.fFrom, G.int a0.fTo, G.str a0.Cause, G.int a0.Told], G.ref [G.int a1], G.ref [G.str a2.Name, G.int a2.Moment, G.str a2.Kind], G.ref [G.int a3.Before, G.int a3.After, G.int a3.Notice, G.int a3.Share, G.sl 1 (List.map cStr a3.Causes), G.int a3.Off, G.int a3.Run]] (G.bool (s209 a0 a1 a2 a3)) := by
 generalize hR : s209 a0 a1 a2 a3 = R;unfold s209 at hR;refine con_of_aw Tryz.func143 rfl rfl fun w0 M0 => ?_;refine aw_seq ?_;refine aw_region [.p, .p] ?_;refine su (eff_box rfl rfl) rfl ?_;refine sa rfl rfl ?_;refine st_nil ?_;refine aw_seq ?_;refine aw_region [.p, .p, .p, .p, .p, .p, .p, .p, .p, .p, .p, .p, .p, .p, .p, .p, .p, .p, .p, .p, .p, .p, .p, .p, .p, .p, .p, .p] ?_;refine su (eff_loadA rfl ty105 rfl rfl rfl) rfl ?_;refine su (eff_load rfl ty3 rfl) rfl ?_;refine su (eff_call rfl K208 rfl (c208 a0 a1) (ag_cons rfl (ag_cons rfl ag_nil))) rfl ?_;refine sm rfl rfl ?_;refine sg rfl rfl (fun h => eff_fieldAddr rfl fl105_0 rfl) rfl ?_;refine sg rfl rfl (fun h => eff_load rfl ty9 (gd h rfl)) rfl ?_;refine sg rfl rfl (fun h => eff_seq rfl (gd h rfl) rfl) rfl ?_;refine sg rfl rfl (fun h => eff_moveg rfl (gd h rfl)) rfl ?_;refine st_g rfl rfl rfl (gb_if _ _ _) (fun h => eff_fieldAddr rfl fl105_0 rfl) rfl ?_;refine st_g rfl rfl rfl (gb_if _ _ _) (fun h => eff_load rfl ty9 (gd h rfl)) rfl ?_;refine st_g rfl rfl rfl (gb_if _ _ _) (fun h => eff_seq rfl (gd h rfl) rfl) rfl ?_;refine st_g rfl rfl rfl (gb_if _ _ _) (fun h => eff_moveg rfl (gd h rfl)) rfl ?_;refine st_g rfl rfl rfl (gb_if _ _ _) (fun h => eff_fieldAddr rfl fl105_1 rfl) rfl ?_;refine st_g rfl rfl rfl (gb_if _ _ _) (fun h => eff_load rfl ty9 (gd h rfl)) rfl ?_;refine st_g rfl rfl rfl (gb_if _ _ _) (fun h => eff_fieldAddr rfl fl152_0 rfl) rfl ?_;refine st_g rfl rfl rfl (gb_if _ _ _) (fun h => eff_load rfl ty9 (gd h rfl)) rfl ?_;refine st_g rfl rfl rfl (gb_if _ _ _) (fun h => eff_seq rfl (gd h rfl) (gd h rfl)) rfl ?_;refine st_g rfl rfl rfl (gb_if _ _ _) (fun h => eff_and rfl (gd h rfl) rfl (gd2 h rfl)) rfl ?_;refine st_g rfl rfl rfl (gb_if _ _ _) (fun h => eff_moveg rfl (gd h rfl)) rfl ?_;refine st_g rfl rfl rfl (gb_if _ _ _) (fun h => eff_fieldAddr rfl fl24_4 rfl) rfl ?_;refine st_g rfl rfl rfl (gb_if _ _ _) (fun h => eff_load rfl ty22 (gd h rfl)) rfl ?_;refine st_g rfl rfl rfl (gb_if _ _ _) (fun h => eff_fieldAddr rfl fl105_6 rfl) rfl ?_;refine st_g rfl rfl rfl (gb_if _ _ _) (fun h => eff_load rfl ty9 (gd h rfl)) rfl ?_;refine st_g rfl rfl rfl (gb_if _ _ _) (fun h => eff_call rfl K88 rfl (c88 a3.Causes a0.Cause) (ag_cons (gd h rfl) (ag_cons (gd h rfl) ag_nil))) rfl ?_;refine st_g rfl rfl rfl (gb_if _ _ _) (fun h => eff_and rfl (gd h rfl) rfl (gd2 h rfl)) rfl ?_;refine sg rfl rfl (fun h => eff_or rfl (gd h rfl) rfl (gd2 h rfl)) rfl ?_;refine su (eff_and rfl rfl rfl rfl) rfl ?_;refine sa rfl rfl ?_;refine st_nil ?_;refine aw_ret ?_;subst hR;exact res_c rfl (rv_g rfl)
end Go.Sim
set_option maxRecDepth 10000
namespace Go.Sim
open Go.Proofs
def s170_l1 (a1 : S104 → S151) : List S104 → Nat → (List S151) → List S151
 | [], k3, x1 => x1
 | y4 :: t5, k3, x1 => s170_l1 a1 t5 (k3 + 1) (x1 ++ [(a1 y4)])
def s170 (a0 : List S104) (a1 : S104 → S151) : List S151 :=
 s170_l1 a1 a0 0 []
def s171_j1 (rec1 : Nat → (List S104) → List S104) (k3 : Nat) (x6 : List S104) : List S104 :=
 rec1 (k3 + 1) x6
def s171_l1 (a1 : S104 → Bool) : List S104 → Nat → (List S104) → List S104
 | [], k3, x1 => x1
 | y4 :: t5, k3, x1 => (bif (a1 y4) then s171_j1 (fun k_ z0_ => s171_l1 a1 t5 k_ z0_) k3 (x1 ++ [y4]) else s171_j1 (fun k_ z0_ => s171_l1 a1 t5 k_ z0_) k3 x1)
def s171 (a0 : List S104) (a1 : S104 → Bool) : List S104 :=
 s171_l1 a1 a0 0 []
def s242_l1 (a1 : S104 → Bool) : List S104 → Nat → Int
 | [], k2 => (-1)
 | y3 :: t4, k2 => (bif (a1 y3) then ((k2 : Nat) : Int) else s242_l1 a1 t4 (k2 + 1))
def s242 (a0 : List S104) (a1 : S104 → Bool) : Int :=
 s242_l1 a1 a0 0
theorem c242 {g : List (Nat × List Value)} (a0 : List S104) (a1 : S104 → Bool) {ca1 : G} {ia1 : FuncId} {ka1 : List G} (ha1 : FnIs ca1 ia1 ka1) (Ka1 : Known Tryz.prog ia1) (Ha1 : ∀ (x0 : S104), Con (EG g) ia1 ([G.agg [G.str x0.Kind, G.str x0.Name, G.int x0.Moment, G.str x0.Move, G.int x0.fFrom, G.int x0.fTo, G.str x0.Cause, G.int x0.Told]] ++ ka1) (G.bool (a1 x0)))   : Con (EG g) 202 [G.sl 8 (List.map S104.c a0), ca1] (G.int (s242 a0 a1)) := by
 generalize hR : s242 a0 a1 = R;unfold s242 at hR;refine con_of_aw Tryz.func202 rfl rfl fun w0 M0 => ?_;refine len_sl (f := S104.c) (l := a0) 0 rfl fun hla0 => ?_;refine aw_seq ?_;refine aw_region [.p] ?_;refine sa rfl rfl ?_;refine st_nil ?_;refine aw_seq ?_;refine aw_seq ?_;refine aw_region [.p, .p, .p] ?_;refine sm rfl rfl ?_;refine su (eff_lenM (f := S104.c) (l := a0) rfl Tryz.underlying24 rfl) rfl ?_;refine sm rfl rfl ?_;refine st_nil ?_;refine aw_block ?_;refine aw_loop_g (γ := Nat × (List S104)) (fun g => ([(0, .g (G.sl 8 (List.map S104.c a0))), (1, .g (ca1)), (7, .g (G.int (List.length a0 : Int))), (8, .g (G.int ((g.1 : Nat) : Int)))], [])) (fun g => a0.drop g.1 = g.2 ∧ s242_l1 a1 g.2 g.1 = R) (fun g => List.length g.2) ⟨rfl, (0, a0), ⟨rfl, rfl, rfl, rfl, trivial⟩, trivial, rfl, ⟨rfl, hR⟩, trivial⟩ ?_
 ·rintro ⟨k2, t4⟩ ⟨hd, hR⟩;replace hd : a0.drop k2 = t4 := hd;replace hR : s242_l1 a1 t4 k2 = R := hR;refine aw_seq ?_;refine aw_region [.p] ?_;refine su (eff_lss rfl rfl rfl) rfl ?_;refine st_nil ?_;refine len_sl (f := S104.c) (l := a0) 0 rfl fun hlz1 => ?_;refine aw_seq ?_;refine aw_cond _ rfl (fun h1 => ?_) (fun h1 => ?_)
  ·replace h1 : (decide (((k2 : Nat) : Int) < (List.length a0 : Int))) = true := h1;obtain ⟨y3, t4, rfl, hx1, hd⟩ := drop_cons hd (decT h1);replace h1 := decT h1;rw [s242_l1] at hR;(try dsimp only at hR);refine aw_skip ?_;refine aw_seq ?_;refine aw_block ?_;refine aw_seq ?_;refine aw_region [.p, .p] ?_;refine sm rfl rfl ?_;refine sa rfl rfl ?_;refine st_nil ?_;refine aw_seq ?_;refine aw_region [.p, .p, .p, .p, .p, .p] ?_;refine sm rfl rfl ?_;refine sm rfl rfl ?_;refine sm rfl rfl ?_;refine su (eff_ix (f := S104.c) (l := a0) (a := y3) rfl Tryz.underlying24 ty105 rfl rfl (Int.natCast_nonneg _) hx1) rfl ?_;refine su (eff_loadA rfl ty105 rfl rfl rfl) rfl ?_;refine su (eff_callf rfl ha1 Ka1 rfl (Ha1 y3) (ag_cons rfl ag_nil)) rfl ?_;refine st_nil ?_;refine aw_cond _ rfl (fun h3 => ?_) (fun h3 => ?_)
   ·replace h3 : ((a1 y3)) = true := h3;replace hR := condT hR h3;(try simp only [bB] at h3);refine aw_seq ?_;refine aw_region [.p, .p] ?_;refine sm rfl rfl ?_;refine sa rfl rfl ?_;refine st_nil ?_;refine aw_ret ?_;subst hR;exact res_c rfl (rv_g rfl)
   ·replace h3 : ((a1 y3)) = false := h3;replace hR := condF hR h3;(try simp only [bB] at h3);refine aw_skip ?_;refine aw_region [.p, .p] ?_;refine su (eff_add rfl rfl rfl iE) rfl ?_;refine sm rfl rfl ?_;refine st_nil ?_;exact ⟨rfl, (k2 + 1, t4), ⟨rfl, rfl, rfl, rfl, trivial⟩, trivial, rfl, ⟨hd, hR⟩, by simp⟩
  ·replace h1 : (decide (((k2 : Nat) : Int) < (List.length a0 : Int))) = false := h1;obtain rfl := drop_nil hd (decF h1);rw [s242_l1] at hR;refine aw_exit ?_;refine aw_seq ?_;refine aw_region [.p] ?_;refine sa rfl rfl ?_;refine st_nil ?_;refine aw_ret ?_;subst hR;exact res_c rfl (rv_g rfl)
def s206 (a0 : List S104) (a1 : S104 → Bool) : Bool :=
 decide (0 ≤ (s242 a0 a1))
theorem c206 {g : List (Nat × List Value)} (a0 : List S104) (a1 : S104 → Bool) {ca1 : G} {ia1 : FuncId} {ka1 : List G} (ha1 : FnIs ca1 ia1 ka1) (Ka1 : Known Tryz.prog ia1) (Ha1 : ∀ (x0 : S104), Con (EG g) ia1 ([G.agg [G.str x0.Kind, G.str x0.Name, G.int x0.Moment, G.str x0.Move, G.int x0.fFrom, G.int x0.fTo, G.str x0.Cause, G.int x0.Told]] ++ ka1) (G.bool (a1 x0)))   : Con (EG g) 140 [G.sl 8 (List.map S104.c a0), ca1] (G.bool (s206 a0 a1)) := by
 generalize hR : s206 a0 a1 = R;unfold s206 at hR;refine con_of_aw Tryz.func140 rfl rfl fun w0 M0 => ?_;refine len_sl (f := S104.c) (l := a0) 0 rfl fun hla0 => ?_;refine aw_seq ?_;refine aw_region [.p] ?_;refine sa rfl rfl ?_;refine st_nil ?_;refine aw_seq ?_;refine aw_region [.p, .p, .p, .p, .p] ?_;refine sm rfl rfl ?_;refine sm rfl rfl ?_;refine su (eff_call rfl K242 rfl (c242 a0 a1 ha1 Ka1 Ha1) (ag_cons rfl (ag_cons rfl ag_nil))) rfl ?_;refine su (eff_geq rfl rfl rfl) rfl ?_;refine sa rfl rfl ?_;refine st_nil ?_;refine aw_ret ?_;subst hR;exact res_c rfl (rv_g rfl)
def s177 (a0 : S23) (a1 : S151) (a2 : List S104) : Bool :=
 (s206 a2 (fun x0 => s207 x0 a1 (IntKind.i64.wrap (Int.tdiv a1.Moment 1440)) a0))
theorem c177 {g : List (Nat × List Value)} (a0 : S23) (a1 : S151) (a2 : List S104)    : Con (EG g) 79 [G.agg [G.int a0.Before, G.int a0.After, G.int a0.Notice, G.int a0.Share, G.sl 1 (List.map cStr a0.Causes), G.int a0.Off, G.int a0.Run], G.agg [G.str a1.Name, G.int a1.Moment, G.str a1.Kind], G.sl 8 (List.map S104.c a2)] (G.bool (s177 a0 a1 a2)) := by
 generalize hR : s177 a0 a1 a2 = R;unfold s177 at hR;refine con_of_aw Tryz.func79 rfl rfl fun w0 M0 => ?_;refine len_sl (f := S104.c) (l := a2) 2 rfl fun hla2 => ?_;refine aw_seq ?_;refine aw_region [.p, .p, .p] ?_;refine su (eff_box rfl rfl) rfl ?_;refine su (eff_box rfl rfl) rfl ?_;refine sa rfl rfl ?_;refine st_nil ?_;refine aw_seq ?_;refine aw_region [.p, .p, .p, .w, .w] ?_;refine su (eff_fieldAddr rfl fl152_1 rfl) rfl ?_;refine su (eff_load rfl ty3 rfl) rfl ?_;refine su (eff_quow rfl rfl rfl (by decide)) rfl ?_;refine sw (eff_alloc 7 rfl z3 rfl rfl) rfl ?_;refine st_wn rfl rfl (eff_store (tv := .g (G.int (IntKind.i64.wrap (Int.tdiv a1.Moment 1440)))) rfl ty3 rfl rfl rfl rfl rfl) ?_;refine st_nil ?_;refine aw_seq ?_;refine aw_freeze (l := [(2, .g (G.sl 8 (List.map S104.c a2))), (3, .g (G.ref [G.int a0.Before, G.int a0.After, G.int a0.Notice, G.int a0.Share, G.sl 1 (List.map cStr a0.Causes), G.int a0.Off, G.int a0.Run])), (4, .g (G.ref [G.str a1.Name, G.int a1.Moment, G.str a1.Kind])), (7, .g (G.ref [G.int (IntKind.i64.wrap (Int.tdiv a1.Moment 1440))]))]) (m := []) 7 rfl ⟨.inl ⟨rfl, rfl⟩, .inl ⟨rfl, rfl⟩, .inl ⟨rfl, rfl⟩, .inr (frz_box rfl), trivial⟩ trivial rfl rfl ?_;refine aw_region [.p, .p, .p, .p] ?_;refine sm rfl rfl ?_;refine su (eff_makeF rfl rfl rfl) rfl ?_;refine su (eff_call rfl K206 rfl (c206 a2 (fun x0 => s207 x0 a1 (IntKind.i64.wrap (Int.tdiv a1.Moment 1440)) a0) fnis_fn K207 (fun x0 => c207 x0 a1 (IntKind.i64.wrap (Int.tdiv a1.Moment 1440)) a0)) (ag_cons rfl (ag_cons rfl ag_nil))) rfl ?_;refine sa rfl rfl ?_;refine st_nil ?_;refine aw_ret ?_;subst hR;exact res_c rfl (rv_g rfl)
def s178 (a0 : S23) (a1 : S151) (a2 : List S104) : Bool :=
 (s206 a2 (fun x0 => s209 x0 (IntKind.i64.wrap (Int.tdiv a1.Moment 1440)) a1 a0))
theorem c178 {g : List (Nat × List Value)} (a0 : S23) (a1 : S151) (a2 : List S104)    : Con (EG g) 80 [G.agg [G.int a0.Before, G.int a0.After, G.int a0.Notice, G.int a0.Share, G.sl 1 (List.map cStr a0.Causes), G.int a0.Off, G.int a0.Run], G.agg [G.str a1.Name, G.int a1.Moment, G.str a1.Kind], G.sl 8 (List.map S104.c a2)] (G.bool (s178 a0 a1 a2)) := by
 generalize hR : s178 a0 a1 a2 = R;unfold s178 at hR;refine con_of_aw Tryz.func80 rfl rfl fun w0 M0 => ?_;refine len_sl (f := S104.c) (l := a2) 2 rfl fun hla2 => ?_;refine aw_seq ?_;refine aw_region [.p, .p, .p] ?_;refine su (eff_box rfl rfl) rfl ?_;refine su (eff_box rfl rfl) rfl ?_;refine sa rfl rfl ?_;refine st_nil ?_;refine aw_seq ?_;refine aw_region [.p, .p, .p, .w, .w] ?_;refine su (eff_fieldAddr rfl fl152_1 rfl) rfl ?_;refine su (eff_load rfl ty3 rfl) rfl ?_;refine su (eff_quow rfl rfl rfl (by decide)) rfl ?_;refine sw (eff_alloc 7 rfl z3 rfl rfl) rfl ?_;refine st_wn rfl rfl (eff_store (tv := .g (G.int (IntKind.i64.wrap (Int.tdiv a1.Moment 1440)))) rfl ty3 rfl rfl rfl rfl rfl) ?_;refine st_nil ?_;refine aw_seq ?_;refine aw_freeze (l := [(2, .g (G.sl 8 (List.map S104.c a2))), (3, .g (G.ref [G.int a0.Before, G.int a0.After, G.int a0.Notice, G.int a0.Share, G.sl 1 (List.map cStr a0.Causes), G.int a0.Off, G.int a0.Run])), (4, .g (G.ref [G.str a1.Name, G.int a1.Moment, G.str a1.Kind])), (7, .g (G.ref [G.int (IntKind.i64.wrap (Int.tdiv a1.Moment 1440))]))]) (m := []) 7 rfl ⟨.inl ⟨rfl, rfl⟩, .inl ⟨rfl, rfl⟩, .inl ⟨rfl, rfl⟩, .inr (frz_box rfl), trivial⟩ trivial rfl rfl ?_;refine aw_region [.p, .p, .p, .p] ?_;refine sm rfl rfl ?_;refine su (eff_makeF rfl rfl rfl) rfl ?_;refine su (eff_call rfl K206 rfl (c206 a2 (fun x0 => s209 x0 (IntKind.i64.wrap (Int.tdiv a1.Moment 1440)) a1 a0) fnis_fn K209 (fun x0 => c209 x0 (IntKind.i64.wrap (Int.tdiv a1.Moment 1440)) a1 a0)) (ag_cons rfl (ag_cons rfl ag_nil))) rfl ?_;refine sa rfl rfl ?_;refine st_nil ?_;refine aw_ret ?_;subst hR;exact res_c rfl (rv_g rfl)
def s126_j1 (a0 : S55) (a1 : Int) (x1 : Int) : S55 :=
 (bif (decide (a1 = 1)) || (decide (a1 = 2)) then (S55.mk (IntKind.i64.wrap (a0.Flown + 1)) x1) else (S55.mk a0.Flown x1))
def s126 (a0 : S55) (a1 : Int) : S55 :=
 (bif decide (a1 ≠ 0) then s126_j1 a0 a1 (IntKind.i64.wrap (a0.Due + 1)) else s126_j1 a0 a1 a0.Due)
theorem c126 {g : List (Nat × List Value)} (a0 : S55) (a1 : Int)    : ConB (EG g) 39 [.ptr 0 0, .g (G.int a1)] [(0, .box [.g (G.int a0.Flown), .g (G.int a0.Due)])] (G.tup []) [(0, .box [.g (G.int ((s126 a0 a1).Flown)), .g (G.int ((s126 a0 a1).Due))])] := by
 generalize hR : s126 a0 a1 = R;unfold s126 at hR;refine conB_of_aw Tryz.func39 rfl rfl rfl fun w0 M0 x => ?_;refine aw_cut_g (γ := Int) (fun g => ([(0, .ptr 0 0), (1, .g (G.int a1))], [(0, .box [.g (G.int a0.Flown), .g (G.int g)])])) (fun g => s126_j1 a0 a1 g = R) ?_ ?_
 ·refine aw_seq ?_;refine aw_region [.p, .p] ?_;refine sm rfl rfl ?_;refine su (eff_neq rfl rfl rfl) rfl ?_;refine st_nil ?_;refine aw_cond _ rfl (fun h2 => ?_) (fun h2 => ?_)
  ·replace h2 : (decide (a1 ≠ 0)) = true := h2;replace hR := condT hR h2;(try simp only [bB] at h2);refine aw_region [.p, .p, .p, .r, .p, .p, .p, .w] ?_;refine su (eff_moveP rfl rfl) rfl ?_;refine su (eff_nilO rfl rfl) rfl ?_;refine su (eff_fieldO rfl fl56_1 rfl) rfl ?_;refine sr (eff_loadO rfl ty3 rfl rfl rfl) rfl ?_;refine su (eff_addw rfl rfl rfl) rfl ?_;refine su (eff_nilO rfl rfl) rfl ?_;refine su (eff_fieldO rfl fl56_1 rfl) rfl ?_;refine st_wn rfl rfl (eff_store (tv := .g (G.int (IntKind.i64.wrap (a0.Due + 1)))) rfl ty3 rfl rfl rfl rfl rfl) ?_;refine st_nil ?_;exact ⟨rfl, IntKind.i64.wrap (a0.Due + 1), ⟨rfl, rfl, trivial⟩, ⟨rfl, trivial⟩, rfl, hR, trivial⟩
  ·replace h2 : (decide (a1 ≠ 0)) = false := h2;replace hR := condF hR h2;(try simp only [bB] at h2);refine aw_skip ?_;exact ⟨rfl, a0.Due, ⟨rfl, rfl, trivial⟩, ⟨rfl, trivial⟩, rfl, hR, trivial⟩
 ·rintro x1 hR;replace hR : s126_j1 a0 a1 x1 = R := hR;unfold s126_j1 at hR;refine aw_seq ?_;refine aw_region [.p, .p, .p, .p, .p, .p] ?_;refine sm rfl rfl ?_;refine su (eff_eql rfl rfl rfl) rfl ?_;refine sm rfl rfl ?_;refine sg rfl rfl (fun h => eff_moveg rfl rfl) rfl ?_;refine sg rfl rfl (fun h => eff_eql rfl (gd h rfl) rfl) rfl ?_;refine su (eff_or rfl rfl rfl rfl) rfl ?_;refine st_nil ?_;refine aw_cond _ rfl (fun h1 => ?_) (fun h1 => ?_)
  ·replace h1 : ((decide (a1 = 1)) || (decide (a1 = 2))) = true := h1;replace hR := condT hR h1;(try simp only [bB] at h1);refine aw_region [.p, .p, .p, .r, .p, .p, .p, .w] ?_;refine su (eff_moveP rfl rfl) rfl ?_;refine su (eff_nilO rfl rfl) rfl ?_;refine su (eff_fieldO rfl fl56_0 rfl) rfl ?_;refine sr (eff_loadO rfl ty3 rfl rfl rfl) rfl ?_;refine su (eff_addw rfl rfl rfl) rfl ?_;refine su (eff_nilO rfl rfl) rfl ?_;refine su (eff_fieldO rfl fl56_0 rfl) rfl ?_;refine st_wn rfl rfl (eff_store (tv := .g (G.int (IntKind.i64.wrap (a0.Flown + 1)))) rfl ty3 rfl rfl rfl rfl rfl) ?_;refine st_nil ?_;subst hR;show ResOk _ _ _ _ ∧ MemL _ _;exact ⟨res0 rfl, ⟨rfl, trivial⟩⟩
  ·replace h1 : ((decide (a1 = 1)) || (decide (a1 = 2))) = false := h1;replace hR := condF hR h1;(try simp only [bB] at h1);refine aw_skip ?_;subst hR;show ResOk _ _ _ _ ∧ MemL _ _;exact ⟨res0 rfl, ⟨rfl, trivial⟩⟩
section
variable {α : Type}
def insB (lt : α → α → Bool) (x : α) : List α → List α
 | [] => [x]
 | y :: r => bif lt x y then y :: insB lt x r else x :: y :: r
def insS (lt : α → α → Bool) : List α → List α → List α
 | P, [] => P.reverse
 | P, x :: l => insS lt (insB lt x P) l
def isort (lt : α → α → Bool) (l : List α) : List α := insS lt [] l
theorem insB_perm (lt : α → α → Bool) (x : α) : ∀ P, (insB lt x P).Perm (x :: P)
 | [] => List.Perm.refl _
 | y :: r => by
  rw [insB]
  cases lt x y with
  | true => exact ((insB_perm lt x r).cons y).trans (List.Perm.swap x y r)
  | false => exact List.Perm.refl _
theorem insB_len (lt : α → α → Bool) (x : α) (P : List α) : (insB lt x P).length = P.length + 1 := (insB_perm lt x P).length_eq
theorem insS_perm (lt : α → α → Bool) : ∀ (l P : List α), (insS lt P l).Perm (P ++ l)
 | [], P => by rw [insS, List.append_nil]; exact List.reverse_perm P
 | x :: l, P => by
  rw [insS];refine (insS_perm lt l _).trans ?_;refine ((insB_perm lt x P).append_right l).trans ?_;exact List.perm_middle.symm
theorem isort_perm (lt : α → α → Bool) (l : List α) : (isort lt l).Perm l := insS_perm lt l []
theorem insB_sorted {lt : α → α → Bool} {Rel : α → α → Prop} (tr : ∀ a b c, Rel a b → Rel b c → Rel a c) {x : α} : ∀ {P : List α}, P.Pairwise (fun a b => Rel b a) → (∀ y ∈ P, (lt x y = true → Rel x y) ∧ (lt x y = false → Rel y x)) → (insB lt x P).Pairwise (fun a b => Rel b a)
 | [], _, _ => by rw [insB]; exact List.pairwise_singleton _ _
 | y :: r, hP, hx => by
  rw [insB];have h1 := List.pairwise_cons.1 hP
  cases hl : lt x y with
  | true =>
   refine List.pairwise_cons.2 ⟨fun z hz => ?_, insB_sorted tr h1.2 fun y hy => hx y (List.mem_cons_of_mem _ hy)⟩
   rcases List.mem_cons.1 ((insB_perm lt x r).mem_iff.1 hz) with rfl | hz
   ·exact (hx y List.mem_cons_self).1 hl
   ·exact h1.1 z hz
  | false =>
   refine List.pairwise_cons.2 ⟨fun z hz => ?_, hP⟩;have h2 := (hx y List.mem_cons_self).2 hl
   rcases List.mem_cons.1 hz with rfl | hz
   ·exact h2
   ·exact tr z y x (h1.1 z hz) h2
theorem insS_sorted {lt : α → α → Bool} {Rel : α → α → Prop} (tr : ∀ a b c, Rel a b → Rel b c → Rel a c) : ∀ {l P : List α}, P.Pairwise (fun a b => Rel b a) → (∀ y ∈ P, ∀ x ∈ l, (lt x y = true → Rel x y) ∧ (lt x y = false → Rel y x)) →
  l.Pairwise (fun y x => (lt x y = true → Rel x y) ∧ (lt x y = false → Rel y x)) → (insS lt P l).Pairwise Rel
 | [], P, hP, _, _ => by rw [insS]; exact List.pairwise_reverse.2 hP
 | x :: l, P, hP, hx, hl => by
  rw [insS];have h1 := List.pairwise_cons.1 hl;refine insS_sorted tr (insB_sorted tr hP fun y hy => hx y hy x List.mem_cons_self) (fun y hy z hz => ?_) h1.2
  rcases List.mem_cons.1 ((insB_perm lt x P).mem_iff.1 hy) with rfl | hy
  ·exact h1.1 z hz
  ·exact hx y hy z (List.mem_cons_of_mem _ hz)
theorem isort_sorted {lt : α → α → Bool} {Rel : α → α → Prop} (tr : ∀ a b c, Rel a b → Rel b c → Rel a c) {l : List α} (hl : l.Pairwise (fun y x => (lt x y = true → Rel x y) ∧ (lt x y = false → Rel y x))) : (isort lt l).Pairwise Rel :=
 insS_sorted tr List.Pairwise.nil (fun y hy => by cases hy) hl
theorem sorted_unique {Rel : α → α → Prop} : ∀ {a b : List α}, a.Perm b → a.Pairwise Rel → b.Pairwise Rel → (∀ x ∈ a, ∀ y ∈ a, Rel x y → Rel y x → x = y) → a = b
 | [], b, hp, _, _, _ => by rw [List.nil_perm.1 hp]
 | x :: t, [], hp, _, _, _ => by cases (List.perm_nil.1 hp)
 | x :: t, y :: s, hp, ha, hb, an => by
  have h1 := List.pairwise_cons.1 ha;have h2 := List.pairwise_cons.1 hb
  have hxy : x = y := by
   have hx : x ∈ y :: s := hp.mem_iff.1 List.mem_cons_self;have hy : y ∈ x :: t := hp.mem_iff.2 List.mem_cons_self
   rcases List.mem_cons.1 hx with e | hx
   ·exact e
   ·rcases List.mem_cons.1 hy with e | hy'
    ·exact e.symm
    ·exact an x List.mem_cons_self y hy (h1.1 y hy') (h2.1 x hx)
  subst hxy;rw [sorted_unique ((List.perm_cons x).1 hp) h1.2 h2.2 fun a ha b hb => an a (List.mem_cons_of_mem _ ha) b (List.mem_cons_of_mem _ hb)]
theorem ixO_app {P B : List α} {x : α} : ixO (P ++ x :: B) (P.length : Int) = some x := by
 unfold ixO;rw [decide_eq_true (by omega)]
 simp
theorem ixO_app' {P B : List α} {x : α} {n : Int} (h : n = (P.length : Int)) : ixO (P ++ x :: B) n = some x := by rw [h]; exact ixO_app
theorem set_app {P B : List α} {x y : α} {n : Nat} (h : n = P.length) : List.set (P ++ x :: B) n y = P ++ y :: B := by
 subst h;rw [List.set_append_right _ _ (Nat.le_refl _), Nat.sub_self, List.set_cons_zero]
end
theorem s252_l2_ok (rec1 : Int → List Int → Option (List Int)) (cmp : Int → Int → Option Int) (lt : Int → Int → Bool) (x1 : Int) (x : Int) : ∀ (P B : List Int) (k : Nat), P.length < k → (∀ y ∈ P, ∃ c, cmp x y = some c ∧ decide (c < 0) = lt x y) →
  s252_l2 rec1 0 cmp x1 k (P.length : Int) (P.reverse ++ x :: B) = rec1 (x1 + 1) ((insB lt x P).reverse ++ B)
 | [], B, 0, h, _ => by omega
 | [], B, k + 1, h, _ => by
  rw [s252_l2]
  have e : decide ((0 : Int) < (([] : List Int).length : Int)) = false := by simp
  simp only [e, cond_false, bindO, Bool.false_and, insB]
  simp
 | y :: r, B, 0, h, _ => by omega
 | y :: r, B, k + 1, h, hc => by
  have e : decide ((0 : Int) < ((y :: r).length : Int)) = true := by simp <;> omega
  have l1 : (y :: r).reverse ++ x :: B = (r.reverse ++ [y]) ++ x :: B := by simp
  have l2 : (r.reverse ++ [y]) ++ x :: B = r.reverse ++ y :: (x :: B) := by simp
  have i1 : ixO ((r.reverse ++ [y]) ++ x :: B) ((y :: r).length : Int) = some x := ixO_app' (by simp)
  have i2 : ixO ((r.reverse ++ [y]) ++ x :: B) (((y :: r).length : Int) - 1) = some y := by rw [l2]; exact ixO_app' (by simp)
  obtain ⟨c, c1, c2⟩ := hc y List.mem_cons_self;rw [s252_l2, l1];simp only [e, cond_true, i1, i2, bindO, c1, Bool.true_and, c2]
  cases hl : lt x y with
  | true =>
   have e1 : List.set ((r.reverse ++ [y]) ++ x :: B) (Int.toNat ((y :: r).length : Int)) y = (r.reverse ++ [y]) ++ y :: B := set_app (by simp)
   have e2 : List.set ((r.reverse ++ [y]) ++ y :: B) (Int.toNat (((y :: r).length : Int) - 1)) x = r.reverse ++ x :: (y :: B) := by
    rw [show (r.reverse ++ [y]) ++ y :: B = r.reverse ++ y :: (y :: B) by simp];exact set_app (by simp)
   have e3 : (((y :: r).length : Int) - 1) = (r.length : Int) := by simp
   have hih := s252_l2_ok rec1 cmp lt x1 x r (y :: B) k (by simp at h; omega) (fun z hz => hc z (List.mem_cons_of_mem _ hz))
   have i3 : ixO (List.set ((r.reverse ++ [y]) ++ x :: B) (Int.toNat ((y :: r).length : Int)) y) (((y :: r).length : Int) - 1) = some y := by
    rw [e1, show (r.reverse ++ [y]) ++ y :: B = r.reverse ++ y :: (y :: B) by simp];exact ixO_app' (by simp)
   rw [cond_true];simp only [i3];rw [e1, e2, e3, hih]
   simp [insB, hl]
  | false =>
   rw [cond_false]
   simp [insB, hl]
theorem s252_l1_ok (cmp : Int → Int → Option Int) (lt : Int → Int → Bool) : ∀ (l P : List Int), (∀ y ∈ P ++ l, ∀ x ∈ l, ∃ c, cmp x y = some c ∧ decide (c < 0) = lt x y) → s252_l1 0 cmp l.length (P.length : Int) (P.reverse ++ l) = some (insS lt P l)
 | [], P, _ => by rw [List.length_nil, s252_l1, insS, List.append_nil]
 | x :: l, P, h => by
  rw [List.length_cons, s252_l1, s252_l2_ok _ cmp lt _ x P l _ (by omega) (fun y hy => h y (List.mem_append_left _ hy) x List.mem_cons_self), insS]
  have := s252_l1_ok cmp lt l (insB lt x P) (fun y hy z hz => h y (by
   rcases List.mem_append.1 hy with hy | hy
   ·rcases List.mem_cons.1 ((insB_perm lt x P).mem_iff.1 hy) with rfl | hy
    ·simp
    ·simp [hy]
   ·simp [hy]) z (List.mem_cons_of_mem _ hz))
  rw [← this, insB_len]
  simp
theorem s252_ok {cmp : Int → Int → Option Int} {lt : Int → Int → Bool} {l : List Int} (h : ∀ y ∈ l, ∀ x ∈ l, ∃ c, cmp x y = some c ∧ decide (c < 0) = lt x y) : s252 l 0 (l.length : Int) cmp = some (isort lt l) := by
 unfold s252 isort
 cases l with
 | nil => rfl
 | cons x l =>
  have e : ((((x :: l).length : Int) - (0 + 1)).toNat) = l.length := by simp
  rw [e, insS];exact s252_l1_ok cmp lt l [x] (fun y hy z hz => h y hy z (List.mem_cons_of_mem _ hz))
theorem s234_l2_ok (rec1 : Int → List S151 → Option (List S151)) (cmp : S151 → S151 → Option Int) (lt : S151 → S151 → Bool) (x1 : Int) (x : S151) : ∀ (P B : List S151) (k : Nat), P.length < k → (∀ y ∈ P, ∃ c, cmp x y = some c ∧ decide (c < 0) = lt x y) →
  s234_l2 rec1 0 cmp x1 k (P.length : Int) (P.reverse ++ x :: B) = rec1 (x1 + 1) ((insB lt x P).reverse ++ B)
 | [], B, 0, h, _ => by omega
 | [], B, k + 1, h, _ => by
  rw [s234_l2]
  have e : decide ((0 : Int) < (([] : List S151).length : Int)) = false := by simp
  simp only [e, cond_false, bindO, Bool.false_and, insB]
  simp
 | y :: r, B, 0, h, _ => by omega
 | y :: r, B, k + 1, h, hc => by
  have e : decide ((0 : Int) < ((y :: r).length : Int)) = true := by simp <;> omega
  have l1 : (y :: r).reverse ++ x :: B = (r.reverse ++ [y]) ++ x :: B := by simp
  have l2 : (r.reverse ++ [y]) ++ x :: B = r.reverse ++ y :: (x :: B) := by simp
  have i1 : ixO ((r.reverse ++ [y]) ++ x :: B) ((y :: r).length : Int) = some x := ixO_app' (by simp)
  have i2 : ixO ((r.reverse ++ [y]) ++ x :: B) (((y :: r).length : Int) - 1) = some y := by rw [l2]; exact ixO_app' (by simp)
  obtain ⟨c, c1, c2⟩ := hc y List.mem_cons_self;rw [s234_l2, l1];simp only [e, cond_true, i1, i2, bindO, c1, Bool.true_and, c2]
  cases hl : lt x y with
  | true =>
   have e1 : List.set ((r.reverse ++ [y]) ++ x :: B) (Int.toNat ((y :: r).length : Int)) y = (r.reverse ++ [y]) ++ y :: B := set_app (by simp)
   have e2 : List.set ((r.reverse ++ [y]) ++ y :: B) (Int.toNat (((y :: r).length : Int) - 1)) x = r.reverse ++ x :: (y :: B) := by
    rw [show (r.reverse ++ [y]) ++ y :: B = r.reverse ++ y :: (y :: B) by simp];exact set_app (by simp)
   have e3 : (((y :: r).length : Int) - 1) = (r.length : Int) := by simp
   have hih := s234_l2_ok rec1 cmp lt x1 x r (y :: B) k (by simp at h; omega) (fun z hz => hc z (List.mem_cons_of_mem _ hz))
   have i3 : ixO (List.set ((r.reverse ++ [y]) ++ x :: B) (Int.toNat ((y :: r).length : Int)) y) (((y :: r).length : Int) - 1) = some y := by
    rw [e1, show (r.reverse ++ [y]) ++ y :: B = r.reverse ++ y :: (y :: B) by simp];exact ixO_app' (by simp)
   rw [cond_true];simp only [i3];rw [e1, e2, e3, hih]
   simp [insB, hl]
  | false =>
   rw [cond_false]
   simp [insB, hl]
theorem s234_l1_ok (cmp : S151 → S151 → Option Int) (lt : S151 → S151 → Bool) : ∀ (l P : List S151), (∀ y ∈ P ++ l, ∀ x ∈ l, ∃ c, cmp x y = some c ∧ decide (c < 0) = lt x y) → s234_l1 0 cmp l.length (P.length : Int) (P.reverse ++ l) = some (insS lt P l)
 | [], P, _ => by rw [List.length_nil, s234_l1, insS, List.append_nil]
 | x :: l, P, h => by
  rw [List.length_cons, s234_l1, s234_l2_ok _ cmp lt _ x P l _ (by omega) (fun y hy => h y (List.mem_append_left _ hy) x List.mem_cons_self), insS]
  have := s234_l1_ok cmp lt l (insB lt x P) (fun y hy z hz => h y (by
   rcases List.mem_append.1 hy with hy | hy
   ·rcases List.mem_cons.1 ((insB_perm lt x P).mem_iff.1 hy) with rfl | hy
    ·simp
    ·simp [hy]
   ·simp [hy]) z (List.mem_cons_of_mem _ hz))
  rw [← this, insB_len]
  simp
theorem s234_ok {cmp : S151 → S151 → Option Int} {lt : S151 → S151 → Bool} {l : List S151} (h : ∀ y ∈ l, ∀ x ∈ l, ∃ c, cmp x y = some c ∧ decide (c < 0) = lt x y) : s234 l 0 (l.length : Int) cmp = some (isort lt l) := by
 unfold s234 isort
 cases l with
 | nil => rfl
 | cons x l =>
  have e : ((((x :: l).length : Int) - (0 + 1)).toNat) = l.length := by simp
  rw [e, insS];exact s234_l1_ok cmp lt l [x] (fun y hy z hz => h y hy z (List.mem_cons_of_mem _ hz))
theorem s203_ok {cmp : Int → Int → Option Int} {lt : Int → Int → Bool} {l : List Int} (h : ∀ y ∈ l, ∀ x ∈ l, ∃ c, cmp x y = some c ∧ decide (c < 0) = lt x y) : s203 l cmp = some (isort lt l) := by
 unfold s203 s233;rw [s233_l1, s252_ok h];simp only [bindO];rw [s233_l2]
theorem s174_ok {cmp : S151 → S151 → Option Int} {lt : S151 → S151 → Bool} {l : List S151} (h : ∀ y ∈ l, ∀ x ∈ l, ∃ c, cmp x y = some c ∧ decide (c < 0) = lt x y) : s174 l cmp = some (isort lt l) := by
 unfold s174 s205;rw [s205_l1, s234_ok h];simp only [bindO]
theorem s170_l (f : S104 → S151) (l : List S104) (k : Nat) (x : List S151) : s170_l1 f l k x = x ++ l.map f := by
 induction l generalizing k x with
 | nil => simp [s170_l1]
 | cons y l ih => rw [s170_l1, ih]; simp
theorem s170_eq (l : List S104) (f : S104 → S151) : s170 l f = l.map f := by unfold s170; rw [s170_l]; rfl
theorem s171_l (f : S104 → Bool) (l : List S104) (k : Nat) (x : List S104) : s171_l1 f l k x = x ++ l.filter f := by
 induction l generalizing k x with
 | nil => simp [s171_l1]
 | cons y l ih =>
  rw [s171_l1]
  cases h : f y
  ·simp only [cond_false, s171_j1, ih];rw [List.filter_cons, if_neg (by simp [h])]
  ·simp only [cond_true, s171_j1, ih];rw [List.filter_cons, if_pos h]; simp
theorem s171_eq (l : List S104) (f : S104 → Bool) : s171 l f = l.filter f := by unfold s171; rw [s171_l]; rfl
theorem len170 (l : List S104) (f : S104 → S151) : (s170 l f).length = l.length := by rw [s170_eq, List.length_map]
theorem len171 (l : List S104) (f : S104 → Bool) : (s171 l f).length ≤ l.length := by rw [s171_eq]; exact List.length_filter_le _ _
end Go.Sim
set_option maxRecDepth 10000
namespace Go.Sim
open Go.Proofs
def s121 (a0 : List S104) : Option (List S151) :=
 bindO (s174 (s170 (s171 a0 s172) s173) (fun x0_ x1_ => some (s175 x0_ x1_))) fun r1 => some r1
def s122 (a0 : S23) (a1 : List S151) (a2 : List S104) : Int :=
 (s84 [(s23 a0), (s25 a1), (s27 a2)])
theorem c122 {g : List (Nat × List Value)} (a0 : S23) (a1 : List S151) (a2 : List S104)  (hb1 : a1.length * 40 ≤ 140737488351232) (hb2 : a2.length * 96 ≤ 140737488351232)  : Con (EG g) 36 [G.agg [G.int a0.Before, G.int a0.After, G.int a0.Notice, G.int a0.Share, G.sl 1 (List.map cStr a0.Causes), G.int a0.Off, G.int a0.Run], G.sl 3 (List.map S151.c a1), G.sl 8 (List.map S104.c a2)] (G.int (s122 a0 a1 a2)) := by
 generalize hR : s122 a0 a1 a2 = R;unfold s122 at hR;refine con_of_aw Tryz.func36 rfl rfl fun w0 M0 => ?_;refine len_sl (f := S151.c) (l := a1) 1 rfl fun hla1 => ?_;refine len_sl (f := S104.c) (l := a2) 2 rfl fun hla2 => ?_;refine aw_seq ?_;refine aw_region [.p, .p] ?_;refine su (eff_box rfl rfl) rfl ?_;refine sa rfl rfl ?_;refine st_nil ?_;refine aw_seq ?_;refine aw_region [.p, .p, .p, .p, .p, .p, .p, .p, .p] ?_;refine su (eff_loadA rfl ty24 rfl rfl rfl) rfl ?_;refine su (eff_call rfl K23 rfl (c23 a0) (ag_cons rfl ag_nil)) rfl ?_;refine sm rfl rfl ?_;refine su (eff_call rfl K25 rfl (c25 a1) (ag_cons rfl ag_nil)) rfl ?_;refine sm rfl rfl ?_;refine su (eff_call rfl K27 rfl (c27 a2) (ag_cons rfl ag_nil)) rfl ?_;refine su (eff_buildSlice rfl Tryz.underlying156 ty37 z37 rfl (ps_cons rfl (ps_cons rfl (ps_cons rfl ps_nil))) rfl (by simp []) (by decide)) rfl ?_;refine su (eff_call rfl K84 rfl (c84 [(s23 a0), (s25 a1), (s27 a2)]) (ag_cons rfl ag_nil)) rfl ?_;refine sa rfl rfl ?_;refine st_nil ?_;refine aw_ret ?_;subst hR;exact res_c rfl (rv_g rfl)
theorem len121 {a : List S104} {r : List S151} (h : s121 a = some r) : r.length ≤ a.length := by
 unfold s121 at h;obtain ⟨y, h1, h⟩ := bindO_inv h
 cases h
 have g1 := len174 h1;have g2 := len170 (s171 a s172) s173;have g3 := len171 a s172
 omega
end Go.Sim
set_option maxRecDepth 10000
namespace Go.Sim
open Go.Proofs
def s124_l2 (x2 : List Int) : List S154 → Nat → (List Int) → Option (List Int)
 | [], k14, x12 => some x12
 | y15 :: t16, k14, x12 => bindO (ixO x2 y15.Slot) fun y17 => bindO (ixO x12 y17) fun y18 => s124_l2 x2 t16 (k14 + 1) (List.set x12 (Int.toNat y17) 1)
def s124_j1 (rec1 : Nat → (List S151) → (List Int) → (List Int) → Option (List Int)) (k6 : Nat) (x19 : List S151) (x20 : List Int) (x21 : List Int) : Option (List Int) :=
 rec1 (k6 + 1) x19 x20 x21
def s124_j2 (rec1 : Nat → (List S151) → (List Int) → (List Int) → Option (List Int)) (x1 : List S151) (x2 : List Int) (k6 : Nat) (y7 : S151) (x23 : List Int) : Option (List Int) :=
 s124_j1 rec1 k6 (x1 ++ [y7]) (x2 ++ [((k6 : Nat) : Int)]) x23
def s124_l1 (a0 : S23) (a2 : List S104) : List S151 → Nat → (List S151) → (List Int) → (List Int) → Option (List Int)
 | [], k6, x1, x2, x4 => bindO (s121 a2) fun r9 => bindO (s115 a0 x1 r9) fun r10 => s124_l2 x2 r10 0 x4
 | y7 :: t8, k6, x1, x2, x4 => (bif (s177 a0 y7 a2) then bindO (ixO x4 ((k6 : Nat) : Int)) fun y25 => s124_j1 (fun k_ z0_ z1_ z2_ => s124_l1 a0 a2 t8 k_ z0_ z1_ z2_) k6 x1 x2 (List.set x4 (Int.toNat ((k6 : Nat) : Int)) 0) else (bif (s178 a0 y7 a2) then bindO (ixO x4 ((k6 : Nat) : Int)) fun y26 => s124_j2 (fun k_ z0_ z1_ z2_ => s124_l1 a0 a2 t8 k_ z0_ z1_ z2_) x1 x2 k6 y7 (List.set x4 (Int.toNat ((k6 : Nat) : Int)) 2) else bindO (ixO x4 ((k6 : Nat) : Int)) fun y27 => s124_j2 (fun k_ z0_ z1_ z2_ => s124_l1 a0 a2 t8 k_ z0_ z1_ z2_) x1 x2 k6 y7 (List.set x4 (Int.toNat ((k6 : Nat) : Int)) 3)))
def s124 (a0 : S23) (a1 : List S151) (a2 : List S104) : Option (List Int) :=
 s124_l1 a0 a2 a1 0 [] [] (List.replicate (List.length a1) 0)
end Go.Sim
set_option maxRecDepth 10000
namespace Go.Sim
open Go.Proofs
def s58_l1  : List Int → Nat → Int → Int → Option (S55 × Int)
 | [], k5, x3, x4 => some ((S55.mk x3 x4), 0)
 | y6 :: t7, k5, x3, x4 => s58_l1  t7 (k5 + 1) ((s126 (S55.mk x3 x4) y6).Flown) ((s126 (S55.mk x3 x4) y6).Due)
def s58 (a0 : S23) (a1 : List S151) (a2 : List S104) : Option (S55 × Int) :=
 (bif decide ((s122 a0 a1 a2) ≠ 0) then some ((S55.mk 0 0), (s122 a0 a1 a2)) else bindO (s124 a0 a1 a2) fun r1 => s58_l1 r1 0 0 0)
end Go.Sim
set_option maxRecDepth 10000
namespace Go.Sim
open Go.Proofs
def s2012  : S23 :=
 (S23.mk 60 60 0 80 [⟨#[115, 116, 114, 105, 107, 101]⟩] 60 1)
theorem c2012 {g : List (Nat × List Value)}     : Con (EG g) 12 [] (G.agg [G.int s2012.Before, G.int s2012.After, G.int s2012.Notice, G.int s2012.Share, G.sl 1 (List.map cStr s2012.Causes), G.int s2012.Off, G.int s2012.Run]) := by
 generalize hR : s2012  = R;unfold s2012 at hR;refine con_of_aw Tryz.func12 rfl rfl fun w0 M0 => ?_;refine aw_seq ?_;refine aw_region [.w] ?_;refine sw (eff_alloc 0 rfl z24 rfl rfl) rfl ?_;refine st_nil ?_;refine aw_seq ?_;refine aw_region [.p, .p, .w] ?_;refine su (eff_buildSlice rfl Tryz.underlying45 ty9 z9 rfl (ps_cons rfl ps_nil) rfl (by simp []) (by decide)) rfl ?_;refine su (eff_build rfl z24 rfl pl24 (pb_cons rfl (pb_cons rfl (pb_cons rfl (pb_cons rfl (pb_cons rfl (pb_cons rfl pb_nil)))))) rfl) rfl ?_;refine st_wn rfl rfl (eff_store (tv := .g (G.agg [G.int 60, G.int 60, G.int 0, G.int 80, G.sl 1 (List.map cStr [⟨#[115, 116, 114, 105, 107, 101]⟩]), G.int 60, G.int 1])) rfl ty24 rfl rfl rfl rfl rfl) ?_;refine st_nil ?_;refine aw_ret ?_;subst hR;exact res_c rfl (rv_cell rfl rfl ty24 rfl rfl)
def s2005 (a0 : S45) (a1 : Int) : Bool :=
 (((decide ((s40 a0) = 0)) && (decide (IntKind.i64.wrap (a0.fTo - a0.fFrom) ≤ 40))) && (decide (100 ≤ a1))) && (decide (a1 ≤ 1300))
theorem c2005 {g : List (Nat × List Value)} (a0 : S45) (a1 : Int)    : Con (EG g) 5 [G.agg [G.int a0.fFrom, G.int a0.fTo, G.int a0.Days], G.int a1] (G.bool (s2005 a0 a1)) := by
 generalize hR : s2005 a0 a1 = R;unfold s2005 at hR;refine con_of_aw Tryz.func5 rfl rfl fun w0 M0 => ?_;refine aw_seq ?_;refine aw_region [.p, .p] ?_;refine su (eff_box rfl rfl) rfl ?_;refine sa rfl rfl ?_;refine st_nil ?_;refine aw_seq ?_;refine aw_region [.p, .p, .p, .p, .p, .p, .p, .p, .p, .p, .p, .p, .p, .p, .p, .p, .p, .p, .p, .p] ?_;refine su (eff_loadA rfl ty46 rfl rfl rfl) rfl ?_;refine su (eff_call rfl K40 rfl (c40 a0) (ag_cons rfl ag_nil)) rfl ?_;refine su (eff_eql rfl rfl rfl) rfl ?_;refine sm rfl rfl ?_;refine sg rfl rfl (fun h => eff_fieldAddr rfl fl46_1 rfl) rfl ?_;refine sg rfl rfl (fun h => eff_load rfl ty3 (gd h rfl)) rfl ?_;refine sg rfl rfl (fun h => eff_fieldAddr rfl fl46_0 rfl) rfl ?_;refine sg rfl rfl (fun h => eff_load rfl ty3 (gd h rfl)) rfl ?_;refine sg rfl rfl (fun h => eff_subw rfl (gd h rfl) (gd h rfl)) rfl ?_;refine sg rfl rfl (fun h => eff_leq rfl (gd h rfl) rfl) rfl ?_;refine su (eff_and rfl rfl rfl rfl) rfl ?_;refine sm rfl rfl ?_;refine sg rfl rfl (fun h => eff_moveg rfl rfl) rfl ?_;refine sg rfl rfl (fun h => eff_geq rfl (gd h rfl) rfl) rfl ?_;refine su (eff_and rfl rfl rfl rfl) rfl ?_;refine sm rfl rfl ?_;refine sg rfl rfl (fun h => eff_moveg rfl rfl) rfl ?_;refine sg rfl rfl (fun h => eff_leq rfl (gd h rfl) rfl) rfl ?_;refine su (eff_and rfl rfl rfl rfl) rfl ?_;refine sa rfl rfl ?_;refine st_nil ?_;refine aw_ret ?_;subst hR;exact res_c rfl (rv_g rfl)
theorem insS_id {α : Type} (lt : α → α → Bool) : ∀ (l P : List α), (∀ y ∈ P, ∀ x ∈ l, lt x y = false) → l.Pairwise (fun y x => lt x y = false) → insS lt P l = P.reverse ++ l
 | [], P, _, _ => by rw [insS, List.append_nil]
 | x :: l, P, h, hp => by
  have hc := List.pairwise_cons.1 hp
  have e : insB lt x P = x :: P := by
   cases P with
   | nil => rfl
   | cons y r => rw [insB, h y List.mem_cons_self x List.mem_cons_self]; rfl
  rw [insS, e, insS_id lt l (x :: P) (fun y hy z hz => by
   rcases List.mem_cons.1 hy with rfl | hy
   ·exact hc.1 z hz
   ·exact h y hy z (List.mem_cons_of_mem _ hz)) hc.2]
  simp
theorem isort_id {α : Type} {lt : α → α → Bool} {l : List α} (hp : l.Pairwise (fun y x => lt x y = false)) : isort lt l = l := by
 unfold isort;rw [insS_id lt l [] (by simp) hp]; rfl
structure UpC {α : Type} (l : List α) (cmp : α → α → Option Int) : Prop where
 tot : ∀ x ∈ l, ∀ y ∈ l, ∃ r, cmp x y = some r
 up : ∀ (i j : Nat) (x y : α) (r : Int), i < j → l[i]? = some x → l[j]? = some y → cmp y x = some r → 0 ≤ r
theorem ixO_ex {α : Type} {l : List α} {i : Int} (h0 : 0 ≤ i) (h : i < (l.length : Int)) : ∃ x, ixO l i = some x := by
 unfold ixO;rw [decide_eq_true h0, cond_true];exact ⟨_, List.getElem?_eq_getElem (by omega)⟩
theorem bif_ex {α : Type} {c : Bool} {x : Option α} {d : α} (h : c = true → ∃ z, x = some z) : ∃ z, (bif c then x else some d) = some z := by
 cases c
 ·exact ⟨d, rfl⟩
 ·exact h rfl
theorem UpC.ex {α : Type} {l : List α} {cmp : α → α → Option Int} (h : UpC l cmp) {i j : Int} {x y : α} (hx : ixO l i = some x) (hy : ixO l j = some y) : ∃ r, cmp x y = some r :=
 h.tot x (List.mem_of_getElem? (ixO_get hx)) y (List.mem_of_getElem? (ixO_get hy))
theorem UpC.ge {α : Type} {l : List α} {cmp : α → α → Option Int} (h : UpC l cmp) {i j : Int} {x y : α} {r : Int} (hy : ixO l j = some y) (hx : ixO l i = some x) (hr : cmp y x = some r) (hij : i < j) : 0 ≤ r :=
 h.up i.toNat j.toNat x y r (by have := ixO_nn hx; have := ixO_nn hy; omega) (ixO_get hx) (ixO_get hy) hr
section
variable {E : Env} {o : Oper} {ev : Operand → TV}
theorem wrap_u64 {n : Int} (h : 0 ≤ n) (h' : n ≤ 9223372036854775807) : IntKind.u64.wrap n = n := by
 have e : IntKind.u64.wrap n = n % 18446744073709551616 := by
  simp [IntKind.wrap, IntKind.bits, IntKind.signed]
 rw [e]; omega
theorem eff_convu {s t : TypeId} {x : Operand} {n : Int} {ds : TypeDesc} (ho : o.op = .convert s t x) (hs : E.P.underlying s = some ds) (ht : E.P.underlying t = some (.int .u64)) (hx : ev x = .g (.int n)) (h : 0 ≤ n) (h' : n ≤ 9223372036854775807) (mem : Mem) : Eff E o mem ev (.g (.lit (.int .u64 n))) := by
 have := eff_conv (E := E) ho hs ht hx mem
 rwa [wrap_u64 h h'] at this
theorem eff_convi {s t : TypeId} {x : Operand} {n : Int} {ds : TypeDesc} (ho : o.op = .convert s t x) (hs : E.P.underlying s = some ds) (ht : E.P.underlying t = some (.int .i64)) (hx : ev x = .g (.lit (.int .u64 n))) (h : I64 n) (mem : Mem) : Eff E o mem ev (.g (.int n)) := by
 have := eff_conv (E := E) ho hs ht hx mem
 rwa [wrap_i64 h] at this
theorem eff_half {t t' : TypeId} {x y : Operand} {k : IntKind} {a : Int} (ho : o.op = .binOp .shr t x y t') (hx : ev x = .g (.lit (.int .u64 a))) (hy : ev y = .g (.lit (.int k 1))) (h0 : 0 ≤ a) (mem : Mem) : Eff E o mem ev (.g (.lit (.int .u64 (a / 2)))) :=
 eff_bin ho hx hy (fun w => ⟨.int .u64 (a / 2), by
  have h1 : Int.fdiv a (2 ^ min (1 : Int).toNat IntKind.u64.bits) = a / 2 := Int.fdiv_eq_ediv_of_nonneg a (by decide);simp only [eqGuard, binOp, Op.shift, h1]
  rfl, fun _ => rfl⟩) mem
end
end Go.Sim
set_option maxRecDepth 10000
namespace Go.Sim
open Go.Proofs
theorem c252S {g : List (Nat × List Value)} (a0 : List Int) (a1 : Int) (a2 : Int) (a3 : Int → Int → Option Int) {N0 : Nat} (hN0 : List.length a0 = N0) {ca3 : G} {ia3 : FuncId} {ka3 : List G} (ha3 : FnIs ca3 ia3 ka3) (Ka3 : Known Tryz.prog ia3) (Ha3 : ∀ (x0 : Int) (x1 : Int) (r : Int), a3 x0 x1 = some r → Con (EG g) ia3 ([G.int x0, G.int x1] ++ ka3) (G.int r)) (hA : 0 ≤ a1) (hA2 : a1 ≤ 2000) (hB : a2 ≤ (a0.length : Int)) (hL : a0.length ≤ 1000) (hU : UpC a0 a3)  : ConB (EG g) 215 [.osl 0 1 0 N0, .g (G.int a1), .g (G.int a2), .g (ca3)] [(0, .arr 3 1 (List.map cInt a0))] (G.tup []) [(0, .arr 3 1 (List.map cInt (a0 : List Int)))] := by
 refine conB_of_aw Tryz.func215 rfl rfl rfl fun w0 M0 x => ?_;refine len_osl (f := cInt) (l := a0) 0 rfl fun hla0 => ?_;refine aw_seq ?_;refine aw_region [.p, .p, .p] ?_;refine sm rfl rfl ?_;refine su (eff_add rfl rfl rfl iF) rfl ?_;refine sa rfl rfl ?_;refine st_nil ?_;refine aw_block ?_;refine aw_loop_g (γ := Nat × Int) (fun g => ([(0, .osl 0 1 0 (N0)), (1, .g (G.int a1)), (2, .g (G.int a2)), (3, .g (ca3)), (8, .g (G.int g.2))], [(0, .arr 3 1 (List.map cInt a0))])) (fun g => (a2 - g.2).toNat < g.1 ∧ a1 < g.2 ∧ g.2 ≤ 3000) (fun g => g.1) ⟨rfl, (((a2 - (a1 + 1)).toNat) + 1, a1 + 1), ⟨rfl, rfl, rfl, rfl, rfl, trivial⟩, ⟨rfl, trivial⟩, rfl, ⟨Nat.lt_succ_self _, iD, iD⟩, trivial⟩ ?_
 ·rintro ⟨k2, x1⟩ ⟨hk1, iv1_0, iv1_1⟩;replace hk1 : (a2 - x1).toNat < k2 := hk1;replace iv1_0 : a1 < x1 := iv1_0;replace iv1_1 : x1 ≤ 3000 := iv1_1;obtain ⟨k2, rfl⟩ : ∃ m, k2 = m + 1 := ⟨k2 - 1, by omega⟩;refine aw_seq ?_;refine aw_seq ?_;refine aw_region [.p, .p, .p] ?_;refine sm rfl rfl ?_;refine sm rfl rfl ?_;refine su (eff_lss rfl rfl rfl) rfl ?_;refine st_nil ?_;refine aw_cond _ rfl (fun h1 => ?_) (fun h1 => ?_)
  ·replace h1 : (decide (x1 < a2)) = true := h1;(try simp only [bB] at h1);refine aw_skip ?_;refine aw_seq ?_;refine aw_block ?_;refine aw_seq ?_;refine aw_region [.p, .p] ?_;refine sm rfl rfl ?_;refine sa rfl rfl ?_;refine st_nil ?_;refine aw_block ?_;refine aw_loop_g (γ := Nat) (fun g => ([(0, .osl 0 1 0 (N0)), (1, .g (G.int a1)), (2, .g (G.int a2)), (3, .g (ca3)), (8, .g (G.int x1)), (9, .g (G.int x1))], [(0, .arr 3 1 (List.map cInt a0))])) (fun g => (0 : Nat) < g) (fun g => g) ⟨rfl, ((0 : Nat)) + 1, ⟨rfl, rfl, rfl, rfl, rfl, rfl, trivial⟩, ⟨rfl, trivial⟩, rfl, (Nat.lt_succ_self _), trivial⟩ ?_
   ·rintro k3 hk2;replace hk2 : (0 : Nat) < k3 := hk2;obtain ⟨k3, rfl⟩ : ∃ m, k3 = m + 1 := ⟨k3 - 1, by omega⟩;refine aw_seq ?_;refine aw_seq ?_;obtain ⟨y4, by4⟩ : ∃ z_, (bif decide (a1 < x1) then ixO a0 x1 else some default) = some z_ := (bif_ex fun hq_ => ixO_ex (by simp only [bB] at hq_; omega) (by simp only [bB] at hq_; omega));obtain ⟨y5, by5⟩ : ∃ z_, (bif decide (a1 < x1) then ixO a0 (x1 - 1) else some default) = some z_ := (bif_ex fun hq_ => ixO_ex (by simp only [bB] at hq_; omega) (by simp only [bB] at hq_; omega));obtain ⟨r6, br6⟩ : ∃ z_, (bif decide (a1 < x1) then a3 y4 y5 else some default) = some z_ := (bif_ex fun hq_ => hU.ex (condT by4 hq_) (condT by5 hq_));refine aw_draw [.p, .p, .p, .p, .p, .p, .p, .p, .r, .p, .p, .p, .p, .r, .p, .p, .p] (by kernel_rfl) ?_;refine sm rfl rfl ?_;refine sm rfl rfl ?_;refine su (eff_gtr rfl rfl rfl) rfl ?_;refine sm rfl rfl ?_;refine sg rfl rfl (fun h => eff_moveg rfl rfl) rfl ?_;refine sg rfl rfl (fun h => eff_moveO rfl rfl) rfl ?_;refine sg rfl rfl (fun h => eff_moveg rfl rfl) rfl ?_;refine sg rfl rfl (fun h => eff_ixL rfl Tryz.underlying64 ty3 (gd h rfl) (gd h rfl) (ixO_nn (condT1 by4 h)) (Nat.lt_of_lt_of_eq (get_lt (ixO_get (condT1 by4 h))) hN0)) rfl ?_;refine st_gr rfl rfl rfl (gb_bool _ _) (fun h => eff_ldE (f := cInt) (l := a0) (a := y4) rfl ty3 (gd h rfl) rfl (ixO_get (condT1 by4 h)) rfl) rfl ?_;refine sg rfl rfl (fun h => eff_moveO rfl rfl) rfl ?_;refine sg rfl rfl (fun h => eff_moveg rfl rfl) rfl ?_;refine sg rfl rfl (fun h => eff_sub rfl (gd h rfl) rfl iF) rfl ?_;refine sg rfl rfl (fun h => eff_ixL rfl Tryz.underlying64 ty3 (gd h rfl) (gd h rfl) (ixO_nn (condT1 by5 h)) (Nat.lt_of_lt_of_eq (get_lt (ixO_get (condT1 by5 h))) hN0)) rfl ?_;refine st_gr rfl rfl rfl (gb_bool _ _) (fun h => eff_ldE (f := cInt) (l := a0) (a := y5) rfl ty3 (gd h rfl) rfl (ixO_get (condT1 by5 h)) rfl) rfl ?_;refine sg rfl rfl (fun h => eff_callf rfl ha3 Ka3 (gd h rfl) (Con.lend (Ha3 y4 y5 _ (condT1 br6 h))) (ag_cons (gd h rfl) (ag_cons (gd h rfl) ag_nil))) rfl ?_;refine sg rfl rfl (fun h => eff_lss rfl (gd h rfl) rfl) rfl ?_;refine su (eff_and rfl rfl rfl rfl) rfl ?_;refine st_nil ?_;refine aw_cond _ rfl (fun h2 => ?_) (fun h2 => ?_)
    ·replace h2 : ((decide (a1 < x1)) && (decide (r6 < 0))) = true := h2;(try simp only [bB] at h2)
     exfalso; have c_ := decide_eq_true h2.1; have q_ := hU.ge (condT by4 c_) (condT by5 c_) (condT br6 c_) (by omega); omega
    ·replace h2 : ((decide (a1 < x1)) && (decide (r6 < 0))) = false := h2;(try simp only [bB] at h2);refine aw_exit ?_;refine aw_region [.p, .p, .p] ?_;refine sm rfl rfl ?_;refine su (eff_add rfl rfl rfl iF) rfl ?_;refine sa rfl rfl ?_;refine st_nil ?_;exact ⟨rfl, (k2, x1 + 1), ⟨rfl, rfl, rfl, rfl, rfl, trivial⟩, ⟨rfl, trivial⟩, rfl, ⟨iB, iB, iB⟩, by simp⟩
  ·replace h1 : (decide (x1 < a2)) = false := h1;(try simp only [bB] at h1);refine aw_exit ?_;show ResOk _ _ _ _ ∧ MemL _ _;exact ⟨res0 rfl, ⟨rfl, trivial⟩⟩
theorem c253r {g : List (Nat × List Value)} (kf_ : Nat) : ∀ (a0 : List Int) (a1 : Int) (a2 : Int) (a3 : Int) (a4 : Int → Int → Option Int) {N0 : Nat} (hN0 : List.length a0 = N0) {ca4 : G} {ia4 : FuncId} {ka4 : List G} (ha4 : FnIs ca4 ia4 ka4) (Ka4 : Known Tryz.prog ia4) (Ha4 : ∀ (x0 : Int) (x1 : Int) (r : Int), a4 x0 x1 = some r → Con (EG g) ia4 ([G.int x0, G.int x1] ++ ka4) (G.int r)) (hk : (a3 - a1).toNat < kf_) (hA : 0 ≤ a1) (hM : a1 < a2) (hN : a2 < a3) (hB : a3 ≤ (a0.length : Int)) (hL : a0.length ≤ 1000) (hU : UpC a0 a4) , ConB (EG g) 286 [.osl 0 1 0 N0, .g (G.int a1), .g (G.int a2), .g (G.int a3), .g (ca4)] [(0, .arr 3 1 (List.map cInt a0))] (G.tup []) [(0, .arr 3 1 (List.map cInt (a0 : List Int)))] := by
 induction kf_ with
 | zero => intro a0 a1 a2 a3 a4 N0 hN0 ca4 ia4 ka4 ha4 Ka4 Ha4 hk hA hM hN hB hL hU; omega
 | succ kf_ ih =>
 intro a0 a1 a2 a3 a4 N0 hN0 ca4 ia4 ka4 ha4 Ka4 Ha4 hk hA hM hN hB hL hU;refine conB_of_aw Tryz.func286 rfl rfl rfl fun w0 M0 x => ?_;refine len_osl (f := cInt) (l := a0) 0 rfl fun hla0 => ?_;refine aw_seq ?_;refine aw_seq ?_;refine aw_region [.p, .p, .p, .p] ?_;refine sm rfl rfl ?_;refine sm rfl rfl ?_;refine su (eff_sub rfl rfl rfl iF) rfl ?_;refine su (eff_eql rfl rfl rfl) rfl ?_;refine st_nil ?_;refine aw_cond _ rfl (fun h1 => ?_) (fun h1 => ?_)
 ·replace h1 : (decide (a2 - a1 = 1)) = true := h1;(try simp only [bB] at h1);refine aw_seq ?_;refine aw_region [.p, .p] ?_;refine sm rfl rfl ?_;refine sa rfl rfl ?_;refine st_nil ?_;refine aw_seq ?_;refine aw_region [.p, .p] ?_;refine sm rfl rfl ?_;refine sa rfl rfl ?_;refine st_nil ?_;refine aw_seq ?_;refine aw_block ?_;refine aw_loop_g (γ := Nat × Int) (fun g => ([(0, .osl 0 1 0 (N0)), (1, .g (G.int a1)), (4, .g (ca4)), (10, .g (G.int a2)), (11, .g (G.int g.2))], [(0, .arr 3 1 (List.map cInt a0))])) (fun g => (g.2 - a2).toNat < g.1 ∧ a2 ≤ g.2 ∧ g.2 ≤ a3) (fun g => g.1) ⟨rfl, (((a3 - a2).toNat) + 1, a3), ⟨rfl, rfl, rfl, rfl, rfl, trivial⟩, ⟨rfl, trivial⟩, rfl, ⟨Nat.lt_succ_self _, iD, iD⟩, trivial⟩ ?_
  ·rintro ⟨k2, x1⟩ ⟨hk1, iv1_0, iv1_1⟩;replace hk1 : (x1 - a2).toNat < k2 := hk1;replace iv1_0 : a2 ≤ x1 := iv1_0;replace iv1_1 : x1 ≤ a3 := iv1_1;obtain ⟨k2, rfl⟩ : ∃ m, k2 = m + 1 := ⟨k2 - 1, by omega⟩;refine aw_seq ?_;refine aw_seq ?_;refine aw_region [.p, .p, .p] ?_;refine sm rfl rfl ?_;refine sm rfl rfl ?_;refine su (eff_lss rfl rfl rfl) rfl ?_;refine st_nil ?_;refine aw_cond _ rfl (fun h2 => ?_) (fun h2 => ?_)
   ·replace h2 : (decide (a2 < x1)) = true := h2;(try simp only [bB] at h2);refine aw_skip ?_;refine aw_block ?_;refine aw_seq ?_;refine aw_region [.p, .p, .p, .p, .p, .p, .p] ?_;refine sm rfl rfl ?_;refine sm rfl rfl ?_;refine su (eff_add rfl rfl rfl iF) rfl ?_;refine su (eff_convu rfl Tryz.underlying3 Tryz.underlying255 rfl (by (try dsimp only); omega) (by (try dsimp only); omega)) rfl ?_;refine su (eff_half rfl rfl rfl (by (try dsimp only); omega)) rfl ?_;refine su (eff_convi rfl Tryz.underlying255 Tryz.underlying3 rfl iF) rfl ?_;refine sa rfl rfl ?_;refine st_nil ?_;refine aw_seq ?_;obtain ⟨y3, by3⟩ : ∃ z_, (ixO a0 ((a2 + x1) / 2)) = some z_ := (ixO_ex (by omega) (by omega));obtain ⟨y4, by4⟩ : ∃ z_, (ixO a0 a1) = some z_ := (ixO_ex (by omega) (by omega));obtain ⟨r5, br5⟩ : ∃ z_, (a4 y3 y4) = some z_ := (hU.ex by3 by4);refine aw_draw [.p, .p, .p, .p, .r, .p, .p, .p, .r, .p, .p] (by kernel_rfl) ?_;refine sm rfl rfl ?_;refine su (eff_moveO rfl rfl) rfl ?_;refine sm rfl rfl ?_;refine su (eff_ixL rfl Tryz.underlying64 ty3 rfl rfl (ixO_nn by3) (Nat.lt_of_lt_of_eq (get_lt (ixO_get by3)) hN0)) rfl ?_;refine sr (eff_ldE (f := cInt) (l := a0) (a := y3) rfl ty3 rfl rfl (ixO_get by3) rfl) rfl ?_;refine su (eff_moveO rfl rfl) rfl ?_;refine sm rfl rfl ?_;refine su (eff_ixL rfl Tryz.underlying64 ty3 rfl rfl (ixO_nn by4) (Nat.lt_of_lt_of_eq (get_lt (ixO_get by4)) hN0)) rfl ?_;refine sr (eff_ldE (f := cInt) (l := a0) (a := y4) rfl ty3 rfl rfl (ixO_get by4) rfl) rfl ?_;refine su (eff_callf rfl ha4 Ka4 rfl (Con.lend (Ha4 y3 y4 _ br5)) (ag_cons rfl (ag_cons rfl ag_nil))) rfl ?_;refine su (eff_lss rfl rfl rfl) rfl ?_;refine st_nil ?_;refine aw_cond _ rfl (fun h3 => ?_) (fun h3 => ?_)
    ·replace h3 : (decide (r5 < 0)) = true := h3;(try simp only [bB] at h3)
     exfalso; have q_ := hU.ge by3 by4 br5 (by omega); omega
    ·replace h3 : (decide (r5 < 0)) = false := h3;(try simp only [bB] at h3);refine aw_region [.p, .p] ?_;refine sm rfl rfl ?_;refine sa rfl rfl ?_;refine st_nil ?_;exact ⟨rfl, (k2, (a2 + x1) / 2), ⟨rfl, rfl, rfl, rfl, rfl, trivial⟩, ⟨rfl, trivial⟩, rfl, ⟨iB, iB, iB⟩, by simp⟩
   ·replace h2 : (decide (a2 < x1)) = false := h2;(try simp only [bB] at h2);refine aw_exit ?_;refine aw_seq ?_;refine aw_seq ?_;refine aw_region [.p, .p] ?_;refine sm rfl rfl ?_;refine sa rfl rfl ?_;refine st_nil ?_;refine aw_block ?_;refine aw_loop_g (γ := Nat) (fun g => ([(10, .g (G.int a2)), (13, .g (G.int a1))], [(0, .arr 3 1 (List.map cInt a0))])) (fun g => (0 : Nat) < g) (fun g => g) ⟨rfl, ((0 : Nat)) + 1, ⟨rfl, rfl, trivial⟩, ⟨rfl, trivial⟩, rfl, (Nat.lt_succ_self _), trivial⟩ ?_
    ·rintro k6 hk2;replace hk2 : (0 : Nat) < k6 := hk2;obtain ⟨k6, rfl⟩ : ∃ m, k6 = m + 1 := ⟨k6 - 1, by omega⟩;refine aw_seq ?_;refine aw_seq ?_;refine aw_region [.p, .p, .p, .p] ?_;refine sm rfl rfl ?_;refine sm rfl rfl ?_;refine su (eff_sub rfl rfl rfl iF) rfl ?_;refine su (eff_lss rfl rfl rfl) rfl ?_;refine st_nil ?_;refine aw_cond _ rfl (fun h4 => ?_) (fun h4 => ?_)
     ·replace h4 : (decide (a1 < a2 - 1)) = true := h4;(try simp only [bB] at h4)
      exfalso; omega
     ·replace h4 : (decide (a1 < a2 - 1)) = false := h4;(try simp only [bB] at h4);refine aw_exit ?_;refine aw_ret ?_;show ResOk _ _ _ _ ∧ MemL _ _;exact ⟨res0 rfl, ⟨rfl, trivial⟩⟩
 ·replace h1 : (decide (a2 - a1 = 1)) = false := h1;(try simp only [bB] at h1);refine aw_skip ?_;refine aw_seq ?_;refine aw_seq ?_;refine aw_region [.p, .p, .p, .p] ?_;refine sm rfl rfl ?_;refine sm rfl rfl ?_;refine su (eff_sub rfl rfl rfl iF) rfl ?_;refine su (eff_eql rfl rfl rfl) rfl ?_;refine st_nil ?_;refine aw_cond _ rfl (fun h5 => ?_) (fun h5 => ?_)
  ·replace h5 : (decide (a3 - a2 = 1)) = true := h5;(try simp only [bB] at h5);refine aw_seq ?_;refine aw_region [.p, .p] ?_;refine sm rfl rfl ?_;refine sa rfl rfl ?_;refine st_nil ?_;refine aw_seq ?_;refine aw_region [.p, .p] ?_;refine sm rfl rfl ?_;refine sa rfl rfl ?_;refine st_nil ?_;refine aw_seq ?_;refine aw_block ?_;refine aw_loop_g (γ := Nat × Int) (fun g => ([(0, .osl 0 1 0 (N0)), (2, .g (G.int a2)), (4, .g (ca4)), (14, .g (G.int g.2)), (15, .g (G.int a2))], [(0, .arr 3 1 (List.map cInt a0))])) (fun g => (a2 - g.2).toNat < g.1 ∧ a1 ≤ g.2 ∧ g.2 ≤ a2) (fun g => g.1) ⟨rfl, (((a2 - a1).toNat) + 1, a1), ⟨rfl, rfl, rfl, rfl, rfl, trivial⟩, ⟨rfl, trivial⟩, rfl, ⟨Nat.lt_succ_self _, iD, iD⟩, trivial⟩ ?_
   ·rintro ⟨k8, x7⟩ ⟨hk3, iv3_0, iv3_1⟩;replace hk3 : (a2 - x7).toNat < k8 := hk3;replace iv3_0 : a1 ≤ x7 := iv3_0;replace iv3_1 : x7 ≤ a2 := iv3_1;obtain ⟨k8, rfl⟩ : ∃ m, k8 = m + 1 := ⟨k8 - 1, by omega⟩;refine aw_seq ?_;refine aw_seq ?_;refine aw_region [.p, .p, .p] ?_;refine sm rfl rfl ?_;refine sm rfl rfl ?_;refine su (eff_lss rfl rfl rfl) rfl ?_;refine st_nil ?_;refine aw_cond _ rfl (fun h6 => ?_) (fun h6 => ?_)
    ·replace h6 : (decide (x7 < a2)) = true := h6;(try simp only [bB] at h6);refine aw_skip ?_;refine aw_block ?_;refine aw_seq ?_;refine aw_region [.p, .p, .p, .p, .p, .p, .p] ?_;refine sm rfl rfl ?_;refine sm rfl rfl ?_;refine su (eff_add rfl rfl rfl iF) rfl ?_;refine su (eff_convu rfl Tryz.underlying3 Tryz.underlying255 rfl (by (try dsimp only); omega) (by (try dsimp only); omega)) rfl ?_;refine su (eff_half rfl rfl rfl (by (try dsimp only); omega)) rfl ?_;refine su (eff_convi rfl Tryz.underlying255 Tryz.underlying3 rfl iF) rfl ?_;refine sa rfl rfl ?_;refine st_nil ?_;refine aw_seq ?_;obtain ⟨y9, by9⟩ : ∃ z_, (ixO a0 a2) = some z_ := (ixO_ex (by omega) (by omega));obtain ⟨y10, by10⟩ : ∃ z_, (ixO a0 ((x7 + a2) / 2)) = some z_ := (ixO_ex (by omega) (by omega));obtain ⟨r11, br11⟩ : ∃ z_, (a4 y9 y10) = some z_ := (hU.ex by9 by10);refine aw_draw [.p, .p, .p, .p, .r, .p, .p, .p, .r, .p, .p, .p] (by kernel_rfl) ?_;refine sm rfl rfl ?_;refine su (eff_moveO rfl rfl) rfl ?_;refine sm rfl rfl ?_;refine su (eff_ixL rfl Tryz.underlying64 ty3 rfl rfl (ixO_nn by9) (Nat.lt_of_lt_of_eq (get_lt (ixO_get by9)) hN0)) rfl ?_;refine sr (eff_ldE (f := cInt) (l := a0) (a := y9) rfl ty3 rfl rfl (ixO_get by9) rfl) rfl ?_;refine su (eff_moveO rfl rfl) rfl ?_;refine sm rfl rfl ?_;refine su (eff_ixL rfl Tryz.underlying64 ty3 rfl rfl (ixO_nn by10) (Nat.lt_of_lt_of_eq (get_lt (ixO_get by10)) hN0)) rfl ?_;refine sr (eff_ldE (f := cInt) (l := a0) (a := y10) rfl ty3 rfl rfl (ixO_get by10) rfl) rfl ?_;refine su (eff_callf rfl ha4 Ka4 rfl (Con.lend (Ha4 y9 y10 _ br11)) (ag_cons rfl (ag_cons rfl ag_nil))) rfl ?_;refine su (eff_lss rfl rfl rfl) rfl ?_;refine su (eff_not rfl rfl) rfl ?_;refine st_nil ?_;refine aw_cond _ rfl (fun h7 => ?_) (fun h7 => ?_)
     ·replace h7 : (!(decide (r11 < 0))) = true := h7;(try simp only [bB] at h7);refine aw_region [.p, .p, .p] ?_;refine sm rfl rfl ?_;refine su (eff_add rfl rfl rfl iF) rfl ?_;refine sa rfl rfl ?_;refine st_nil ?_;exact ⟨rfl, (k8, ((x7 + a2) / 2) + 1), ⟨rfl, rfl, rfl, rfl, rfl, trivial⟩, ⟨rfl, trivial⟩, rfl, ⟨iB, iB, iB⟩, by simp⟩
     ·replace h7 : (!(decide (r11 < 0))) = false := h7;(try simp only [bB] at h7)
      exfalso; have q_ := hU.ge by9 by10 br11 (by omega); omega
    ·replace h6 : (decide (x7 < a2)) = false := h6;(try simp only [bB] at h6);refine aw_exit ?_;refine aw_seq ?_;refine aw_seq ?_;refine aw_region [.p, .p] ?_;refine sm rfl rfl ?_;refine sa rfl rfl ?_;refine st_nil ?_;refine aw_block ?_;refine aw_loop_g (γ := Nat) (fun g => ([(14, .g (G.int x7)), (17, .g (G.int a2))], [(0, .arr 3 1 (List.map cInt a0))])) (fun g => (0 : Nat) < g) (fun g => g) ⟨rfl, ((0 : Nat)) + 1, ⟨rfl, rfl, trivial⟩, ⟨rfl, trivial⟩, rfl, (Nat.lt_succ_self _), trivial⟩ ?_
     ·rintro k12 hk4;replace hk4 : (0 : Nat) < k12 := hk4;obtain ⟨k12, rfl⟩ : ∃ m, k12 = m + 1 := ⟨k12 - 1, by omega⟩;refine aw_seq ?_;refine aw_seq ?_;refine aw_region [.p, .p, .p] ?_;refine sm rfl rfl ?_;refine sm rfl rfl ?_;refine su (eff_gtr rfl rfl rfl) rfl ?_;refine st_nil ?_;refine aw_cond _ rfl (fun h8 => ?_) (fun h8 => ?_)
      ·replace h8 : (decide (x7 < a2)) = true := h8;(try simp only [bB] at h8)
       exfalso; omega
      ·replace h8 : (decide (x7 < a2)) = false := h8;(try simp only [bB] at h8);refine aw_exit ?_;refine aw_ret ?_;show ResOk _ _ _ _ ∧ MemL _ _;exact ⟨res0 rfl, ⟨rfl, trivial⟩⟩
  ·replace h5 : (decide (a3 - a2 = 1)) = false := h5;(try simp only [bB] at h5);refine aw_skip ?_;refine aw_seq ?_;refine aw_region [.p, .p, .p, .p, .p, .p, .p] ?_;refine sm rfl rfl ?_;refine sm rfl rfl ?_;refine su (eff_add rfl rfl rfl iF) rfl ?_;refine su (eff_convu rfl Tryz.underlying3 Tryz.underlying255 rfl (by (try dsimp only); omega) (by (try dsimp only); omega)) rfl ?_;refine su (eff_half rfl rfl rfl (by (try dsimp only); omega)) rfl ?_;refine su (eff_convi rfl Tryz.underlying255 Tryz.underlying3 rfl iF) rfl ?_;refine sa rfl rfl ?_;refine st_nil ?_;refine aw_seq ?_;refine aw_region [.p, .p, .p, .p] ?_;refine sm rfl rfl ?_;refine sm rfl rfl ?_;refine su (eff_add rfl rfl rfl iF) rfl ?_;refine sa rfl rfl ?_;refine st_nil ?_;refine aw_seq ?_;refine aw_region [.p, .p] ?_;refine sa rfl rfl ?_;refine sa rfl rfl ?_;refine st_nil ?_;refine aw_cut_g (γ := Int × Int) (fun g => ([(0, .osl 0 1 0 (N0)), (1, .g (G.int a1)), (2, .g (G.int a2)), (3, .g (G.int a3)), (4, .g (ca4)), (18, .g (G.int ((a1 + a3) / 2))), (19, .g (G.int (((a1 + a3) / 2) + a2))), (20, .g (G.int g.1)), (21, .g (G.int g.2))], [(0, .arr 3 1 (List.map cInt a0))])) (fun g => (g.1 = (((a1 + a3) / 2) + a2) - a3 ∧ g.2 = ((a1 + a3) / 2) ∧ ((a1 + a3) / 2) < a2) ∨ (g.1 = a1 ∧ g.2 = a2 ∧ a2 ≤ ((a1 + a3) / 2))) ?_ ?_
   ·refine aw_seq ?_;refine aw_region [.p, .p, .p] ?_;refine sm rfl rfl ?_;refine sm rfl rfl ?_;refine su (eff_gtr rfl rfl rfl) rfl ?_;refine st_nil ?_;refine aw_cond _ rfl (fun h14 => ?_) (fun h14 => ?_)
    ·replace h14 : (decide ((a1 + a3) / 2 < a2)) = true := h14;(try simp only [bB] at h14);refine aw_seq ?_;refine aw_region [.p, .p, .p, .p] ?_;refine sm rfl rfl ?_;refine sm rfl rfl ?_;refine su (eff_sub rfl rfl rfl iF) rfl ?_;refine sa rfl rfl ?_;refine st_nil ?_;refine aw_region [.p, .p] ?_;refine sm rfl rfl ?_;refine sa rfl rfl ?_;refine st_nil ?_;exact ⟨rfl, ((((a1 + a3) / 2) + a2) - a3, (a1 + a3) / 2), ⟨rfl, rfl, rfl, rfl, rfl, rfl, rfl, rfl, rfl, trivial⟩, ⟨rfl, trivial⟩, rfl, iB, trivial⟩
    ·replace h14 : (decide ((a1 + a3) / 2 < a2)) = false := h14;(try simp only [bB] at h14);refine aw_seq ?_;refine aw_region [.p, .p] ?_;refine sm rfl rfl ?_;refine sa rfl rfl ?_;refine st_nil ?_;refine aw_region [.p, .p] ?_;refine sm rfl rfl ?_;refine sa rfl rfl ?_;refine st_nil ?_;exact ⟨rfl, (a1, a2), ⟨rfl, rfl, rfl, rfl, rfl, rfl, rfl, rfl, rfl, trivial⟩, ⟨rfl, trivial⟩, rfl, iB, trivial⟩
   ·rintro ⟨x13, x14⟩ jv2_0;replace jv2_0 : (x13 = (((a1 + a3) / 2) + a2) - a3 ∧ x14 = ((a1 + a3) / 2) ∧ ((a1 + a3) / 2) < a2) ∨ (x13 = a1 ∧ x14 = a2 ∧ a2 ≤ ((a1 + a3) / 2)) := jv2_0;refine aw_seq ?_;refine aw_region [.p, .p, .p] ?_;refine sm rfl rfl ?_;refine su (eff_sub rfl rfl rfl iF) rfl ?_;refine sa rfl rfl ?_;refine st_nil ?_;refine aw_seq ?_;refine aw_block ?_;refine aw_loop_g (γ := Nat × Int) (fun g => ([(0, .osl 0 1 0 (N0)), (1, .g (G.int a1)), (2, .g (G.int a2)), (3, .g (G.int a3)), (4, .g (ca4)), (18, .g (G.int ((a1 + a3) / 2))), (19, .g (G.int (((a1 + a3) / 2) + a2))), (20, .g (G.int g.2)), (21, .g (G.int x14)), (22, .g (G.int ((((a1 + a3) / 2) + a2) - 1)))], [(0, .arr 3 1 (List.map cInt a0))])) (fun g => (x14 - g.2).toNat < g.1 ∧ g.2 ≤ x14 ∧ (((a1 + a3) / 2) + a2) - a3 ≤ g.2 ∧ a1 ≤ g.2) (fun g => g.1) ⟨rfl, (((x14 - x13).toNat) + 1, x13), ⟨rfl, rfl, rfl, rfl, rfl, rfl, rfl, rfl, rfl, rfl, trivial⟩, ⟨rfl, trivial⟩, rfl, ⟨Nat.lt_succ_self _, iD, iD, iD⟩, trivial⟩ ?_
    ·rintro ⟨k16, x15⟩ ⟨hk5, iv5_0, iv5_1, iv5_2⟩;replace hk5 : (x14 - x15).toNat < k16 := hk5;replace iv5_0 : x15 ≤ x14 := iv5_0;replace iv5_1 : (((a1 + a3) / 2) + a2) - a3 ≤ x15 := iv5_1;replace iv5_2 : a1 ≤ x15 := iv5_2;obtain ⟨k16, rfl⟩ : ∃ m, k16 = m + 1 := ⟨k16 - 1, by omega⟩;refine aw_seq ?_;refine aw_seq ?_;refine aw_region [.p, .p, .p] ?_;refine sm rfl rfl ?_;refine sm rfl rfl ?_;refine su (eff_lss rfl rfl rfl) rfl ?_;refine st_nil ?_;refine aw_cond _ rfl (fun h9 => ?_) (fun h9 => ?_)
     ·replace h9 : (decide (x15 < x14)) = true := h9;(try simp only [bB] at h9);refine aw_skip ?_;refine aw_block ?_;refine aw_seq ?_;refine aw_region [.p, .p, .p, .p, .p, .p, .p] ?_;refine sm rfl rfl ?_;refine sm rfl rfl ?_;refine su (eff_add rfl rfl rfl iF) rfl ?_;refine su (eff_convu rfl Tryz.underlying3 Tryz.underlying255 rfl (by (try dsimp only); omega) (by (try dsimp only); omega)) rfl ?_;refine su (eff_half rfl rfl rfl (by (try dsimp only); omega)) rfl ?_;refine su (eff_convi rfl Tryz.underlying255 Tryz.underlying3 rfl iF) rfl ?_;refine sa rfl rfl ?_;refine st_nil ?_;refine aw_seq ?_;obtain ⟨y17, by17⟩ : ∃ z_, (ixO a0 (((((a1 + a3) / 2) + a2) - 1) - ((x15 + x14) / 2))) = some z_ := (ixO_ex (by omega) (by omega));obtain ⟨y18, by18⟩ : ∃ z_, (ixO a0 ((x15 + x14) / 2)) = some z_ := (ixO_ex (by omega) (by omega));obtain ⟨r19, br19⟩ : ∃ z_, (a4 y17 y18) = some z_ := (hU.ex by17 by18);refine aw_draw [.p, .p, .p, .p, .p, .p, .r, .p, .p, .p, .r, .p, .p, .p] (by kernel_rfl) ?_;refine sm rfl rfl ?_;refine su (eff_moveO rfl rfl) rfl ?_;refine sm rfl rfl ?_;refine sm rfl rfl ?_;refine su (eff_sub rfl rfl rfl iF) rfl ?_;refine su (eff_ixL rfl Tryz.underlying64 ty3 rfl rfl (ixO_nn by17) (Nat.lt_of_lt_of_eq (get_lt (ixO_get by17)) hN0)) rfl ?_;refine sr (eff_ldE (f := cInt) (l := a0) (a := y17) rfl ty3 rfl rfl (ixO_get by17) rfl) rfl ?_;refine su (eff_moveO rfl rfl) rfl ?_;refine sm rfl rfl ?_;refine su (eff_ixL rfl Tryz.underlying64 ty3 rfl rfl (ixO_nn by18) (Nat.lt_of_lt_of_eq (get_lt (ixO_get by18)) hN0)) rfl ?_;refine sr (eff_ldE (f := cInt) (l := a0) (a := y18) rfl ty3 rfl rfl (ixO_get by18) rfl) rfl ?_;refine su (eff_callf rfl ha4 Ka4 rfl (Con.lend (Ha4 y17 y18 _ br19)) (ag_cons rfl (ag_cons rfl ag_nil))) rfl ?_;refine su (eff_lss rfl rfl rfl) rfl ?_;refine su (eff_not rfl rfl) rfl ?_;refine st_nil ?_;refine aw_cond _ rfl (fun h10 => ?_) (fun h10 => ?_)
      ·replace h10 : (!(decide (r19 < 0))) = true := h10;(try simp only [bB] at h10);refine aw_region [.p, .p, .p] ?_;refine sm rfl rfl ?_;refine su (eff_add rfl rfl rfl iF) rfl ?_;refine sa rfl rfl ?_;refine st_nil ?_;exact ⟨rfl, (k16, ((x15 + x14) / 2) + 1), ⟨rfl, rfl, rfl, rfl, rfl, rfl, rfl, rfl, rfl, rfl, trivial⟩, ⟨rfl, trivial⟩, rfl, ⟨iB, iB, iB, iB⟩, by simp⟩
      ·replace h10 : (!(decide (r19 < 0))) = false := h10;(try simp only [bB] at h10)
       exfalso; have q_ := hU.ge by17 by18 br19 (by omega); omega
     ·replace h9 : (decide (x15 < x14)) = false := h9;(try simp only [bB] at h9);refine aw_exit ?_;refine aw_seq ?_;refine aw_region [.p, .p, .p, .p] ?_;refine sm rfl rfl ?_;refine sm rfl rfl ?_;refine su (eff_sub rfl rfl rfl iF) rfl ?_;refine sa rfl rfl ?_;refine st_nil ?_;refine aw_seq ?_;refine aw_seq ?_;refine aw_region [.p, .p, .p, .p, .p, .p, .p, .p] ?_;refine sm rfl rfl ?_;refine sm rfl rfl ?_;refine su (eff_lss rfl rfl rfl) rfl ?_;refine sm rfl rfl ?_;refine sg rfl rfl (fun h => eff_moveg rfl rfl) rfl ?_;refine sg rfl rfl (fun h => eff_moveg rfl rfl) rfl ?_;refine sg rfl rfl (fun h => eff_lss rfl (gd h rfl) (gd h rfl)) rfl ?_;refine su (eff_and rfl rfl rfl rfl) rfl ?_;refine st_nil ?_;refine aw_cond _ rfl (fun h11 => ?_) (fun h11 => ?_)
      ·replace h11 : ((decide (x15 < a2)) && (decide (a2 < (((a1 + a3) / 2) + a2) - x15))) = true := h11;(try simp only [bB] at h11)
       exfalso; omega
      ·replace h11 : ((decide (x15 < a2)) && (decide (a2 < (((a1 + a3) / 2) + a2) - x15))) = false := h11;(try simp only [bB] at h11);refine aw_skip ?_;refine aw_cut_g (γ := Unit) (fun g => ([(0, .osl 0 1 0 (N0)), (3, .g (G.int a3)), (4, .g (ca4)), (18, .g (G.int ((a1 + a3) / 2))), (24, .g (G.int ((((a1 + a3) / 2) + a2) - x15)))], [(0, .arr 3 1 (List.map cInt a0))])) (fun g => True) ?_ ?_
       ·refine aw_seq ?_;refine aw_region [.p, .p, .p, .p, .p, .p, .p, .p] ?_;refine sm rfl rfl ?_;refine sm rfl rfl ?_;refine su (eff_lss rfl rfl rfl) rfl ?_;refine sm rfl rfl ?_;refine sg rfl rfl (fun h => eff_moveg rfl rfl) rfl ?_;refine sg rfl rfl (fun h => eff_moveg rfl rfl) rfl ?_;refine sg rfl rfl (fun h => eff_lss rfl (gd h rfl) (gd h rfl)) rfl ?_;refine su (eff_and rfl rfl rfl rfl) rfl ?_;refine st_nil ?_;refine aw_cond _ rfl (fun h13 => ?_) (fun h13 => ?_)
        ·replace h13 : ((decide (a1 < x15)) && (decide (x15 < (a1 + a3) / 2))) = true := h13;(try simp only [bB] at h13);refine aw_region [.p, .p, .p, .p, .p, .w] ?_;refine su (eff_moveO rfl rfl) rfl ?_;refine sm rfl rfl ?_;refine sm rfl rfl ?_;refine sm rfl rfl ?_;refine sm rfl rfl ?_;refine sw (eff_callB1 0 0 rfl K253 rfl (ConB.lend (ih a0 a1 x15 ((a1 + a3) / 2) a4 hN0 ha4 Ka4 Ha4 (by omega) (by omega) (by omega) (by omega) (by omega) hL hU)) (at_cons rfl rfl (at_cons rfl rfl (at_cons rfl rfl (at_cons rfl rfl (at_cons rfl rfl at_nil))))) rfl rfl rfl) rfl ?_;refine st_nil ?_;exact ⟨rfl, (), ⟨rfl, rfl, rfl, rfl, rfl, trivial⟩, ⟨rfl, trivial⟩, rfl, trivial, trivial⟩
        ·replace h13 : ((decide (a1 < x15)) && (decide (x15 < (a1 + a3) / 2))) = false := h13;(try simp only [bB] at h13);refine aw_skip ?_;exact ⟨rfl, (), ⟨rfl, rfl, rfl, rfl, rfl, trivial⟩, ⟨rfl, trivial⟩, rfl, trivial, trivial⟩
       ·rintro ⟨⟩ _;refine aw_seq ?_;refine aw_region [.p, .p, .p, .p, .p, .p, .p, .p] ?_;refine sm rfl rfl ?_;refine sm rfl rfl ?_;refine su (eff_lss rfl rfl rfl) rfl ?_;refine sm rfl rfl ?_;refine sg rfl rfl (fun h => eff_moveg rfl rfl) rfl ?_;refine sg rfl rfl (fun h => eff_moveg rfl rfl) rfl ?_;refine sg rfl rfl (fun h => eff_lss rfl (gd h rfl) (gd h rfl)) rfl ?_;refine su (eff_and rfl rfl rfl rfl) rfl ?_;refine st_nil ?_;refine aw_cond _ rfl (fun h12 => ?_) (fun h12 => ?_)
        ·replace h12 : ((decide ((a1 + a3) / 2 < (((a1 + a3) / 2) + a2) - x15)) && (decide ((((a1 + a3) / 2) + a2) - x15 < a3))) = true := h12;(try simp only [bB] at h12);refine aw_region [.p, .p, .p, .p, .p, .w] ?_;refine su (eff_moveO rfl rfl) rfl ?_;refine sm rfl rfl ?_;refine sm rfl rfl ?_;refine sm rfl rfl ?_;refine sm rfl rfl ?_;refine sw (eff_callB1 0 0 rfl K253 rfl (ConB.lend (ih a0 ((a1 + a3) / 2) ((((a1 + a3) / 2) + a2) - x15) a3 a4 hN0 ha4 Ka4 Ha4 (by omega) (by omega) (by omega) (by omega) (by omega) hL hU)) (at_cons rfl rfl (at_cons rfl rfl (at_cons rfl rfl (at_cons rfl rfl (at_cons rfl rfl at_nil))))) rfl rfl rfl) rfl ?_;refine st_nil ?_;show ResOk _ _ _ _ ∧ MemL _ _;exact ⟨res0 rfl, ⟨rfl, trivial⟩⟩
        ·replace h12 : ((decide ((a1 + a3) / 2 < (((a1 + a3) / 2) + a2) - x15)) && (decide ((((a1 + a3) / 2) + a2) - x15 < a3))) = false := h12;(try simp only [bB] at h12);refine aw_skip ?_;show ResOk _ _ _ _ ∧ MemL _ _;exact ⟨res0 rfl, ⟨rfl, trivial⟩⟩
theorem c233S {g : List (Nat × List Value)} (a0 : List Int) (a1 : Int) (a2 : Int → Int → Option Int) {N0 : Nat} (hN0 : List.length a0 = N0) {ca2 : G} {ia2 : FuncId} {ka2 : List G} (ha2 : FnIs ca2 ia2 ka2) (Ka2 : Known Tryz.prog ia2) (Ha2 : ∀ (x0 : Int) (x1 : Int) (r : Int), a2 x0 x1 = some r → Con (EG g) ia2 ([G.int x0, G.int x1] ++ ka2) (G.int r)) (hn : a1 = (a0.length : Int)) (hL : a0.length ≤ 1000) (hU : UpC a0 a2)  : ConB (EG g) 245 [.osl 0 1 0 N0, .g (G.int a1), .g (ca2)] [(0, .arr 3 1 (List.map cInt a0))] (G.tup []) [(0, .arr 3 1 (List.map cInt (a0 : List Int)))] := by
 refine conB_of_aw Tryz.func245 rfl rfl rfl fun w0 M0 x => ?_;refine len_osl (f := cInt) (l := a0) 0 rfl fun hla0 => ?_;refine aw_seq ?_;refine aw_region [.p] ?_;refine sa rfl rfl ?_;refine st_nil ?_;refine aw_seq ?_;refine aw_region [.p, .p, .p] ?_;refine sm rfl rfl ?_;refine sa rfl rfl ?_;refine sa rfl rfl ?_;refine st_nil ?_;refine aw_seq ?_;refine aw_block ?_;refine aw_loop_g (γ := Nat × Int × Int) (fun g => ([(0, .osl 0 1 0 (N0)), (1, .g (G.int a1)), (2, .g (ca2)), (6, .g (G.int 20)), (7, .g (G.int g.2.1)), (8, .g (G.int g.2.2))], [(0, .arr 3 1 (List.map cInt a0))])) (fun g => (a1 + 20 - g.2.2).toNat < g.1 ∧ 0 ≤ g.2.1 ∧ g.2.2 = g.2.1 + 20 ∧ g.2.1 ≤ 2000) (fun g => g.1) ⟨rfl, (((a1 + 20 - 20).toNat) + 1, 0, 20), ⟨rfl, rfl, rfl, rfl, rfl, rfl, trivial⟩, ⟨rfl, trivial⟩, rfl, ⟨Nat.lt_succ_self _, iD, iD, iD⟩, trivial⟩ ?_
 ·rintro ⟨k3, x1, x2⟩ ⟨hk1, iv1_0, iv1_1, iv1_2⟩;replace hk1 : (a1 + 20 - x2).toNat < k3 := hk1;replace iv1_0 : 0 ≤ x1 := iv1_0;replace iv1_1 : x2 = x1 + 20 := iv1_1;replace iv1_2 : x1 ≤ 2000 := iv1_2;obtain ⟨k3, rfl⟩ : ∃ m, k3 = m + 1 := ⟨k3 - 1, by omega⟩;refine aw_seq ?_;refine aw_seq ?_;refine aw_region [.p, .p, .p] ?_;refine sm rfl rfl ?_;refine sm rfl rfl ?_;refine su (eff_leq rfl rfl rfl) rfl ?_;refine st_nil ?_;refine aw_cond _ rfl (fun h1 => ?_) (fun h1 => ?_)
  ·replace h1 : (decide (x2 ≤ a1)) = true := h1;(try simp only [bB] at h1);refine aw_skip ?_;refine aw_block ?_;refine aw_seq ?_;refine aw_region [.p, .p, .p, .p, .w] ?_;refine su (eff_moveO rfl rfl) rfl ?_;refine sm rfl rfl ?_;refine sm rfl rfl ?_;refine sm rfl rfl ?_;refine sw (eff_callB1 0 0 rfl K252 rfl (ConB.lend (c252S a0 x1 x2 a2 hN0 ha2 Ka2 Ha2 (by omega) (by omega) (by omega) hL hU)) (at_cons rfl rfl (at_cons rfl rfl (at_cons rfl rfl (at_cons rfl rfl at_nil)))) rfl rfl rfl) rfl ?_;refine st_nil ?_;refine aw_seq ?_;refine aw_region [.p, .p] ?_;refine sm rfl rfl ?_;refine sa rfl rfl ?_;refine st_nil ?_;refine aw_region [.p, .p, .p, .p] ?_;refine sm rfl rfl ?_;refine sm rfl rfl ?_;refine su (eff_add rfl rfl rfl iF) rfl ?_;refine sa rfl rfl ?_;refine st_nil ?_;exact ⟨rfl, (k3, x2, x2 + 20), ⟨rfl, rfl, rfl, rfl, rfl, rfl, trivial⟩, ⟨rfl, trivial⟩, rfl, ⟨(by first | omega | (dsimp only; done) | (dsimp only; omega)), (by first | omega | (dsimp only; done) | (dsimp only; omega)), (by first | omega | (dsimp only; done) | (dsimp only; omega)), (by first | omega | (dsimp only; done) | (dsimp only; omega))⟩, by simp⟩
  ·replace h1 : (decide (x2 ≤ a1)) = false := h1;(try simp only [bB] at h1);refine aw_exit ?_;refine aw_seq ?_;refine aw_region [.p, .p, .p, .p, .w] ?_;refine su (eff_moveO rfl rfl) rfl ?_;refine sm rfl rfl ?_;refine sm rfl rfl ?_;refine sm rfl rfl ?_;refine sw (eff_callB1 0 0 rfl K252 rfl (ConB.lend (c252S a0 x1 a1 a2 hN0 ha2 Ka2 Ha2 (by omega) (by omega) (by omega) hL hU)) (at_cons rfl rfl (at_cons rfl rfl (at_cons rfl rfl (at_cons rfl rfl at_nil)))) rfl rfl rfl) rfl ?_;refine st_nil ?_;refine aw_block ?_;refine aw_loop_g (γ := Nat × Int) (fun g => ([(0, .osl 0 1 0 (N0)), (1, .g (G.int a1)), (2, .g (ca2)), (6, .g (G.int g.2))], [(0, .arr 3 1 (List.map cInt a0))])) (fun g => (a1 - g.2).toNat < g.1 ∧ 20 ≤ g.2 ∧ g.2 ≤ 2000) (fun g => g.1) ⟨rfl, (((a1 - 20).toNat) + 1, 20), ⟨rfl, rfl, rfl, rfl, trivial⟩, ⟨rfl, trivial⟩, rfl, ⟨Nat.lt_succ_self _, iD, iD⟩, trivial⟩ ?_
   ·rintro ⟨k5, x4⟩ ⟨hk2, iv2_0, iv2_1⟩;replace hk2 : (a1 - x4).toNat < k5 := hk2;replace iv2_0 : 20 ≤ x4 := iv2_0;replace iv2_1 : x4 ≤ 2000 := iv2_1;obtain ⟨k5, rfl⟩ : ∃ m, k5 = m + 1 := ⟨k5 - 1, by omega⟩;refine aw_seq ?_;refine aw_seq ?_;refine aw_region [.p, .p, .p] ?_;refine sm rfl rfl ?_;refine sm rfl rfl ?_;refine su (eff_lss rfl rfl rfl) rfl ?_;refine st_nil ?_;refine aw_cond _ rfl (fun h2 => ?_) (fun h2 => ?_)
    ·replace h2 : (decide (x4 < a1)) = true := h2;(try simp only [bB] at h2);refine aw_skip ?_;refine aw_block ?_;refine aw_seq ?_;refine aw_region [.p, .p, .p, .p] ?_;refine sm rfl rfl ?_;refine su (eff_mul rfl rfl rfl iF) rfl ?_;refine sa rfl rfl ?_;refine sa rfl rfl ?_;refine st_nil ?_;refine aw_seq ?_;refine aw_block ?_;refine aw_loop_g (γ := Nat × Int × Int) (fun g => ([(0, .osl 0 1 0 (N0)), (1, .g (G.int a1)), (2, .g (ca2)), (6, .g (G.int x4)), (7, .g (G.int g.2.1)), (8, .g (G.int g.2.2))], [(0, .arr 3 1 (List.map cInt a0))])) (fun g => (a1 + 2 * x4 - g.2.2).toNat < g.1 ∧ 0 ≤ g.2.1 ∧ g.2.2 = g.2.1 + 2 * x4 ∧ g.2.1 ≤ 5000) (fun g => g.1) ⟨rfl, (((a1 + 2 * x4 - (2 * x4)).toNat) + 1, 0, 2 * x4), ⟨rfl, rfl, rfl, rfl, rfl, rfl, trivial⟩, ⟨rfl, trivial⟩, rfl, ⟨Nat.lt_succ_self _, iD, iD, iD⟩, trivial⟩ ?_
     ·rintro ⟨k8, x6, x7⟩ ⟨hk3, iv3_0, iv3_1, iv3_2⟩;replace hk3 : (a1 + 2 * x4 - x7).toNat < k8 := hk3;replace iv3_0 : 0 ≤ x6 := iv3_0;replace iv3_1 : x7 = x6 + 2 * x4 := iv3_1;replace iv3_2 : x6 ≤ 5000 := iv3_2;obtain ⟨k8, rfl⟩ : ∃ m, k8 = m + 1 := ⟨k8 - 1, by omega⟩;refine aw_seq ?_;refine aw_seq ?_;refine aw_region [.p, .p, .p] ?_;refine sm rfl rfl ?_;refine sm rfl rfl ?_;refine su (eff_leq rfl rfl rfl) rfl ?_;refine st_nil ?_;refine aw_cond _ rfl (fun h3 => ?_) (fun h3 => ?_)
      ·replace h3 : (decide (x7 ≤ a1)) = true := h3;(try simp only [bB] at h3);refine aw_skip ?_;refine aw_block ?_;refine aw_seq ?_;refine aw_region [.p, .p, .p, .p, .p, .p, .p, .w] ?_;refine su (eff_moveO rfl rfl) rfl ?_;refine sm rfl rfl ?_;refine sm rfl rfl ?_;refine sm rfl rfl ?_;refine su (eff_add rfl rfl rfl iF) rfl ?_;refine sm rfl rfl ?_;refine sm rfl rfl ?_;refine sw (eff_callB1 0 0 rfl K253 rfl (ConB.lend ((c253r 1001) a0 x6 (x6 + x4) x7 a2 hN0 ha2 Ka2 Ha2 (by omega) (by omega) (by omega) (by omega) (by omega) hL hU)) (at_cons rfl rfl (at_cons rfl rfl (at_cons rfl rfl (at_cons rfl rfl (at_cons rfl rfl at_nil))))) rfl rfl rfl) rfl ?_;refine st_nil ?_;refine aw_seq ?_;refine aw_region [.p, .p] ?_;refine sm rfl rfl ?_;refine sa rfl rfl ?_;refine st_nil ?_;refine aw_region [.p, .p, .p, .p, .p] ?_;refine sm rfl rfl ?_;refine sm rfl rfl ?_;refine su (eff_mul rfl rfl rfl iF) rfl ?_;refine su (eff_add rfl rfl rfl iF) rfl ?_;refine sa rfl rfl ?_;refine st_nil ?_;exact ⟨rfl, (k8, x7, x7 + (2 * x4)), ⟨rfl, rfl, rfl, rfl, rfl, rfl, trivial⟩, ⟨rfl, trivial⟩, rfl, ⟨(by first | omega | (dsimp only; done) | (dsimp only; omega)), (by first | omega | (dsimp only; done) | (dsimp only; omega)), (by first | omega | (dsimp only; done) | (dsimp only; omega)), (by first | omega | (dsimp only; done) | (dsimp only; omega))⟩, by simp⟩
      ·replace h3 : (decide (x7 ≤ a1)) = false := h3;(try simp only [bB] at h3);refine aw_exit ?_;refine aw_cut_g (γ := Unit) (fun g => ([(0, .osl 0 1 0 (N0)), (1, .g (G.int a1)), (2, .g (ca2)), (6, .g (G.int x4))], [(0, .arr 3 1 (List.map cInt a0))])) (fun g => True) ?_ ?_
       ·refine aw_seq ?_;refine aw_region [.p, .p, .p, .p] ?_;refine sm rfl rfl ?_;refine sm rfl rfl ?_;refine su (eff_add rfl rfl rfl iF) rfl ?_;refine sa rfl rfl ?_;refine st_nil ?_;refine aw_seq ?_;refine aw_region [.p, .p, .p] ?_;refine sm rfl rfl ?_;refine sm rfl rfl ?_;refine su (eff_lss rfl rfl rfl) rfl ?_;refine st_nil ?_;refine aw_cond _ rfl (fun h4 => ?_) (fun h4 => ?_)
        ·replace h4 : (decide (x6 + x4 < a1)) = true := h4;(try simp only [bB] at h4);refine aw_region [.p, .p, .p, .p, .p, .w] ?_;refine su (eff_moveO rfl rfl) rfl ?_;refine sm rfl rfl ?_;refine sm rfl rfl ?_;refine sm rfl rfl ?_;refine sm rfl rfl ?_;refine sw (eff_callB1 0 0 rfl K253 rfl (ConB.lend ((c253r 1001) a0 x6 (x6 + x4) a1 a2 hN0 ha2 Ka2 Ha2 (by omega) (by omega) (by omega) (by omega) (by omega) hL hU)) (at_cons rfl rfl (at_cons rfl rfl (at_cons rfl rfl (at_cons rfl rfl (at_cons rfl rfl at_nil))))) rfl rfl rfl) rfl ?_;refine st_nil ?_;exact ⟨rfl, (), ⟨rfl, rfl, rfl, rfl, trivial⟩, ⟨rfl, trivial⟩, rfl, trivial, trivial⟩
        ·replace h4 : (decide (x6 + x4 < a1)) = false := h4;(try simp only [bB] at h4);refine aw_skip ?_;exact ⟨rfl, (), ⟨rfl, rfl, rfl, rfl, trivial⟩, ⟨rfl, trivial⟩, rfl, trivial, trivial⟩
       ·rintro ⟨⟩ _;refine aw_region [.p, .p, .p] ?_;refine sm rfl rfl ?_;refine su (eff_mul rfl rfl rfl iF) rfl ?_;refine sa rfl rfl ?_;refine st_nil ?_;exact ⟨rfl, (k5, x4 * 2), ⟨rfl, rfl, rfl, rfl, trivial⟩, ⟨rfl, trivial⟩, rfl, ⟨iB, iB, iB⟩, by simp⟩
    ·replace h2 : (decide (x4 < a1)) = false := h2;(try simp only [bB] at h2);refine aw_exit ?_;show ResOk _ _ _ _ ∧ MemL _ _;exact ⟨res0 rfl, ⟨rfl, trivial⟩⟩
theorem c203S {g : List (Nat × List Value)} (a0 : List Int) (a1 : Int → Int → Option Int) {N0 : Nat} (hN0 : List.length a0 = N0) {ca1 : G} {ia1 : FuncId} {ka1 : List G} (ha1 : FnIs ca1 ia1 ka1) (Ka1 : Known Tryz.prog ia1) (Ha1 : ∀ (x0 : Int) (x1 : Int) (r : Int), a1 x0 x1 = some r → Con (EG g) ia1 ([G.int x0, G.int x1] ++ ka1) (G.int r)) (hL : a0.length ≤ 1000) (hU : UpC a0 a1)  : ConB (EG g) 203 [.osl 0 1 0 N0, .g (ca1)] [(0, .arr 3 1 (List.map cInt a0))] (G.tup []) [(0, .arr 3 1 (List.map cInt (a0 : List Int)))] := by
 refine conB_of_aw Tryz.func203 rfl rfl rfl fun w0 M0 x => ?_;refine len_osl (f := cInt) (l := a0) 0 rfl fun hla0 => ?_;refine aw_region [.p, .p, .p, .p, .w] ?_;refine su (eff_moveO rfl rfl) rfl ?_;refine su (eff_moveO rfl rfl) rfl ?_;refine su (eff_lenON hN0 rfl Tryz.underlying64 rfl) rfl ?_;refine sm rfl rfl ?_;refine sw (eff_callB1 0 0 rfl K233 rfl (ConB.lend (c233S a0 (List.length a0 : Int) a1 hN0 ha1 Ka1 Ha1 rfl hL hU)) (at_cons rfl rfl (at_cons rfl rfl (at_cons rfl rfl at_nil))) rfl rfl rfl) rfl ?_;refine st_nil ?_;show ResOk _ _ _ _ ∧ MemL _ _;exact ⟨res0 rfl, ⟨rfl, trivial⟩⟩
def idxs (n : Nat) : List Int := List.map (fun i : Nat => (i : Int)) (List.range n)
theorem idxs_len (n : Nat) : (idxs n).length = n := by simp [idxs]
theorem mem_idxs {n : Nat} {i : Int} : i ∈ idxs n ↔ 0 ≤ i ∧ i.toNat < n := by
 simp only [idxs, List.mem_map, List.mem_range]
 constructor
 ·rintro ⟨a, h, rfl⟩; simp; exact h
 ·rintro ⟨h1, h2⟩; exact ⟨i.toNat, h2, by omega⟩
theorem idxs_succ (n : Nat) : idxs (n + 1) = idxs n ++ [(n : Int)] := by simp [idxs, List.range_succ]
theorem idxs_lt (n : Nat) : (idxs n).Pairwise (· < ·) := by
 unfold idxs;rw [List.pairwise_map]
 exact List.pairwise_lt_range.imp fun h => by omega
theorem idxs_nodup (n : Nat) : (idxs n).Nodup := (idxs_lt n).imp fun h => by omega
theorem ixO_in {α : Type} {l : List α} {i : Int} (h0 : 0 ≤ i) (h : i.toNat < l.length) : ixO l i = some l[i.toNat] := by
 unfold ixO; rw [decide_eq_true h0, cond_true, List.getElem?_eq_getElem h]
theorem ixO_idx {α : Type} {l : List α} {i : Int} (h : i ∈ idxs l.length) : ∃ x, ixO l i = some x ∧ l[i.toNat]? = some x := by
 obtain ⟨h1, h2⟩ := mem_idxs.1 h;exact ⟨_, ixO_in h1 h2, List.getElem?_eq_getElem h2⟩
theorem ixO_nat {α : Type} {l : List α} {i : Nat} {x : α} (h : l[i]? = some x) : ixO l (i : Int) = some x := by
 unfold ixO; rw [decide_eq_true (by omega), cond_true]; simpa using h
def momI (l : List S151) (i : Int) : Int := match l[i.toNat]? with
 | some s => s.Moment
 | none => 0
theorem momI_of {l : List S151} {i : Int} {x : S151} (h : l[i.toNat]? = some x) : momI l i = x.Moment := by unfold momI; rw [h]
def RelM (l : List S151) (i j : Int) : Prop := momI l i < momI l j ∨ (momI l i = momI l j ∧ i < j)
theorem RelM.as {l : List S151} {a b : Int} (h : RelM l a b) (k : RelM l b a) : False := by unfold RelM at *; omega
def ordI (l : List S151) : List Int := isort (fun i j => decide (momI l i < momI l j)) (idxs l.length)
theorem ordI_perm (l : List S151) : (ordI l).Perm (idxs l.length) := isort_perm _ _
theorem ordI_mem {l : List S151} {i : Int} : i ∈ ordI l ↔ i ∈ idxs l.length := (ordI_perm l).mem_iff
theorem ordI_nodup (l : List S151) : (ordI l).Nodup := (ordI_perm l).nodup_iff.2 (idxs_nodup _)
theorem s167_lt (a b : Int) : decide (s167 a b < 0) = decide (a < b) := by
 have h : ∀ x, s202 x = false := fun x => by unfold s202; simp
 unfold s167;rw [h, h]
 by_cases h1 : a < b
 ·simp [h1]
 ·by_cases h2 : b < a <;> simp [h1, h2]
theorem s168_loop (l : List S151) : ∀ (rest : List S151) (k : Nat), s168_l1 l rest k (idxs k ++ List.replicate rest.length 0) = s168_l1 l [] (k + rest.length) (idxs (k + rest.length))
 | [], k => by simp
 | y :: rest, k => by
  have h1 : ixO (idxs k ++ List.replicate (y :: rest).length 0) ((k : Nat) : Int) = some 0 := by
   rw [List.length_cons, List.replicate_succ]; exact ixO_app' (by rw [idxs_len])
  have h2 : List.set (idxs k ++ List.replicate (y :: rest).length 0) (Int.toNat ((k : Nat) : Int)) ((k : Nat) : Int) = idxs (k + 1) ++ List.replicate rest.length 0 := by
   rw [List.length_cons, List.replicate_succ, set_app (by rw [idxs_len]; simp), idxs_succ]
   simp
  conv => lhs; rw [s168_l1, h1]
  simp only [bindO];rw [h2, s168_loop l rest (k + 1), List.length_cons]
  have e : k + 1 + rest.length = k + (rest.length + 1) := by omega
  rw [e]
theorem s168_ok (l : List S151) : s168 l = some (ordI l) := by
 unfold s168;have := s168_loop l l 0;simp only [Nat.zero_add] at this;rw [show List.replicate l.length (0 : Int) = idxs 0 ++ List.replicate l.length 0 by simp [idxs], this, s168_l1];rw [s203_ok (lt := fun i j => decide (momI l i < momI l j)) (fun y hy x hx => ?_)]
 ·rfl
 ·obtain ⟨a, ha, ha'⟩ := ixO_idx hx;obtain ⟨b, hb, hb'⟩ := ixO_idx hy;refine ⟨s167 a.Moment b.Moment, ?_, ?_⟩
  ·simp only [s204, ha, hb, bindO]
  ·rw [s167_lt, momI_of ha', momI_of hb']
theorem c203U {g : List (Nat × List Value)} (a0 : List Int) (a1 : Int → Int → Option Int) {R : List Int} {N0 : Nat} (hN0 : List.length a0 = N0) {ca1 : G} {ia1 : FuncId} {ka1 : List G} (ha1 : FnIs ca1 ia1 ka1) (Ka1 : Known Tryz.prog ia1) (Ha1 : ∀ (x0 : Int) (x1 : Int) (r : Int), a1 x0 x1 = some r → Con (EG g) ia1 ([G.int x0, G.int x1] ++ ka1) (G.int r))
  (hL : a0.length ≤ 1000) (hU : UpC a0 a1) (hR : s203 a0 a1 = some R) : ConB (EG g) 203 [.osl 0 1 0 N0, .g (ca1)] [(0, .arr 3 1 (List.map cInt a0))] (G.tup []) [(0, .arr 3 1 (List.map cInt R))] := by
 have h := s203_ok (lt := fun x y => decide ((a1 x y).getD 0 < 0)) (cmp := a1) (l := a0) (fun y hy x hx => by
  obtain ⟨c, hc⟩ := hU.tot x hx y hy
  exact ⟨c, hc, by simp [hc]⟩)
 rw [isort_id (List.pairwise_iff_getElem.2 fun i j hi hj hij => by
  obtain ⟨c, hc⟩ := hU.tot a0[j] (List.getElem_mem hj) a0[i] (List.getElem_mem hi);have := hU.up i j _ _ c hij (List.getElem?_eq_getElem hi) (List.getElem?_eq_getElem hj) hc;rw [hc]
  exact decide_eq_false (by show ¬ c < 0; omega))] at h
 rw [h] at hR
 cases hR
 exact c203S a0 a1 hN0 ha1 Ka1 Ha1 hL hU
def UpS (l : List S151) : Prop := l.Pairwise (fun a b => a.Moment ≤ b.Moment)
def SortOk (l : List S151) : Prop := l.length ≤ 12 ∨ UpS l
theorem sub_skip {α : Type} {x l : List α} {k : Nat} (h : x.Sublist (l.take k)) : x.Sublist (l.take (k + 1)) := by
 rw [List.take_add_one]; exact h.trans (List.sublist_append_left _ _)
theorem sub_snoc {α : Type} {x l : List α} {k : Nat} {y : α} (h : x.Sublist (l.take k)) (hx : l[k]? = some y) : (x ++ [y]).Sublist (l.take (k + 1)) := by
 rw [List.take_add_one, hx]; exact h.append (List.Sublist.refl _)
theorem sortok_sub {x l : List S151} {k : Nat} (h : x.Sublist (l.take k)) (hs : SortOk l) : SortOk x := by
 have h' := h.trans (List.take_sublist k l)
 rcases hs with hs | hs
 ·exact .inl (Nat.le_trans h'.length_le hs)
 ·exact .inr (List.Pairwise.sublist h' hs)
theorem ord_step {n k : Nat} {x : List Int} (hx : x = idxs k ++ List.replicate (n - k) 0) (hk : k < n) : List.set x (Int.toNat ((k : Nat) : Int)) ((k : Nat) : Int) = idxs (k + 1) ++ List.replicate (n - (k + 1)) 0 := by
 have e : n - k = (n - (k + 1)) + 1 := by omega
 rw [hx, e, List.replicate_succ, set_app (by rw [idxs_len]; simp), idxs_succ]
 simp
theorem upc_ord {a0 : List S151} {x : List Int} {k : Nat} (hs : UpS a0) (hx : x = idxs k ++ List.replicate (a0.length - k) 0) (hl : x.length = a0.length) (hk : a0.length ≤ k) : UpC x (fun x0 x1 => s204 x0 x1 a0) := by
 have hk' : k = a0.length := by
  rw [hx, List.length_append, idxs_len, List.length_replicate] at hl; omega
 have e : x = idxs a0.length := by
  rw [hx, hk', Nat.sub_self, List.replicate_zero, List.append_nil]
 subst e
 have at_ : ∀ i j : Int, i ∈ idxs a0.length → j ∈ idxs a0.length → ∃ a b, a0[i.toNat]? = some a ∧ a0[j.toNat]? = some b ∧ s204 i j a0 = some (s167 a.Moment b.Moment) := fun i j hi hj => by
  obtain ⟨a, ha, ha'⟩ := ixO_idx hi;obtain ⟨b, hb, hb'⟩ := ixO_idx hj;exact ⟨a, b, ha', hb', by simp only [s204, ha, hb, bindO]⟩
 refine ⟨fun x hx y hy => ?_, fun i j x y r hij hi hj hr => ?_⟩
 ·obtain ⟨a, b, _, _, h⟩ := at_ x y hx hy;exact ⟨_, h⟩
 ·obtain ⟨b, a, hb, ha, h⟩ := at_ y x (List.mem_of_getElem? hj) (List.mem_of_getElem? hi);have hi' := (List.getElem?_eq_some_iff.1 hi).1;have hj' := (List.getElem?_eq_some_iff.1 hj).1;rw [idxs_len] at hi' hj'
  have ex : x = (i : Int) := by simpa [idxs, hi'] using hi.symm
  have ey : y = (j : Int) := by simpa [idxs, hj'] using hj.symm
  subst ex; subst ey;have hr : s204 ((j : Nat) : Int) ((i : Nat) : Int) a0 = some r := hr;rw [h] at hr
  cases hr
  have ha : a0[i]? = some a := by simpa using ha
  have hb : a0[j]? = some b := by simpa using hb
  have hle : a.Moment ≤ b.Moment := by
   have := List.pairwise_iff_getElem.1 hs i j hi' hj' hij;rw [List.getElem?_eq_getElem hi'] at ha; rw [List.getElem?_eq_getElem hj'] at hb
   cases ha; cases hb; exact this
  have := s167_lt b.Moment a.Moment
  by_cases hq : s167 b.Moment a.Moment < 0
  ·rw [decide_eq_true hq] at this;have := of_decide_eq_true this.symm
   omega
  ·omega
end Go.Sim
set_option maxRecDepth 10000
namespace Go.Sim
open Go.Proofs
theorem nc168U {g : List (Nat × List Value)} (a0 : List S151) {R : List Int}  (hb0 : a0.length ≤ 1000) (hs0 : UpS a0) (hR : s168 a0 = some R) : ConN (EG g) 144 [G.sl 3 (List.map S151.c a0)] 3 1 (List.map cInt R) := by
 unfold s168 at hR;refine conN_of_aw Tryz.func144 rfl rfl fun w0 M0 => ?_;refine len_sl (f := S151.c) (l := a0) 0 rfl fun hla0 => ?_;refine aw_seq ?_;refine aw_region [.p, .w] ?_;refine su (eff_box rfl rfl) rfl ?_;refine sw (eff_nilL 2 3 1 rfl rfl rfl) rfl ?_;refine st_nil ?_;refine aw_seq ?_;refine aw_region [.p, .p, .w, .p] ?_;refine su (eff_load rfl ty25 rfl) rfl ?_;refine su (eff_lenM (f := S151.c) (l := a0) rfl Tryz.underlying39 rfl) rfl ?_;refine sw (eff_makeS (f := cInt) (z := 0) 7 rfl mk82 rfl rfl rfl (by first | exact Int.le_refl _ | omega) (by first | decide | omega) rfl rfl rfl) rfl ?_;refine su (eff_assignO rfl rfl) rfl ?_;refine st_nil ?_;refine aw_seq ?_;refine aw_seq ?_;refine aw_region [.p, .p, .p] ?_;refine su (eff_load rfl ty25 rfl) rfl ?_;refine su (eff_lenM (f := S151.c) (l := a0) rfl Tryz.underlying39 rfl) rfl ?_;refine sm rfl rfl ?_;refine st_nil ?_;refine aw_block ?_;refine aw_loop_g (γ := Nat × (List S151) × (List Int)) (fun g => ([(1, .g (G.ref [G.sl 3 (List.map S151.c a0)])), (3, .osl 7 1 0 (List.length a0)), (9, .g (G.int (List.length a0 : Int))), (10, .g (G.int ((g.1 : Nat) : Int)))], [(7, .arr 3 1 (List.map cInt g.2.2))])) (fun g => g.2.2 = idxs g.1 ++ List.replicate (a0.length - g.1) 0 ∧ List.length g.2.2 = List.length a0 ∧ a0.drop g.1 = g.2.1 ∧ s168_l1 a0 g.2.1 g.1 g.2.2 = some R) (fun g => List.length g.2.1) ⟨rfl, (0, a0, List.replicate (List.length a0) 0), ⟨rfl, rfl, rfl, rfl, trivial⟩, ⟨rfl, trivial⟩, rfl, ⟨(by simp [idxs]), List.length_replicate, rfl, hR⟩, trivial⟩ ?_
 ·rintro ⟨k4, t6, x2⟩ ⟨iv1_0, ln3, hd, hR⟩;replace hd : a0.drop k4 = t6 := hd;replace hR : s168_l1 a0 t6 k4 x2 = some R := hR;replace iv1_0 : x2 = idxs k4 ++ List.replicate (a0.length - k4) 0 := iv1_0;replace ln3 : List.length x2 = List.length a0 := ln3;refine aw_seq ?_;refine aw_region [.p] ?_;refine su (eff_lss rfl rfl rfl) rfl ?_;refine st_nil ?_;refine aw_seq ?_;refine aw_cond _ rfl (fun h1 => ?_) (fun h1 => ?_)
  ·replace h1 : (decide (((k4 : Nat) : Int) < (List.length a0 : Int))) = true := h1;obtain ⟨y5, t6, rfl, hx1, hd⟩ := drop_cons hd (decT h1);replace h1 := decT h1;rw [s168_l1] at hR;(try dsimp only at hR);refine aw_skip ?_;refine aw_seq ?_;refine aw_block ?_;refine aw_seq ?_;refine aw_region [.p, .p] ?_;refine sm rfl rfl ?_;refine sa rfl rfl ?_;refine st_nil ?_;obtain ⟨y8, by8, hR⟩ := bindO_inv hR;refine aw_region [.p, .p, .p, .p, .w] ?_;refine su (eff_moveO rfl rfl) rfl ?_;refine sm rfl rfl ?_;refine sm rfl rfl ?_;refine su (eff_ixL rfl Tryz.underlying64 ty3 rfl rfl (ixO_nn by8) (Nat.lt_of_lt_of_eq (get_lt (ixO_get by8)) ln3)) rfl ?_;refine st_wn rfl rfl (eff_setL (f := cInt) (l := x2) (a' := ((k4 : Nat) : Int)) rfl ty3 rfl rfl rfl (Nat.lt_of_lt_of_eq (Nat.lt_of_lt_of_eq (get_lt (ixO_get by8)) ln3) (Eq.symm ln3)) rfl (fun _ => rfl)) ?_;refine st_nil ?_;refine aw_region [.p, .p] ?_;refine su (eff_add rfl rfl rfl iE) rfl ?_;refine sm rfl rfl ?_;refine st_nil ?_;exact ⟨rfl, (k4 + 1, t6, List.set x2 (Int.toNat ((k4 : Nat) : Int)) ((k4 : Nat) : Int)), ⟨rfl, rfl, rfl, rfl, trivial⟩, ⟨rfl, trivial⟩, rfl, ⟨(ord_step iv1_0 (get_lt hx1)), ((List.length_set ..).trans ln3), hd, hR⟩, by simp⟩
  ·replace h1 : (decide (((k4 : Nat) : Int) < (List.length a0 : Int))) = false := h1;obtain rfl := drop_nil hd (decF h1);rw [s168_l1] at hR;refine aw_exit ?_;refine aw_seq ?_;obtain ⟨r7, br7, hR⟩ := bindO_inv hR;refine aw_region [.p, .p, .w] ?_;refine su (eff_moveO rfl rfl) rfl ?_;refine su (eff_makeF rfl rfl rfl) rfl ?_;refine sw (eff_callB1 0 7 rfl K203 rfl (c203U x2 (fun x0 x1 => s204 x0 x1 a0) ln3 fnis_fn K204 (fun x0 x1 r_ h_ => c204 x0 x1 a0 h_) (by omega) (upc_ord hs0 iv1_0 (by assumption) (by have := decF h1; omega)) br7) (at_cons rfl rfl (at_cons rfl rfl at_nil)) rfl rfl rfl) rfl ?_;refine st_nil ?_;refine aw_seq ?_;refine aw_region [.p, .p] ?_;refine su (eff_moveO rfl rfl) rfl ?_;refine su (eff_assignO rfl rfl) rfl ?_;refine st_nil ?_;refine aw_ret ?_;obtain rfl := Option.some.inj hR;exact doneN_own rfl rfl rfl ((List.length_map ..).trans ((len203 br7).trans ln3))
theorem nc168W {g : List (Nat × List Value)} (a0 : List S151) {R : List Int} (hb0 : a0.length ≤ 1000) (hs0 : SortOk a0) (hR : s168 a0 = some R) : ConN (EG g) 144 [G.sl 3 (List.map S151.c a0)] 3 1 (List.map cInt R) :=
 hs0.elim (fun h => n168 a0 h hR) (fun h => nc168U a0 hb0 h hR)
theorem c168W {g : List (Nat × List Value)} (a0 : List S151) {R : List Int} (hb0 : a0.length ≤ 1000) (hs0 : SortOk a0) (hR : s168 a0 = some R) : Con (EG g) 144 [G.sl 3 (List.map S151.c a0)] (G.sl 1 (List.map cInt R)) :=
 ConN.con (by decide) (nc168W a0 hb0 hs0 hR)
end Go.Sim
set_option maxRecDepth 10000
namespace Go.Sim
open Go.Proofs
theorem nc115W {g : List (Nat × List Value)} (a0 : S23) (a1 : List S151) (a2 : List S151) {R : List S154}  (hb1 : a1.length ≤ 1000) (hb2 : a2.length ≤ 1000) (hs1 : SortOk a1) (hs2 : SortOk a2) (hR : s115 a0 a1 a2 = some R) : ConN (EG g) 81 [G.agg [G.int a0.Before, G.int a0.After, G.int a0.Notice, G.int a0.Share, G.sl 1 (List.map cStr a0.Causes), G.int a0.Off, G.int a0.Run], G.sl 3 (List.map S151.c a1), G.sl 3 (List.map S151.c a2)] 167 2 (List.map S154.c R) := by
 unfold s115 at hR;refine conN_of_aw Tryz.func81 rfl rfl fun w0 M0 => ?_;refine len_sl (f := S151.c) (l := a1) 1 rfl fun hla1 => ?_;refine len_sl (f := S151.c) (l := a2) 2 rfl fun hla2 => ?_;refine aw_seq ?_;refine aw_region [.p, .w] ?_;refine su (eff_box rfl rfl) rfl ?_;refine sw (eff_nilL 6 167 2 rfl rfl rfl) rfl ?_;refine st_nil ?_;refine aw_seq ?_;refine aw_region [.w, .p] ?_;refine sw (eff_makeMap 14 rfl rfl) rfl ?_;refine su (eff_assignM rfl rfl) rfl ?_;refine st_nil ?_;refine aw_seq ?_;obtain ⟨r1, br1, hR⟩ := bindO_inv hR;refine aw_region [.p, .p, .p] ?_;refine sm rfl rfl ?_;refine su (eff_call rfl K168 rfl (c168W a2 iA iA br1) (ag_cons rfl ag_nil)) rfl ?_;refine sa rfl rfl ?_;refine st_nil ?_;have hl1 := len168 br1;refine aw_seq ?_;refine aw_region [.w] ?_;refine sw (eff_nilL 9 167 2 rfl rfl rfl) rfl ?_;refine st_nil ?_;refine aw_seq ?_;refine aw_seq ?_;obtain ⟨r2, br2, hR⟩ := bindO_inv hR;refine aw_region [.p, .p, .p, .p] ?_;refine sm rfl rfl ?_;refine su (eff_call rfl K168 rfl (c168W a1 iA iA br2) (ag_cons rfl ag_nil)) rfl ?_;refine su (eff_lenM (f := cInt) (l := r2) rfl Tryz.underlying64 rfl) rfl ?_;refine sm rfl rfl ?_;refine st_nil ?_;have hl2 := len168 br2;refine aw_block ?_;refine aw_loop_g (γ := Nat × (List Int) × (List S154) × (List (Int × Bool))) (fun g => ([(1, .g (G.sl 3 (List.map S151.c a1))), (2, .g (G.sl 3 (List.map S151.c a2))), (3, .g (G.ref [G.int a0.Before, G.int a0.After, G.int a0.Notice, G.int a0.Share, G.sl 1 (List.map cStr a0.Causes), G.int a0.Off, G.int a0.Run])), (7, .omap 14), (8, .g (G.sl 1 (List.map cInt r1))), (9, .osl 9 2 0 (List.length g.2.2.1)), (18, .g (G.sl 1 (List.map cInt r2))), (19, .g (G.int (List.length r2 : Int))), (20, .g (G.int ((g.1 : Nat) : Int)))], [(9, .arr 167 2 (List.map S154.c g.2.2.1)), (14, mpB (K := Int) (V := Bool) (Value.int .i64) (fun v => G.bool v) g.2.2.2)])) (fun g => g.2.2.1.length ≤ g.1 ∧ r2.drop g.1 = g.2.1 ∧ s115_l1 a0 a1 a2 r1 g.2.1 g.1 g.2.2.1 g.2.2.2 = some R) (fun g => List.length g.2.1) ⟨rfl, (0, r2, [], []), ⟨rfl, rfl, rfl, rfl, rfl, rfl, rfl, rfl, rfl, trivial⟩, ⟨rfl, rfl, trivial⟩, rfl, ⟨iH, rfl, hR⟩, trivial⟩ ?_
 ·rintro ⟨k6, t8, x3, x5⟩ ⟨iv1_0, hd, hR⟩;replace hd : r2.drop k6 = t8 := hd;replace hR : s115_l1 a0 a1 a2 r1 t8 k6 x3 x5 = some R := hR;replace iv1_0 : x3.length ≤ k6 := iv1_0;refine aw_seq ?_;refine aw_region [.p] ?_;refine su (eff_lss rfl rfl rfl) rfl ?_;refine st_nil ?_;refine len_sl (f := cInt) (l := r2) 18 rfl fun hlz1 => ?_;refine aw_seq ?_;refine aw_cond _ rfl (fun h1 => ?_) (fun h1 => ?_)
  ·replace h1 : (decide (((k6 : Nat) : Int) < (List.length r2 : Int))) = true := h1;obtain ⟨y7, t8, rfl, hx1, hd⟩ := drop_cons hd (decT h1);replace h1 := decT h1;rw [s115_l1] at hR;(try dsimp only at hR);refine aw_skip ?_;refine aw_cut_g (γ := (List S154) × (List (Int × Bool))) (fun g => ([(1, .g (G.sl 3 (List.map S151.c a1))), (2, .g (G.sl 3 (List.map S151.c a2))), (3, .g (G.ref [G.int a0.Before, G.int a0.After, G.int a0.Notice, G.int a0.Share, G.sl 1 (List.map cStr a0.Causes), G.int a0.Off, G.int a0.Run])), (7, .omap 14), (8, .g (G.sl 1 (List.map cInt r1))), (9, .osl 9 2 0 (List.length g.1)), (18, .g (G.sl 1 (List.map cInt r2))), (19, .g (G.int (List.length r2 : Int))), (20, .g (G.int ((k6 : Nat) : Int)))], [(9, .arr 167 2 (List.map S154.c g.1)), (14, mpB (K := Int) (V := Bool) (Value.int .i64) (fun v => G.bool v) g.2)])) (fun g => g.1.length ≤ k6 + 1 ∧ s115_j1 (fun k_ z0_ z1_ => s115_l1 a0 a1 a2 r1 t8 k_ z0_ z1_) k6 g.1 g.2 = some R) ?_ ?_
   ·refine aw_block ?_;refine aw_seq ?_;refine aw_region [.p, .p, .p] ?_;refine su (eff_ix (f := cInt) (l := r2) (a := y7) rfl Tryz.underlying64 ty3 rfl rfl (Int.natCast_nonneg _) hx1) rfl ?_;refine su (eff_load rfl ty3 rfl) rfl ?_;refine sa rfl rfl ?_;refine st_nil ?_;refine aw_seq ?_;refine aw_region [.p, .p, .p] ?_;refine sm rfl rfl ?_;refine su (eff_lenM (f := cInt) (l := r1) rfl Tryz.underlying64 rfl) rfl ?_;refine sm rfl rfl ?_;refine st_nil ?_;refine aw_block ?_;refine aw_loop_g (γ := Nat × (List Int)) (fun g => ([(1, .g (G.sl 3 (List.map S151.c a1))), (2, .g (G.sl 3 (List.map S151.c a2))), (3, .g (G.ref [G.int a0.Before, G.int a0.After, G.int a0.Notice, G.int a0.Share, G.sl 1 (List.map cStr a0.Causes), G.int a0.Off, G.int a0.Run])), (7, .omap 14), (8, .g (G.sl 1 (List.map cInt r1))), (9, .osl 9 2 0 (List.length x3)), (11, .g (G.int y7)), (18, .g (G.sl 1 (List.map cInt r2))), (19, .g (G.int (List.length r2 : Int))), (20, .g (G.int ((k6 : Nat) : Int))), (24, .g (G.sl 1 (List.map cInt r1))), (25, .g (G.int (List.length r1 : Int))), (26, .g (G.int ((g.1 : Nat) : Int)))], [(9, .arr 167 2 (List.map S154.c x3)), (14, mpB (K := Int) (V := Bool) (Value.int .i64) (fun v => G.bool v) x5)])) (fun g => r1.drop g.1 = g.2 ∧ s115_l2 (fun k_ z0_ z1_ => s115_l1 a0 a1 a2 r1 t8 k_ z0_ z1_) a0 a1 a2 x3 x5 k6 y7 g.2 g.1 = some R) (fun g => List.length g.2) ⟨rfl, (0, r1), ⟨rfl, rfl, rfl, rfl, rfl, rfl, rfl, rfl, rfl, rfl, rfl, rfl, rfl, trivial⟩, ⟨rfl, rfl, trivial⟩, rfl, ⟨rfl, hR⟩, trivial⟩ ?_
    ·rintro ⟨k12, t14⟩ ⟨hd, hR⟩;replace hd : r1.drop k12 = t14 := hd;replace hR : s115_l2 (fun k_ z0_ z1_ => s115_l1 a0 a1 a2 r1 t8 k_ z0_ z1_) a0 a1 a2 x3 x5 k6 y7 t14 k12 = some R := hR;refine aw_seq ?_;refine aw_region [.p] ?_;refine su (eff_lss rfl rfl rfl) rfl ?_;refine st_nil ?_;refine len_sl (f := cInt) (l := r1) 8 rfl fun hlz2 => ?_;refine aw_seq ?_;refine aw_cond _ rfl (fun h3 => ?_) (fun h3 => ?_)
     ·replace h3 : (decide (((k12 : Nat) : Int) < (List.length r1 : Int))) = true := h3;obtain ⟨y13, t14, rfl, hx2, hd⟩ := drop_cons hd (decT h3);replace h3 := decT h3;rw [s115_l2] at hR;(try dsimp only at hR);refine aw_skip ?_;refine aw_seq ?_;refine aw_block ?_;refine aw_seq ?_;refine aw_region [.p, .p, .p] ?_;refine su (eff_ix (f := cInt) (l := r1) (a := y13) rfl Tryz.underlying64 ty3 rfl rfl (Int.natCast_nonneg _) hx2) rfl ?_;refine su (eff_load rfl ty3 rfl) rfl ?_;refine sa rfl rfl ?_;refine st_nil ?_;refine aw_seq ?_;obtain ⟨y15, by15, hR⟩ := bindO_inv hR;obtain ⟨y16, by16, hR⟩ := bindO_inv hR;refine aw_draw [.p, .p, .r, .p, .p, .p, .p, .p, .p, .p, .p, .p, .p, .p, .p, .p] (by kernel_rfl) ?_;refine su (eff_moveM rfl rfl) rfl ?_;refine sm rfl rfl ?_;refine sr (eff_lookup (kf := Value.int .i64) (vf := (fun v => G.bool v)) (m := x5) (k := y13) (z := false) rfl Tryz.underlying226 Tryz.underlying3 zr4 (fun _ _ => rfl) rfl rfl rfl) rfl ?_;refine su (eff_not rfl rfl) rfl ?_;refine sm rfl rfl ?_;refine sg rfl rfl (fun h => eff_loadA rfl ty24 rfl rfl rfl) rfl ?_;refine sg rfl rfl (fun h => eff_moveg rfl rfl) rfl ?_;refine sg rfl rfl (fun h => eff_moveg rfl rfl) rfl ?_;refine sg rfl rfl (fun h => eff_ix (f := S151.c) (l := a1) (a := y15) rfl Tryz.underlying39 ty152 (gd h rfl) (gd h rfl) (ixO_nn (condT1 by15 h)) (ixO_get (condT1 by15 h))) rfl ?_;refine sg rfl rfl (fun h => eff_loadA rfl ty152 (gd h rfl) rfl rfl) rfl ?_;refine sg rfl rfl (fun h => eff_moveg rfl rfl) rfl ?_;refine sg rfl rfl (fun h => eff_moveg rfl rfl) rfl ?_;refine sg rfl rfl (fun h => eff_ix (f := S151.c) (l := a2) (a := y16) rfl Tryz.underlying39 ty152 (gd h rfl) (gd h rfl) (ixO_nn (condT1 by16 h)) (ixO_get (condT1 by16 h))) rfl ?_;refine sg rfl rfl (fun h => eff_loadA rfl ty152 (gd h rfl) rfl rfl) rfl ?_;refine sg rfl rfl (fun h => eff_call rfl K142 rfl (c142 a0 y15 y16) (ag_cons (gd h rfl) (ag_cons (gd h rfl) (ag_cons (gd h rfl) ag_nil)))) rfl ?_;refine su (eff_and rfl rfl rfl rfl) rfl ?_;refine st_nil ?_;refine aw_cond _ rfl (fun h5 => ?_) (fun h5 => ?_)
      ·replace h5 : ((!(mgetD x5 y13 false)) && (s142 a0 y15 y16)) = true := h5;replace hR := condT hR h5;(try simp only [bB] at h5);refine aw_seq ?_;refine aw_region [.p, .p, .w] ?_;refine su (eff_moveM rfl rfl) rfl ?_;refine sm rfl rfl ?_;refine st_wn rfl rfl (eff_update (kf := Value.int .i64) (vf := (fun v => G.bool v)) (m := x5) (k := y13) (v := true) (ins := false) rfl Tryz.underlying226 Tryz.underlying3 rfl rfl rfl rfl) ?_;refine st_nil ?_;refine aw_seq ?_;refine aw_region [.p, .p, .p, .p, .p, .k, .p] ?_;refine su (eff_moveO rfl rfl) rfl ?_;refine sm rfl rfl ?_;refine sm rfl rfl ?_;refine su (eff_build rfl z155 rfl pl155 (pb_cons rfl (pb_cons rfl pb_nil)) rfl) rfl ?_;refine su (eff_buildSlice rfl Tryz.underlying163 ty155 z155 rfl (ps_cons rfl ps_nil) rfl (by exact lens rfl) (by decide)) rfl ?_;refine st_k rfl rfl (eff_appL (f := S154.c) (out := x3) (new := [(S154.mk y7 y13)]) rfl app79 rfl rfl (src_eq rfl (src_sl (by decide) (by simp [S154.c]))) (refsN rfl) (by simp; omega)) rfl ?_;refine su (eff_assignO rfl rfl) rfl ?_;refine st_nil ?_;refine aw_exit ?_;exact ⟨rfl, (x3 ++ [(S154.mk y7 y13)], mset x5 y13 true), ⟨rfl, rfl, rfl, rfl, rfl, rfl, rfl, rfl, rfl, trivial⟩, ⟨rfl, rfl, trivial⟩, rfl, ⟨iC, hR⟩, trivial⟩
      ·replace h5 : ((!(mgetD x5 y13 false)) && (s142 a0 y15 y16)) = false := h5;replace hR := condF hR h5;(try simp only [bB] at h5);refine aw_skip ?_;refine aw_region [.p, .p] ?_;refine su (eff_add rfl rfl rfl iE) rfl ?_;refine sm rfl rfl ?_;refine st_nil ?_;exact ⟨rfl, (k12 + 1, t14), ⟨rfl, rfl, rfl, rfl, rfl, rfl, rfl, rfl, rfl, rfl, rfl, rfl, rfl, trivial⟩, ⟨rfl, rfl, trivial⟩, rfl, ⟨hd, hR⟩, by simp⟩
     ·replace h3 : (decide (((k12 : Nat) : Int) < (List.length r1 : Int))) = false := h3;obtain rfl := drop_nil hd (decF h3);rw [s115_l2] at hR;refine aw_exit ?_;exact ⟨rfl, (x3, x5), ⟨rfl, rfl, rfl, rfl, rfl, rfl, rfl, rfl, rfl, trivial⟩, ⟨rfl, rfl, trivial⟩, rfl, ⟨iC, hR⟩, trivial⟩
   ·rintro ⟨x9, x10⟩ ⟨jv1_0, hR⟩;replace jv1_0 : x9.length ≤ k6 + 1 := jv1_0;replace hR : s115_j1 (fun k_ z0_ z1_ => s115_l1 a0 a1 a2 r1 t8 k_ z0_ z1_) k6 x9 x10 = some R := hR;unfold s115_j1 at hR;refine aw_region [.p, .p] ?_;refine su (eff_add rfl rfl rfl iE) rfl ?_;refine sm rfl rfl ?_;refine st_nil ?_;exact ⟨rfl, (k6 + 1, t8, x9, x10), ⟨rfl, rfl, rfl, rfl, rfl, rfl, rfl, rfl, rfl, trivial⟩, ⟨rfl, rfl, trivial⟩, rfl, ⟨iB, hd, hR⟩, by simp⟩
  ·replace h1 : (decide (((k6 : Nat) : Int) < (List.length r2 : Int))) = false := h1;obtain rfl := drop_nil hd (decF h1);rw [s115_l1] at hR;refine aw_exit ?_;refine aw_seq ?_;refine aw_region [.p, .p] ?_;refine su (eff_moveO rfl rfl) rfl ?_;refine su (eff_assignO rfl rfl) rfl ?_;refine st_nil ?_;refine aw_ret ?_;obtain rfl := Option.some.inj hR;exact doneN_own rfl rfl rfl ((List.length_map ..).trans rfl)
theorem dayL_asc (m : Int) : ∀ (n : Nat) (d : Int), (dayL m n d).Pairwise (· < ·)
 | 0, d => by simp [dayL]
 | n + 1, d => by
  rw [dayL]
  split
  ·refine List.pairwise_cons.2 ⟨fun z hz => ?_, dayL_asc m n (d + 1)⟩;have := dayL_range m n (d + 1) z hz
   omega
  ·exact dayL_asc m n (d + 1)
def s103 (a0 a1 : ByteArray) (p : S45) (m : Int) : List S151 := slotsL a0 a1 (momL m (dayL p.Days (p.fTo + 1 - p.fFrom).toNat p.fFrom))
def dayP (p : S45) : List Int := dayL p.Days (p.fTo + 1 - p.fFrom).toNat p.fFrom
theorem len103 (a0 a1 : ByteArray) (p : S45) (m : Int) : (s103 a0 a1 p m).length = (dayP p).length := by simp [s103, slotsL, momL, dayP]
theorem up103 (a0 a1 : ByteArray) (p : S45) (m : Int) : UpS (s103 a0 a1 p m) := by
 unfold UpS s103 slotsL momL;rw [List.pairwise_map, List.pairwise_map]
 exact (dayL_asc _ _ _).imp fun h => by show 1440 * _ + m ≤ 1440 * _ + m; omega
structure RqOk (q : S115) : Prop where
 per : s102 q.Period = 0
 m0 : 0 ≤ q.Minute
 m1 : q.Minute ≤ 1439
 len : (dayP q.Period).length ≤ 100
section
variable {E : Env} {w0 : World} {M0 : Nat → Prop}
theorem MFits.get {w : World} {M : Nat → Prop} : ∀ {es : List (Value × G)} {l : List MapEntry} {j : Nat} {e : MapEntry}, MFits w M es l → l[j]? = some e → ∃ k g, es[j]? = some (k, g) ∧ e.key = k ∧ g.p w M e.val
 | [], [], _, _, _, h => by simp at h
 | (k, g) :: _, e' :: _, 0, e, h, he => by
  simp at he; subst he
  exact ⟨k, g, rfl, h.1.1, h.1.2⟩
 | _ :: _, _ :: _, j + 1, e, h, he => by
  obtain ⟨k, g, h1, h2⟩ := MFits.get h.2 (by simpa using he);exact ⟨k, g, by simpa using h1, h2⟩
 | [], _ :: _, _, _, h, _ => h.elim
 | _ :: _, [], _, _, h, _ => h.elim
theorem MFits.length {w : World} {M : Nat → Prop} : ∀ {es : List (Value × G)} {l : List MapEntry}, MFits w M es l → l.length = es.length
 | [], [], _ => rfl
 | (_, _) :: _, _ :: _, h => by simp [MFits.length h.2]
 | [], _ :: _, h => h.elim
 | _ :: _, [], h => h.elim
end
section
variable {α : Type}
def MOrd (m : List α) (sn : List Nat) (l : List α) : Prop := sn.Nodup ∧ l.map some = sn.reverse.map (fun j => m[j]?)
theorem MOrd.lt {m : List α} {sn : List Nat} {l : List α} (h : MOrd m sn l) {j : Nat} (hj : j ∈ sn) : j < m.length := by
 have h1 : m[j]? ∈ sn.reverse.map (fun j => m[j]?) := List.mem_map.2 ⟨j, List.mem_reverse.2 hj, rfl⟩;rw [← h.2] at h1;obtain ⟨x, _, hx⟩ := List.mem_map.1 h1;exact (List.getElem?_eq_some_iff.1 hx.symm).1
theorem nodup_sub_len {α : Type} [DecidableEq α] : ∀ {a b : List α}, a.Nodup → (∀ x ∈ a, x ∈ b) → a.length ≤ b.length
 | [], _, _, _ => Nat.zero_le _
 | x :: a, b, hn, hs => by
  obtain ⟨h1, h2⟩ := List.nodup_cons.1 hn;have hx := hs x List.mem_cons_self;have := nodup_sub_len (b := b.erase x) h2 fun y hy => (List.mem_erase_of_ne (fun e => h1 (by rw [← e]; exact hy))).2 (hs y (List.mem_cons_of_mem _ hy));rw [List.length_erase_of_mem hx] at this;have : 0 < b.length := List.length_pos_of_mem hx
  simp; omega
theorem MOrd.len {m : List α} {sn : List Nat} {l : List α} (h : MOrd m sn l) : l.length ≤ m.length := by
 have h1 : l.length = sn.length := by have := congrArg List.length h.2; simpa using this
 have := nodup_sub_len h.1 (b := List.range m.length) fun x hx => List.mem_range.2 (h.lt hx)
 simp at this
 omega
end
end Go.Sim
set_option maxRecDepth 10000
namespace Go.Sim
open Go.Proofs
def s140 (a0 : Int) : Int × Int :=
 (bif decide ((s153 a0) ≠ 0) then (0, (s153 a0)) else ((s188 a0), 0))
theorem c140 {g : List (Nat × List Value)} (a0 : Int)    : Con (EG g) 38 [G.int a0] (G.tup [G.int ((s140 a0).1), G.int ((s140 a0).2)]) := by
 generalize hR : s140 a0 = R;unfold s140 at hR;refine con_of_aw Tryz.func38 rfl rfl fun w0 M0 => ?_;refine aw_seq ?_;refine aw_region [.p, .p] ?_;refine sa rfl rfl ?_;refine sa rfl rfl ?_;refine st_nil ?_;refine aw_seq ?_;refine aw_seq ?_;refine aw_region [.p, .p, .p] ?_;refine sm rfl rfl ?_;refine su (eff_call rfl K153 rfl (c153 a0) (ag_cons rfl ag_nil)) rfl ?_;refine sa rfl rfl ?_;refine st_nil ?_;refine aw_seq ?_;refine aw_region [.p, .p] ?_;refine sm rfl rfl ?_;refine su (eff_neq rfl rfl rfl) rfl ?_;refine st_nil ?_;refine aw_cond _ rfl (fun h1 => ?_) (fun h1 => ?_)
 ·replace h1 : (decide ((s153 a0) ≠ 0)) = true := h1;replace hR := condT hR h1;(try simp only [bB] at h1);refine aw_seq ?_;refine aw_region [.p, .p, .p] ?_;refine sm rfl rfl ?_;refine sa rfl rfl ?_;refine sa rfl rfl ?_;refine st_nil ?_;refine aw_ret ?_;subst hR;exact resN rfl ⟨rv_g rfl, rv_g rfl, trivial⟩ (by simp)
 ·replace h1 : (decide ((s153 a0) ≠ 0)) = false := h1;replace hR := condF hR h1;(try simp only [bB] at h1);refine aw_skip ?_;refine aw_seq ?_;refine aw_region [.p, .p, .p, .p] ?_;refine sm rfl rfl ?_;refine su (eff_call rfl K188 rfl (c188 a0) (ag_cons rfl ag_nil)) rfl ?_;refine sa rfl rfl ?_;refine sa rfl rfl ?_;refine st_nil ?_;refine aw_ret ?_;subst hR;exact resN rfl ⟨rv_g rfl, rv_g rfl, trivial⟩ (by simp)
section
variable {E : Env} {w0 : World} {M0 : Nat → Prop}
theorem eff_allocV {o : Oper} {mem : Mem} {ev : Operand → TV} {t : TypeId} {zs : List Value} {N k : Nat} {c : List G} (id : Nat) (ho : o.op = .alloc t) (hz : zeroK E.P t = some zs) (hz1 : zs.all Value.oneCell' = true) (hN : N ≤ maxLen)
  (hc : zs.map G.lit = (List.replicate N c).flatten) (hk : c.length = k) (hf : lookO mem id = none) :
  EffW E o mem ev (.eptr id k 0 0) ((id, .arr t k (List.replicate N c)) :: mem) none := by
 intro w0 M0 ρ w e hm _;have hr0 := rho_none hm hf;have hg := Grow.alloc w (.cells zs.toArray t)
 have hM : ∀ b, b < w.heap.size → owned M0 (rhoSet ρ id (some ⟨w.heap.size, 0, N⟩)) b → owned M0 ρ b := by
  rintro b hb (h | ⟨i, o, h, rfl⟩)
  ·exact .inl h
  ·by_cases hi : i = id
   ·subst hi; rw [rhoSet_same] at h; cases h; simp at hb
   ·exact .inr ⟨i, o, by simpa [rhoSet, hi] using h, rfl⟩
 have hzf : Fits w (owned M0 ρ) (List.replicate N c).flatten zs := by rw [← hc]; exact fits_lits (fun v hv => List.all_eq_true.1 hz1 v hv)
 have hzl : zs.length = N * k := by rw [hzf.length]; simp [hk]
 have hrun : (execOp e o).run E.P w = .ok (.value (.pointer (some ⟨w.heap.size, 0, none⟩))) (w.alloc (.cells zs.toArray t)) := by
  simp [execOp, ho, run_alloc hz]
 rw [hrun];obtain ⟨g1, g2⟩ := mrel_upd (id := id) (x := some ⟨w.heap.size, 0, N⟩) (blk' := .arr t k (List.replicate N c)) none hm (diff_alloc ρ id w (.cells zs.toArray t)) (fun o ho => by cases ho; exact ⟨.inl (Nat.le_refl _), by simp⟩) (.inr ⟨rfl, .inl hr0⟩) (fun _ b _ _ => noref_none b) (.inl rfl)
  (.inr ⟨⟨w.heap.size, 0, N⟩, _, rhoSet_same _ _ _, heap_alloc_new w _, by simp, hN, .inr (by show 0 + N * k ≤ _; simp [hzl]), fun d hd => by
   rw [List.eq_of_mem_replicate hd]; exact hk, by
   show Fits _ _ _ ((List.drop 0 _).take _);rw [List.drop_zero, List.length_replicate, List.take_of_length_le (by simp [hzl])]
   exact hzf.mono hg.hh hM⟩)
 exact ⟨_, g1, g2, ⟨w.heap.size, 0, N⟩, rhoSet_same _ _ _, by simp⟩
theorem eff_indexV {o : Oper} {ev : Operand → TV} {t el : TypeId} {x ix : Operand} {k id N : Nat} {b : Bool} {kk : IntKind} {n : Int} (ho : o.op = .indexAddr t x ix)
  (ht : E.P.underlying t = some (.array N el)) (he : tyK E.P el = some (k, b)) (hx : ev x = .eptr id k 0 0) (hi' : ev ix = .g (.lit (.int kk n))) (h0 : 0 ≤ n) (hn : n.toNat < N) (mem : Mem) :
  Eff E o mem ev (.eptr id k n.toNat 0) :=
 eff_same (fun w M ρ e' hev => by
  have h1 := hev x (by rw [ho]; simp [Op.operands]);rw [hx] at h1;have h2 := hev ix (by rw [ho]; simp [Op.operands]);rw [hi'] at h2;have h2' : e' ix = .int kk n := h2;obtain ⟨ow, g1, g2⟩ := h1
  have hn' : n < (N : Int) := by omega
  refine ⟨.pointer (some ⟨ow.b, ow.o + n.toNat * k, none⟩), ?_, ow, g1, by simp⟩;simp only [execOp, ho, g2, h2']
  simp [Instr.indexAt, asIntOf, underlying, ht, run_sizeOf he, h0, hn', Instr.sureAddr, Addr.add_lit]) mem
theorem flat_lenK {k : Nat} : ∀ {xs : List (List G)}, (∀ c ∈ xs, c.length = k) → xs.flatten.length = xs.length * k
 | [], _ => by simp
 | c :: xs, h => by
  rw [List.flatten_cons, List.length_append, flat_lenK (fun d hd => h d (List.mem_cons_of_mem _ hd)), h c List.mem_cons_self, List.length_cons, Nat.succ_mul]; omega
theorem eff_loadV {o : Oper} {mem : Mem} {ev : Operand → TV} {t e : TypeId} {x : Operand} {kk id k : Nat} {xs : List (List G)} (ho : o.op = .load t x) (ht : tyK E.P t = some (kk, true)) (hx : ev x = .eptr id k 0 0) (hb : lookO mem id = some (.arr e k xs)) (hk : kk = xs.length * k) : Eff E o mem ev (.g (.agg xs.flatten)) := by
 intro w0 M0 ρ w e' hm he;have h1 := he x (by rw [ho]; simp [Op.operands]);rw [hx] at h1;obtain ⟨ow, h2, h3⟩ := h1
 rcases hm.blk id _ hb with ⟨q1, _⟩ | ⟨ow', cur, q1, q2, q3, q4, q5, q6, q7⟩
 ·rw [h2] at q1; cases q1
 have : ow' = ow := by rw [h2] at q1; simpa using q1.symm
 subst this
 have hlen : ((cur.toList.drop ow'.o).take (xs.length * k)).length = xs.length * k := by rw [q7.length, flat_lenK q6]
 have g2 : ∀ (j : Nat) v, ((cur.toList.drop ow'.o).take (xs.length * k))[j]? = some v → w.cell? ⟨ow'.b, ow'.o + j, none⟩ = some v := by
  intro j v hj;rw [cell_of_row w _ _ _ _ _ q2];rw [List.getElem?_take] at hj
  split at hj
  ·rw [List.getElem?_drop] at hj; simpa using hj
  ·cases hj
 have hrun : (execOp e' o).run E.P w = .ok (.value (.agg ((cur.toList.drop ow'.o).take (xs.length * k)).toArray)) w := by
  simp only [Nat.zero_mul, Nat.add_zero] at h3
  simp [execOp, ho, h3, Instr.loadAt, Instr.sureAddr, run_loadVar_agg ht (hlen.trans hk.symm) g2]
 rw [hrun];exact ⟨Grow.refl w, _, rfl, q7⟩
theorem eff_indexG {o : Oper} {ev : Operand → TV} {t el : TypeId} {x ix : Operand} {k N : Nat} {kk : IntKind} {n : Int} {xs : List (List G)} {c : List G} (ho : o.op = .index t x ix)
  (ht : E.P.underlying t = some (.array N el)) (he : tyK E.P el = some (k, true)) (hx : ev x = .g (.agg xs.flatten)) (hi' : ev ix = .g (.lit (.int kk n))) (h0 : 0 ≤ n) (hn : n.toNat < N) (hk : ∀ c ∈ xs, c.length = k) (hc : xs[n.toNat]? = some c) (mem : Mem) :
  Eff E o mem ev (.g (.agg c)) :=
 eff_same (fun w M ρ e' hev => by
  have h1 := hev x (by rw [ho]; simp [Op.operands]);rw [hx] at h1;have h2 := hev ix (by rw [ho]; simp [Op.operands]);rw [hi'] at h2;have h2' : e' ix = .int kk n := h2;obtain ⟨vs, g1, g2⟩ := h1
  have hn' : n < (N : Int) := by omega
  have hlt : n.toNat < xs.length := (List.getElem?_eq_some_iff.1 hc).1
  have hd : (xs.flatten.drop (n.toNat * k)).take k = c := by
   rw [flatten_drop n.toNat hk, List.drop_eq_getElem_cons hlt, List.flatten_cons, (List.getElem?_eq_some_iff.1 hc).2];rw [List.take_append_of_le_length (by rw [hk c (List.mem_of_getElem? hc)]; exact Nat.le_refl _), List.take_of_length_le (by rw [hk c (List.mem_of_getElem? hc)]; exact Nat.le_refl _)]
  refine ⟨.agg ((vs.drop (n.toNat * k)).take k).toArray, ?_, _, rfl, by rw [← hd]; exact (g2.drop _).take k⟩;simp only [execOp, ho, g1, h2']
  simp [Instr.index, asIntOf, underlying, ht, run_sizeOf he, h0, hn', part, run_isAgg he]) mem
end
end Go.Sim
