/-
  What is proved: lemmas and contracts of functions on the way to the law groundSums (part 8).
-/
import Derived.Test.YthhidpjikbhljaaGreatDoorVrA7
import Derived.Test.YthhidpjikbhljaaGreatDoorVrA5
set_option linter.unusedSectionVars false
set_option linter.unusedSimpArgs false
set_option linter.unusedVariables false
set_option linter.unnecessarySimpa false
set_option linter.deprecated false
set_option maxRecDepth 10000
namespace Go.Sim
open Go.Proofs
def s1173_l2 (r6 : List S1079) : Nat → Int → Option (List S1079)
 | 0, _ => none
 | k8 + 1, x7 => some r6
def s1173_l1 (a1 : Int) (a2 : S1079 → S1079 → Option Int) : Nat → Int → Int → (List S1079) → Option (List S1079)
 | 0, _, _, _ => none
 | k5 + 1, x1, x2, x3 => bindO (s1192 x3 x1 a1 a2) fun r6 => s1173_l2 r6 ((0) + 1) 20
def s1173 (a0 : List S1079) (a1 : Int) (a2 : S1079 → S1079 → Option Int) : Option (List S1079) :=
 s1173_l1 a1 a2 ((0) + 1) 0 20 a0
theorem c1173 {g : List (Nat × List Value)} (a0 : List S1079) (a1 : Int) (a2 : S1079 → S1079 → Option Int) {R : List S1079} {N0 : Nat} (hN0 : List.length a0 = N0) {ca2 : G} {ia2 : FuncId} {ka2 : List G} (ha2 : FnIs ca2 ia2 ka2) (Ka2 : Known Tryz.prog ia2) (Ha2 : ∀ (x0 : S1079) (x1 : S1079) (r : Int), a2 x0 x1 = some r → Con (EG g) ia2 ([G.agg [G.int x0.Moment, G.str x0.Kind, G.str x0.Terminal, G.int x0.Seats, G.int x0.Size, G.int x0.Noise, G.str x0.Name], G.agg [G.int x1.Moment, G.str x1.Kind, G.str x1.Terminal, G.int x1.Seats, G.int x1.Size, G.int x1.Noise, G.str x1.Name]] ++ ka2) (G.int r)) (hA : 0 ≤ a1) (hB : a1 ≤ 12) (hR : s1173 a0 a1 a2 = some R) : ConB (EG g) 173 [.osl 0 7 0 N0, .g (G.int a1), .g (ca2)] [(0, .arr 80 7 (List.map S1079.c a0))] (G.tup []) [(0, .arr 80 7 (List.map S1079.c R))] := by
 unfold s1173 at hR;refine conB_of_aw Tryz.func173 rfl rfl rfl fun w0 M0 x => ?_;refine len_osl (f := S1079.c) (l := a0) 0 rfl fun hla0 => ?_;refine aw_seq ?_;refine aw_region [.p] ?_;refine st rfl rfl (eff_assigng rfl rfl) rfl ?_;refine st_nil ?_;refine aw_seq ?_;refine aw_region [.p, .p, .p] ?_;refine st rfl rfl (eff_moveg rfl rfl) rfl ?_;refine st rfl rfl (eff_assigng rfl rfl) rfl ?_;refine st rfl rfl (eff_assigng rfl rfl) rfl ?_;refine st_nil ?_;refine aw_seq ?_;refine aw_block ?_;refine aw_loop_g (γ := Nat × Int × Int × (List S1079)) (fun g => ([(0, .osl 0 7 0 (N0)), (1, .g (G.int a1)), (2, .g (ca2)), (6, .g (G.int 20)), (7, .g (G.int g.2.1)), (8, .g (G.int g.2.2.1))], [(0, .arr 80 7 (List.map S1079.c g.2.2.2))])) (fun g => 0 < g.1 ∧ g.2.1 = 0 ∧ g.2.2.1 = 20 ∧ List.length g.2.2.2 = N0 ∧ s1173_l1 a1 a2 g.1 g.2.1 g.2.2.1 g.2.2.2 = some R) (fun g => g.1) ⟨rfl, ((0) + 1, 0, 20, a0), ⟨rfl, rfl, rfl, rfl, rfl, rfl, trivial⟩, ⟨rfl, trivial⟩, rfl, ⟨Nat.lt_succ_self _, (by first | omega | (dsimp only; omega) | simp), (by first | omega | (dsimp only; omega) | simp), hN0, hR⟩, trivial⟩ ?_
 ·rintro ⟨k5, x1, x2, x3⟩ ⟨hk1, iv1_0, iv1_1, ln4, hR⟩;replace hk1 : 0 < k5 := hk1;replace hR : s1173_l1 a1 a2 k5 x1 x2 x3 = some R := hR;replace iv1_0 : x1 = 0 := iv1_0;replace iv1_1 : x2 = 20 := iv1_1;replace ln4 : List.length x3 = N0 := ln4;obtain ⟨k5, rfl⟩ : ∃ m, k5 = m + 1 := ⟨k5 - 1, by omega⟩;rw [s1173_l1] at hR;(try dsimp only at hR);refine aw_seq ?_;refine aw_seq ?_;refine aw_region [.p, .p, .p] ?_;refine st rfl rfl (eff_moveg rfl rfl) rfl ?_;refine st rfl rfl (eff_moveg rfl rfl) rfl ?_;refine st rfl rfl (eff_leq rfl rfl rfl) rfl ?_;refine st_nil ?_;refine aw_cond _ rfl (fun h1 => ?_) (fun h1 => ?_)
  ·(try simp only [Bool.or_eq_true, Bool.and_eq_true, Bool.or_eq_false_iff, Bool.and_eq_false_iff, Bool.not_eq_true', Bool.not_eq_false', decide_eq_true_eq, decide_eq_false_iff_not] at h1)
   exfalso; omega
  ·replace h1 : (decide (x2 ≤ a1)) = false := h1;(try simp only [Bool.or_eq_true, Bool.and_eq_true, Bool.or_eq_false_iff, Bool.and_eq_false_iff, Bool.not_eq_true', Bool.not_eq_false', decide_eq_true_eq, decide_eq_false_iff_not] at h1);refine aw_exit ?_;refine aw_seq ?_;obtain ⟨r6, br6, hR⟩ := bindO_inv hR;refine aw_region [.p, .p, .p, .p, .w] ?_;refine st rfl rfl (eff_moveO rfl rfl) rfl ?_;refine st rfl rfl (eff_moveg rfl rfl) rfl ?_;refine st rfl rfl (eff_moveg rfl rfl) rfl ?_;refine st rfl rfl (eff_moveg rfl rfl) rfl ?_;refine st_w rfl rfl (eff_callB1 0 0 rfl K1192 rfl (ConB.lend (c1192 x3 x1 a1 a2 ln4 ha2 Ka2 Ha2 (by first | assumption | omega | (simp [copyL_len]; done) | (simp [copyL_len]; omega)) (by first | assumption | omega | (simp [copyL_len]; done) | (simp [copyL_len]; omega)) (by first | assumption | omega | (simp [copyL_len]; done) | (simp [copyL_len]; omega)) br6)) (at_cons rfl rfl (at_cons rfl rfl (at_cons rfl rfl (at_cons rfl rfl at_nil)))) rfl rfl rfl) rfl ?_;refine st_nil ?_;refine aw_block ?_;refine aw_loop_g (γ := Nat × Int) (fun g => ([(0, .osl 0 7 0 (N0)), (1, .g (G.int a1)), (2, .g (ca2)), (6, .g (G.int g.2))], [(0, .arr 80 7 (List.map S1079.c r6))])) (fun g => 0 < g.1 ∧ g.2 = 20 ∧ s1173_l2 r6 g.1 g.2 = some R) (fun g => g.1) ⟨rfl, ((0) + 1, 20), ⟨rfl, rfl, rfl, rfl, trivial⟩, ⟨rfl, trivial⟩, rfl, ⟨Nat.lt_succ_self _, (by first | omega | (dsimp only; omega) | simp), hR⟩, trivial⟩ ?_
   ·rintro ⟨k8, x7⟩ ⟨hk2, iv2_0, hR⟩;replace hk2 : 0 < k8 := hk2;replace hR : s1173_l2 r6 k8 x7 = some R := hR;replace iv2_0 : x7 = 20 := iv2_0;obtain ⟨k8, rfl⟩ : ∃ m, k8 = m + 1 := ⟨k8 - 1, by omega⟩;rw [s1173_l2] at hR;(try dsimp only at hR);refine aw_seq ?_;refine aw_seq ?_;refine aw_region [.p, .p, .p] ?_;refine st rfl rfl (eff_moveg rfl rfl) rfl ?_;refine st rfl rfl (eff_moveg rfl rfl) rfl ?_;refine st rfl rfl (eff_lss rfl rfl rfl) rfl ?_;refine st_nil ?_;refine aw_cond _ rfl (fun h2 => ?_) (fun h2 => ?_)
    ·(try simp only [Bool.or_eq_true, Bool.and_eq_true, Bool.or_eq_false_iff, Bool.and_eq_false_iff, Bool.not_eq_true', Bool.not_eq_false', decide_eq_true_eq, decide_eq_false_iff_not] at h2)
     exfalso; omega
    ·replace h2 : (decide (x7 < a1)) = false := h2;(try simp only [Bool.or_eq_true, Bool.and_eq_true, Bool.or_eq_false_iff, Bool.and_eq_false_iff, Bool.not_eq_true', Bool.not_eq_false', decide_eq_true_eq, decide_eq_false_iff_not] at h2);refine aw_exit ?_;obtain rfl := Option.some.inj hR;show ResOk _ _ _ _ ∧ MemL _ _;exact ⟨res0 rfl, ⟨rfl, trivial⟩⟩
theorem len1173 {a0 : List S1079} {a1 : Int} {a2 : S1079 → S1079 → Option Int} {R : List S1079} (h : s1173 a0 a1 a2 = some R) : R.length = a0.length := by
 unfold s1173 at h;rw [s1173_l1] at h;obtain ⟨y1, h1, h⟩ := bindO_inv h;rw [s1173_l2] at h
 cases h
 exact len1192 h1
end Go.Sim
set_option maxRecDepth 10000
namespace Go.Sim
open Go.Proofs
def s1152 (a0 : List S1079) (a1 : S1079 → S1079 → Option Int) : Option (List S1079) :=
 bindO (s1173 a0 (List.length a0 : Int) a1) fun r1 => some r1
theorem c1152 {g : List (Nat × List Value)} (a0 : List S1079) (a1 : S1079 → S1079 → Option Int) {R : List S1079} {N0 : Nat} (hN0 : List.length a0 = N0) {ca1 : G} {ia1 : FuncId} {ka1 : List G} (ha1 : FnIs ca1 ia1 ka1) (Ka1 : Known Tryz.prog ia1) (Ha1 : ∀ (x0 : S1079) (x1 : S1079) (r : Int), a1 x0 x1 = some r → Con (EG g) ia1 ([G.agg [G.int x0.Moment, G.str x0.Kind, G.str x0.Terminal, G.int x0.Seats, G.int x0.Size, G.int x0.Noise, G.str x0.Name], G.agg [G.int x1.Moment, G.str x1.Kind, G.str x1.Terminal, G.int x1.Seats, G.int x1.Size, G.int x1.Noise, G.str x1.Name]] ++ ka1) (G.int r)) (hB : (List.length a0 : Int) ≤ 12) (hR : s1152 a0 a1 = some R) : ConB (EG g) 152 [.osl 0 7 0 N0, .g (ca1)] [(0, .arr 80 7 (List.map S1079.c a0))] (G.tup []) [(0, .arr 80 7 (List.map S1079.c R))] := by
 unfold s1152 at hR;refine conB_of_aw Tryz.func152 rfl rfl rfl fun w0 M0 x => ?_;refine len_osl (f := S1079.c) (l := a0) 0 rfl fun hla0 => ?_;obtain ⟨r1, br1, hR⟩ := bindO_inv hR;refine aw_region [.p, .p, .p, .p, .w] ?_;refine st rfl rfl (eff_moveO rfl rfl) rfl ?_;refine st rfl rfl (eff_moveO rfl rfl) rfl ?_;refine st rfl rfl (eff_lenON hN0 rfl Tryz.underlying25 rfl) rfl ?_;refine st rfl rfl (eff_moveg rfl rfl) rfl ?_;refine st_w rfl rfl (eff_callB1 0 0 rfl K1173 rfl (ConB.lend (c1173 a0 (List.length a0 : Int) a1 hN0 ha1 Ka1 Ha1 (by first | assumption | omega | (simp [copyL_len]; done) | (simp [copyL_len]; omega)) (by first | assumption | omega | (simp [copyL_len]; done) | (simp [copyL_len]; omega)) br1)) (at_cons rfl rfl (at_cons rfl rfl (at_cons rfl rfl at_nil))) rfl rfl rfl) rfl ?_;refine st_nil ?_;obtain rfl := Option.some.inj hR;show ResOk _ _ _ _ ∧ MemL _ _;exact ⟨res0 rfl, ⟨rfl, trivial⟩⟩
theorem len1152 {a0 : List S1079} {a1 : S1079 → S1079 → Option Int} {R : List S1079} (h : s1152 a0 a1 = some R) : R.length = a0.length := by
 unfold s1152 at h;obtain ⟨y1, h1, h⟩ := bindO_inv h
 cases h
 exact len1173 h1
end Go.Sim
set_option maxRecDepth 10000
namespace Go.Sim
open Go.Proofs
def s1111_l1 (r2 : List S1079) : Nat → Int → (List Int) → (List Int) → Option S1195
 | 0, x3, x4, x5 => some (S1195.mk x4 x5)
 | k7 + 1, x3, x4, x5 => bindO (ixO r2 x3) fun y8 => bindO (ixO x5 x3) fun y9 => s1111_l1 r2 k7 (x3 + 1) (x4 ++ [y8.Moment]) (x5 ++ [IntKind.i64.wrap (y9 + y8.Seats)])
def s1111 (a0 : S1063) (a1 : List S1079) : Option S1195 :=
 bindO (s1149 a1 (fun x0 => s1151 x0 a0)) fun r1 => bindO (s1152 (List.take r1.2 r1.1) (fun x0_ x1_ => some (s1153 x0_ x1_))) fun r2 => s1111_l1 r2 (((r1.2 : Int) - 0).toNat) 0 ([] : List Int) [0]
set_option maxHeartbeats 4000000 in
theorem c1111 {g : List (Nat × List Value)} (a0 : S1063) (a1 : List S1079) {R : S1195}  (hb : a1.length ≤ 12) (hR : s1111 a0 a1 = some R) : Con (EG g) 111 [G.agg [G.str a0.Terminal, G.str a0.Kind, G.int a0.Length, G.int a0.Step, G.int a0.Most], G.sl 7 (List.map S1079.c a1)] (G.agg [G.sl 1 (List.map cInt R.moments), G.sl 1 (List.map cInt R.before)]) := by
 unfold s1111 at hR;refine con_of_aw Tryz.func111 rfl rfl fun w0 M0 => ?_;refine len_sl (f := S1079.c) (l := a1) 1 rfl fun hla1 => ?_;refine aw_seq ?_;refine aw_region [.p, .w] ?_;refine st rfl rfl (eff_box rfl rfl) rfl ?_;refine st_w rfl rfl (eff_alloc 4 rfl z1196 rfl rfl) rfl ?_;refine st_nil ?_;refine aw_seq ?_;refine Exists.elim (bindO_inv hR) (fun r1 hq_ => ?_);have br1 := hq_.1;replace hR := hq_.2;clear hq_;refine aw_region [.p, .w, .p, .k, .p] ?_;refine st rfl rfl (eff_moveg rfl rfl) rfl ?_;refine st_w rfl rfl (eff_callNL (f0 := S1079.c) (l := a1) 10 rfl K1150 rfl (n1150 a1 (by omega)) (ag_cons rfl ag_nil) rfl) rfl ?_;refine st rfl rfl (eff_makeF rfl rfl rfl) rfl ?_;refine st_k rfl rfl (eff_turnL (f0 := S1079.c) (l := a1) (l' := r1.1) (n := r1.2) 10 rfl K1149 rfl (c1149 a1 (fun x0 => s1151 x0 a0) fnis_fn K1151 (fun x0 => c1151 x0 a0) br1) (at_cons rfl rfl (at_cons rfl rfl at_nil)) rfl (refsN rfl) (give1149 br1)) rfl ?_;refine st rfl rfl (eff_assignO rfl rfl) rfl ?_;refine st_nil ?_;have hlf := num1149 br1;refine aw_seq ?_;refine Exists.elim (bindO_inv hR) (fun r2 hq_ => ?_);have br2 := hq_.1;replace hR := hq_.2;clear hq_;refine aw_region [.p, .w] ?_;refine st rfl rfl (eff_moveO rfl rfl) rfl ?_;refine st_w rfl rfl (eff_callB1 0 10 rfl K1152 rfl (c1152 (List.take r1.2 r1.1) (fun x0_ x1_ => some (s1153 x0_ x1_)) (take_len (give1149 br1)) fnis_lit K1153 (fun x0_ x1_ r_ h_ => Option.some.inj h_ ▸ (fun x0 x1 => c1153 x0 x1) x0_ x1_) (by first | assumption | omega | (simp [copyL_len]; done) | (simp [copyL_len]; omega)) br2) (at_cons rfl rfl (at_cons rfl rfl at_nil)) rfl rfl rfl) rfl ?_;refine st_nil ?_;refine aw_seq ?_;refine aw_region [.w, .p, .w, .w] ?_;refine st_w rfl rfl (eff_buildSO (xs := List.map cInt [0]) 15 rfl Tryz.underlying51 ty3 z3 rfl (ps_cons rfl ps_nil) rfl (by simp []) (by decide) rfl) rfl ?_;refine st rfl rfl (eff_buildL (pre := [G.lit (.slice none 0 0)]) rfl z1196 rfl pl1196 rfl (by decide) (fun _ => rfl)) rfl ?_;refine st_w rfl rfl (eff_alloc 6 rfl z1196 rfl rfl) rfl ?_;refine st_wn rfl rfl (eff_store (tv := .agl [G.lit (.slice none 0 0)] 15 1 (1)) rfl ty1196 rfl rfl rfl rfl rfl) ?_;refine st_nil ?_;refine aw_seq ?_;refine aw_seq ?_;refine aw_nilcell 6 0 2060 1 3 rfl rfl rfl rfl ?_;refine aw_region [.p, .p, .p] ?_;refine st rfl rfl (eff_moveO rfl rfl) rfl ?_;refine st rfl rfl (eff_lenO0 rfl Tryz.underlying25 rfl) rfl ?_;refine st rfl rfl (eff_moveg rfl rfl) rfl ?_;refine st_nil ?_;refine aw_block ?_;refine aw_loop_g (γ := Nat × Int × (List Int) × (List Int)) (fun g => ([(4, .ptr 4 0), (6, .ptr 6 0), (17, .osl 10 7 0 (r1.2)), (18, .g (G.int (r1.2 : Int))), (19, .g (G.int g.2.1))], [(4, .box [.g (G.lit (.slice none 0 0)), .g (G.lit (.slice none 0 0))]), (6, .box [.osl 2060 1 0 (List.length g.2.2.1), .osl 15 1 0 (List.length g.2.2.2)]), (10, .arr 80 7 (List.map S1079.c r2)), (15, .arr 3 1 (List.map cInt g.2.2.2)), (2060, .arr 3 1 (List.map cInt g.2.2.1))])) (fun g => g.1 = ((r1.2 : Int) - g.2.1).toNat ∧ 0 ≤ g.2.1 ∧ g.2.1 ≤ (r1.2 : Int) ∧ (g.2.2.1.length : Int) ≤ g.2.1 ∧ (g.2.2.2.length : Int) ≤ g.2.1 + 1 ∧ s1111_l1 r2 g.1 g.2.1 g.2.2.1 g.2.2.2 = some R) (fun g => g.1) ⟨rfl, (((r1.2 : Int) - 0).toNat, 0, ([] : List Int), [0]), ⟨rfl, rfl, rfl, rfl, rfl, trivial⟩, ⟨rfl, rfl, rfl, rfl, rfl, trivial⟩, rfl, ⟨rfl, (by first | omega | (dsimp only; omega) | simp), (by first | omega | (dsimp only; omega) | simp), (by first | omega | (dsimp only; omega) | simp), (by first | omega | (dsimp only; omega) | simp), (by exact hR)⟩, trivial⟩ ?_
 ·rintro ⟨k7, x3, x4, x5⟩ ⟨hk1, iv1_0, iv1_1, iv1_2, iv1_3, hR⟩;replace hk1 : k7 = ((r1.2 : Int) - x3).toNat := hk1;replace hR : s1111_l1 r2 k7 x3 x4 x5 = some R := hR;replace iv1_0 : 0 ≤ x3 := iv1_0;replace iv1_1 : x3 ≤ (r1.2 : Int) := iv1_1;replace iv1_2 : (x4.length : Int) ≤ x3 := iv1_2;replace iv1_3 : (x5.length : Int) ≤ x3 + 1 := iv1_3;refine aw_seq ?_;refine aw_region [.p] ?_;refine st rfl rfl (eff_lss rfl rfl rfl) rfl ?_;refine st_nil ?_;refine aw_seq ?_;refine aw_cond _ rfl (fun h1 => ?_) (fun h1 => ?_)
  ·replace h1 : (decide (x3 < (r1.2 : Int))) = true := h1;replace h1 := decT h1;obtain ⟨k7, rfl⟩ : ∃ m, k7 = m + 1 := ⟨k7 - 1, by omega⟩;rw [s1111_l1] at hR;(try dsimp only at hR);refine aw_skip ?_;refine aw_seq ?_;refine aw_block ?_;refine aw_seq ?_;refine Exists.elim (bindO_inv hR) (fun y8 hq_ => ?_);have by8 := hq_.1;replace hR := hq_.2;clear hq_;refine aw_region [.p, .p, .r, .w, .p, .w] ?_;refine st rfl rfl (eff_moveg rfl rfl) rfl ?_;refine st rfl rfl (eff_ixL rfl Tryz.underlying25 ty1080 rfl rfl (ixO_nn by8) (Nat.lt_of_lt_of_eq (get_lt (ixO_get by8)) ((len1152 br2).trans (take_len (give1149 br1))))) rfl ?_;refine st_r rfl rfl (eff_ldEA (f := S1079.c) (l := r2) (a := y8) rfl ty1080 rfl rfl (ixO_get by8)) rfl ?_;refine st_w rfl rfl (eff_alloc 8 rfl z1080 rfl rfl) rfl ?_;refine st rfl rfl (eff_assigng rfl rfl) rfl ?_;refine st_wn rfl rfl (eff_store (tv := .g (G.agg [G.int y8.Moment, G.str y8.Kind, G.str y8.Terminal, G.int y8.Seats, G.int y8.Size, G.int y8.Noise, G.str y8.Name])) rfl ty1080 rfl rfl rfl rfl rfl) ?_;refine st_nil ?_;refine aw_seq ?_;refine aw_region [.p, .r, .p, .r, .p, .k, .p, .w] ?_;refine st rfl rfl (eff_fieldO rfl fl1196_0 rfl) rfl ?_;refine st_r rfl rfl (eff_loadO rfl ty82 rfl rfl rfl) rfl ?_;refine st rfl rfl (eff_fieldO rfl fl1080_0 rfl) rfl ?_;refine st_r rfl rfl (eff_loadO rfl ty3 rfl rfl rfl) rfl ?_;refine st rfl rfl (eff_buildSlice rfl Tryz.underlying51 ty3 z3 rfl (ps_cons rfl ps_nil) rfl (by simp []) (by decide)) rfl ?_;refine st_k rfl rfl (eff_forget 6 0 rfl (eff_appL (f := cInt) (out := x4) (new := [y8.Moment]) rfl app82 rfl rfl (src_eq rfl (src_sl (by decide) (by simp []))) (refsM rfl) (by simp; omega))) rfl ?_;refine st rfl rfl (eff_fieldO rfl fl1196_0 rfl) rfl ?_;refine st_wn rfl rfl (eff_store (tv := .osl 2060 1 0 (List.length (x4 ++ [y8.Moment]))) rfl ty82 rfl rfl rfl rfl rfl) ?_;refine st_nil ?_;refine Exists.elim (bindO_inv hR) (fun y9 hq_ => ?_);have by9 := hq_.1;replace hR := hq_.2;clear hq_;refine aw_draw2 [.pn 32, .r, .pn 32, .r, .pn 32, .pn 32, .r, .pn 32, .r, .pn 32, .pn 32, .k, .pn 32, .w] (by kernel_rfl) ?_;refine st_pn rfl rfl (eff_fieldO rfl fl1196_1 rfl) rfl rfl rfl ?_;refine st_r rfl rfl (eff_loadO rfl ty82 rfl rfl rfl) rfl ?_;refine st_pn rfl rfl (eff_fieldO rfl fl1196_1 rfl) rfl rfl rfl ?_;refine st_r rfl rfl (eff_loadO rfl ty82 rfl rfl rfl) rfl ?_;refine st_pn rfl rfl (eff_moveg rfl rfl) rfl rfl rfl ?_;refine st_pn rfl rfl (eff_ixL rfl Tryz.underlying51 ty3 rfl rfl (ixO_nn by9) (Nat.lt_of_lt_of_eq (get_lt (ixO_get by9)) rfl)) rfl rfl rfl ?_;refine st_r rfl rfl (eff_ldE (f := cInt) (l := x5) (a := y9) rfl ty3 rfl rfl (ixO_get by9) rfl) rfl ?_;refine st_pn rfl rfl (eff_fieldO rfl fl1080_3 rfl) rfl rfl rfl ?_;refine st_r rfl rfl (eff_loadO rfl ty3 rfl rfl rfl) rfl ?_;refine st_pn rfl rfl (eff_addw rfl rfl rfl) rfl rfl rfl ?_;refine st_pn rfl rfl (eff_buildSlice rfl Tryz.underlying51 ty3 z3 rfl (ps_cons rfl ps_nil) rfl (by simp []) (by decide)) rfl rfl rfl ?_;refine st_k rfl rfl (eff_forget 6 1 rfl (eff_appL (f := cInt) (out := x5) (new := [IntKind.i64.wrap (y9 + y8.Seats)]) rfl app82 rfl rfl (src_eq rfl (src_sl (by decide) (by simp []))) (refsM rfl) (by simp; omega))) rfl ?_;refine st_pn rfl rfl (eff_fieldO rfl fl1196_1 rfl) rfl rfl rfl ?_;refine st_wn rfl rfl (eff_store (tv := .osl 15 1 0 (List.length (x5 ++ [IntKind.i64.wrap (y9 + y8.Seats)]))) rfl ty82 rfl rfl rfl rfl rfl) ?_;refine st_nil ?_;refine aw_region [.p, .p] ?_;refine st rfl rfl (eff_add rfl rfl rfl (by (try dsimp only); unfold I64; omega)) rfl ?_;refine st rfl rfl (eff_moveg rfl rfl) rfl ?_;refine st_nil ?_;exact ⟨rfl, (k7, x3 + 1, x4 ++ [y8.Moment], x5 ++ [IntKind.i64.wrap (y9 + y8.Seats)]), ⟨rfl, rfl, rfl, rfl, rfl, trivial⟩, ⟨rfl, rfl, rfl, rfl, rfl, trivial⟩, rfl, ⟨(by first | omega | (dsimp only; omega) | (simp at *; omega)), (by first | omega | (dsimp only; omega) | (simp at *; omega)), (by first | omega | (dsimp only; omega) | (simp at *; omega)), (by first | omega | (dsimp only; omega) | (simp at *; omega)), (by first | omega | (dsimp only; omega) | (simp at *; omega)), hR⟩, by simp⟩
  ·replace h1 : (decide (x3 < (r1.2 : Int))) = false := h1;replace h1 := decF h1
   obtain rfl : k7 = 0 := by omega
   rw [s1111_l1] at hR;refine aw_exit ?_;refine aw_seq ?_;refine aw_frzcell (l := [(4, .ptr 4 0), (6, .ptr 6 0)]) (m := [(4, .box [.g (G.lit (.slice none 0 0)), .g (G.lit (.slice none 0 0))]), (6, .box [.g (G.sl 1 (List.map cInt x4)), .osl 15 1 0 (List.length x5)]), (15, .arr 3 1 (List.map cInt x5))]) 6 0 2060 1 _ rfl rfl rfl ((List.length_map ..).trans rfl) ⟨rfl, rfl, trivial⟩ ⟨rfl, rfl, rfl, trivial⟩ rfl rfl ?_;refine aw_frzcell (l := [(4, .ptr 4 0), (6, .ptr 6 0)]) (m := [(4, .box [.g (G.lit (.slice none 0 0)), .g (G.lit (.slice none 0 0))]), (6, .box [.g (G.sl 1 (List.map cInt x4)), .g (G.sl 1 (List.map cInt x5))])]) 6 1 15 1 _ rfl rfl rfl ((List.length_map ..).trans rfl) ⟨rfl, rfl, trivial⟩ ⟨rfl, rfl, trivial⟩ rfl rfl ?_;refine aw_region [.r, .w] ?_;refine st_r rfl rfl (eff_loadOA rfl ty1196 rfl rfl rfl rfl) rfl ?_;refine st_wn rfl rfl (eff_store (tv := .g (G.agg [G.sl 1 (List.map cInt x4), G.sl 1 (List.map cInt x5)])) rfl ty1196 rfl rfl rfl rfl rfl) ?_;refine st_nil ?_;refine aw_ret ?_;exact res_e (res_c rfl (rv_cell rfl rfl ty1196 rfl rfl)) (congrArg (fun R_ => G.agg [G.sl 1 (List.map cInt R_.moments), G.sl 1 (List.map cInt R_.before)]) (Option.some.inj hR))
section
variable {E : Env} {o : Oper} {ev : Operand → TV}
theorem wrap_u64 {n : Int} (h : 0 ≤ n) (h' : n ≤ 9223372036854775807) : IntKind.u64.wrap n = n := by
 have e : IntKind.u64.wrap n = n % 18446744073709551616 := by
  simp [IntKind.wrap, IntKind.bits, IntKind.signed]
 rw [e]; omega
theorem eff_convu {s t : TypeId} {x : Operand} {n : Int} {ds : TypeDesc} (ho : o.op = .convert s t x) (hs : E.P.underlying s = some ds) (ht : E.P.underlying t = some (.int .u64)) (hx : ev x = .g (.int n)) (h : 0 ≤ n) (h' : n ≤ 9223372036854775807) (mem : Mem) : Eff E o mem ev (.g (.lit (.int .u64 n))) := by
 have := eff_conv (E := E) ho hs ht hx mem
 rwa [wrap_u64 h h'] at this
theorem eff_convi {s t : TypeId} {x : Operand} {n : Int} {ds : TypeDesc} (ho : o.op = .convert s t x) (hs : E.P.underlying s = some ds) (ht : E.P.underlying t = some (.int .i64)) (hx : ev x = .g (.lit (.int .u64 n))) (h : I64 n) (mem : Mem) : Eff E o mem ev (.g (.int n)) := by
 have := eff_conv (E := E) ho hs ht hx mem
 rwa [wrap_i64 h] at this
theorem eff_half {t t' : TypeId} {x y : Operand} {k : IntKind} {a : Int} (ho : o.op = .binOp .shr t x y t') (hx : ev x = .g (.lit (.int .u64 a))) (hy : ev y = .g (.lit (.int k 1))) (h0 : 0 ≤ a) (mem : Mem) : Eff E o mem ev (.g (.lit (.int .u64 (a / 2)))) :=
 eff_bin ho hx hy (fun w => ⟨.int .u64 (a / 2), by
  have h1 : Int.fdiv a (2 ^ min (1 : Int).toNat IntKind.u64.bits) = a / 2 := Int.fdiv_eq_ediv_of_nonneg a (by decide);simp only [eqGuard, binOp, Op.shift, h1]
  rfl, fun _ => rfl⟩) mem
end
end Go.Sim
set_option maxRecDepth 10000
namespace Go.Sim
open Go.Proofs
def s1194 (a0 : Int) (a1 : Int) : Bool :=
 ((s202 a0) && (!(s202 a1))) || (decide (a0 < a1))
theorem c1194 {g : List (Nat × List Value)} (a0 : Int) (a1 : Int)    : Con (EG g) 194 [G.int a0, G.int a1] (G.bool (s1194 a0 a1)) := by
 generalize hR : s1194 a0 a1 = R;unfold s1194 at hR;refine con_of_aw Tryz.func194 rfl rfl fun w0 M0 => ?_;refine aw_seq ?_;refine aw_region [.p] ?_;refine st rfl rfl (eff_assigng rfl rfl) rfl ?_;refine st_nil ?_;refine aw_seq ?_;refine aw_region [.p, .p, .p, .p, .p, .p, .p, .p, .p, .p, .p, .p, .p] ?_;refine st rfl rfl (eff_moveg rfl rfl) rfl ?_;refine st rfl rfl (eff_call rfl K202 rfl (c202 a0) (ag_cons rfl ag_nil)) rfl ?_;refine st rfl rfl (eff_moveg rfl rfl) rfl ?_;refine st_g rfl rfl rfl (gb_bool _ _) (fun h => eff_moveg rfl rfl) rfl ?_;refine st_g rfl rfl rfl (gb_bool _ _) (fun h => eff_call rfl K202 rfl (c202 a1) (ag_cons (gd h rfl) ag_nil)) rfl ?_;refine st_g rfl rfl rfl (gb_bool _ _) (fun h => eff_not rfl (gd h rfl)) rfl ?_;refine st rfl rfl (eff_and rfl rfl rfl rfl) rfl ?_;refine st rfl rfl (eff_moveg rfl rfl) rfl ?_;refine st_g rfl rfl rfl (gb_bool _ _) (fun h => eff_moveg rfl rfl) rfl ?_;refine st_g rfl rfl rfl (gb_bool _ _) (fun h => eff_moveg rfl rfl) rfl ?_;refine st_g rfl rfl rfl (gb_bool _ _) (fun h => eff_lss rfl (gd h rfl) (gd h rfl)) rfl ?_;refine st rfl rfl (eff_or rfl rfl rfl rfl) rfl ?_;refine st rfl rfl (eff_assigng rfl rfl) rfl ?_;refine st_nil ?_;refine aw_ret ?_;subst hR;exact res_c rfl (rv_g rfl)
def s1195 (a0 : Int) : Bool :=
 decide (a0 ≠ a0)
theorem c1195 {g : List (Nat × List Value)} (a0 : Int)    : Con (EG g) 195 [G.int a0] (G.bool (s1195 a0)) := by
 generalize hR : s1195 a0 = R;unfold s1195 at hR;refine con_of_aw Tryz.func195 rfl rfl fun w0 M0 => ?_;refine aw_seq ?_;refine aw_region [.p] ?_;refine st rfl rfl (eff_assigng rfl rfl) rfl ?_;refine st_nil ?_;refine aw_seq ?_;refine aw_region [.p, .p, .p, .p] ?_;refine st rfl rfl (eff_moveg rfl rfl) rfl ?_;refine st rfl rfl (eff_moveg rfl rfl) rfl ?_;refine st rfl rfl (eff_neq rfl rfl rfl) rfl ?_;refine st rfl rfl (eff_assigng rfl rfl) rfl ?_;refine st_nil ?_;refine aw_ret ?_;subst hR;exact res_c rfl (rv_g rfl)
def s1175_l1 (a0 : List Int) (a1 : Int) : Nat → Int → Int → Option (Int × Bool)
 | 0, _, _ => none
 | k3 + 1, x1, x2 => (bif decide (x1 < x2) then bindO (ixO a0 ((x1 + x2) / 2)) fun y4 => (bif (s1194 y4 a1) then s1175_l1 a0 a1 k3 (((x1 + x2) / 2) + 1) x2 else s1175_l1 a0 a1 k3 x1 ((x1 + x2) / 2)) else bindO (bif decide (x1 < (List.length a0 : Int)) then ixO a0 x1 else some default) fun y5 => bindO (bif (decide (x1 < (List.length a0 : Int))) && (!(decide (y5 = a1))) then ixO a0 x1 else some default) fun y6 => some (x1, (decide (x1 < (List.length a0 : Int))) && ((decide (y5 = a1)) || ((s1195 y6) && (s1195 a1)))))
def s1175 (a0 : List Int) (a1 : Int) : Option (Int × Bool) :=
 s1175_l1 a0 a1 ((((List.length a0 : Int) - 0).toNat) + 1) 0 (List.length a0 : Int)
theorem c1175 {g : List (Nat × List Value)} (a0 : List Int) (a1 : Int) {R : Int × Bool}  (hb : a0.length ≤ 1000) (hR : s1175 a0 a1 = some R) : Con (EG g) 175 [G.sl 1 (List.map cInt a0), G.int a1] (G.tup [G.int R.1, G.bool R.2]) := by
 unfold s1175 at hR;refine con_of_aw Tryz.func175 rfl rfl fun w0 M0 => ?_;refine len_sl (f := cInt) (l := a0) 0 rfl fun hla0 => ?_;refine aw_seq ?_;refine aw_region [.p, .p] ?_;refine st rfl rfl (eff_assigng rfl rfl) rfl ?_;refine st rfl rfl (eff_assigng rfl rfl) rfl ?_;refine st_nil ?_;refine aw_seq ?_;refine aw_region [.p, .p, .p] ?_;refine st rfl rfl (eff_moveg rfl rfl) rfl ?_;refine st rfl rfl (eff_lenM (f := cInt) (l := a0) rfl Tryz.underlying51 rfl) rfl ?_;refine st rfl rfl (eff_assigng rfl rfl) rfl ?_;refine st_nil ?_;refine aw_seq ?_;refine aw_region [.p, .p, .p] ?_;refine st rfl rfl (eff_moveg rfl rfl) rfl ?_;refine st rfl rfl (eff_assigng rfl rfl) rfl ?_;refine st rfl rfl (eff_assigng rfl rfl) rfl ?_;refine st_nil ?_;refine aw_seq ?_;refine aw_block ?_;refine aw_loop_g (γ := Nat × Int × Int) (fun g => ([(0, .g (G.sl 1 (List.map cInt a0))), (1, .g (G.int a1)), (6, .g (G.int (List.length a0 : Int))), (7, .g (G.int g.2.1)), (8, .g (G.int g.2.2))], [])) (fun g => (g.2.2 - g.2.1).toNat < g.1 ∧ 0 ≤ g.2.1 ∧ g.2.1 ≤ g.2.2 ∧ g.2.2 ≤ (List.length a0 : Int) ∧ s1175_l1 a0 a1 g.1 g.2.1 g.2.2 = some R) (fun g => g.1) ⟨rfl, ((((List.length a0 : Int) - 0).toNat) + 1, 0, (List.length a0 : Int)), ⟨rfl, rfl, rfl, rfl, rfl, trivial⟩, trivial, rfl, ⟨Nat.lt_succ_self _, (by first | omega | (dsimp only; omega) | simp), (by first | omega | (dsimp only; omega) | simp), (by first | omega | (dsimp only; omega) | simp), hR⟩, trivial⟩ ?_
 ·rintro ⟨k3, x1, x2⟩ ⟨hk1, iv1_0, iv1_1, iv1_2, hR⟩;replace hk1 : (x2 - x1).toNat < k3 := hk1;replace hR : s1175_l1 a0 a1 k3 x1 x2 = some R := hR;replace iv1_0 : 0 ≤ x1 := iv1_0;replace iv1_1 : x1 ≤ x2 := iv1_1;replace iv1_2 : x2 ≤ (List.length a0 : Int) := iv1_2;obtain ⟨k3, rfl⟩ : ∃ m, k3 = m + 1 := ⟨k3 - 1, by omega⟩;rw [s1175_l1] at hR;(try dsimp only at hR);refine aw_seq ?_;refine aw_seq ?_;refine aw_region [.p, .p, .p] ?_;refine st rfl rfl (eff_moveg rfl rfl) rfl ?_;refine st rfl rfl (eff_moveg rfl rfl) rfl ?_;refine st rfl rfl (eff_lss rfl rfl rfl) rfl ?_;refine st_nil ?_;refine aw_cond _ rfl (fun h1 => ?_) (fun h1 => ?_)
  ·replace h1 : (decide (x1 < x2)) = true := h1;replace hR := condT hR h1;(try simp only [Bool.or_eq_true, Bool.and_eq_true, Bool.or_eq_false_iff, Bool.and_eq_false_iff, Bool.not_eq_true', Bool.not_eq_false', decide_eq_true_eq, decide_eq_false_iff_not] at h1);refine aw_skip ?_;refine aw_block ?_;refine aw_seq ?_;refine aw_region [.p, .p, .p, .p, .p, .p, .p] ?_;refine st rfl rfl (eff_moveg rfl rfl) rfl ?_;refine st rfl rfl (eff_moveg rfl rfl) rfl ?_;refine st rfl rfl (eff_add rfl rfl rfl (by unfold I64; (try dsimp only); omega)) rfl ?_;refine st rfl rfl (eff_convu rfl Tryz.underlying3 Tryz.underlying225 rfl (by (try dsimp only); omega) (by (try dsimp only); omega)) rfl ?_;refine st rfl rfl (eff_half rfl rfl rfl (by (try dsimp only); omega)) rfl ?_;refine st rfl rfl (eff_convi rfl Tryz.underlying225 Tryz.underlying3 rfl (by unfold I64; (try dsimp only); omega)) rfl ?_;refine st rfl rfl (eff_assigng rfl rfl) rfl ?_;refine st_nil ?_;refine aw_seq ?_;obtain ⟨y4, by4, hR⟩ := bindO_inv hR;refine aw_region [.p, .p, .p, .p, .p, .p] ?_;refine st rfl rfl (eff_moveg rfl rfl) rfl ?_;refine st rfl rfl (eff_moveg rfl rfl) rfl ?_;refine st rfl rfl (eff_ix (f := cInt) (l := a0) (a := y4) rfl Tryz.underlying51 ty3 rfl rfl (ixO_nn by4) (ixO_get by4)) rfl ?_;refine st rfl rfl (eff_load rfl ty3 rfl) rfl ?_;refine st rfl rfl (eff_moveg rfl rfl) rfl ?_;refine st rfl rfl (eff_call rfl K1194 rfl (c1194 y4 a1) (ag_cons rfl (ag_cons rfl ag_nil))) rfl ?_;refine st_nil ?_;refine aw_cond _ rfl (fun h2 => ?_) (fun h2 => ?_)
   ·replace h2 : ((s1194 y4 a1)) = true := h2;replace hR := condT hR h2;(try simp only [Bool.or_eq_true, Bool.and_eq_true, Bool.or_eq_false_iff, Bool.and_eq_false_iff, Bool.not_eq_true', Bool.not_eq_false', decide_eq_true_eq, decide_eq_false_iff_not] at h2);refine aw_region [.p, .p, .p] ?_;refine st rfl rfl (eff_moveg rfl rfl) rfl ?_;refine st rfl rfl (eff_add rfl rfl rfl (by unfold I64; (try dsimp only); omega)) rfl ?_;refine st rfl rfl (eff_assigng rfl rfl) rfl ?_;refine st_nil ?_;exact ⟨rfl, (k3, ((x1 + x2) / 2) + 1, x2), ⟨rfl, rfl, rfl, rfl, rfl, trivial⟩, trivial, rfl, ⟨(by first | omega | (dsimp only; omega) | (simp at *; omega)), (by first | omega | (dsimp only; omega) | (simp at *; omega)), (by first | omega | (dsimp only; omega) | (simp at *; omega)), (by first | omega | (dsimp only; omega) | (simp at *; omega)), hR⟩, by simp⟩
   ·replace h2 : ((s1194 y4 a1)) = false := h2;replace hR := condF hR h2;(try simp only [Bool.or_eq_true, Bool.and_eq_true, Bool.or_eq_false_iff, Bool.and_eq_false_iff, Bool.not_eq_true', Bool.not_eq_false', decide_eq_true_eq, decide_eq_false_iff_not] at h2);refine aw_region [.p, .p] ?_;refine st rfl rfl (eff_moveg rfl rfl) rfl ?_;refine st rfl rfl (eff_assigng rfl rfl) rfl ?_;refine st_nil ?_;exact ⟨rfl, (k3, x1, (x1 + x2) / 2), ⟨rfl, rfl, rfl, rfl, rfl, trivial⟩, trivial, rfl, ⟨(by first | omega | (dsimp only; omega) | (simp at *; omega)), (by first | omega | (dsimp only; omega) | (simp at *; omega)), (by first | omega | (dsimp only; omega) | (simp at *; omega)), (by first | omega | (dsimp only; omega) | (simp at *; omega)), hR⟩, by simp⟩
  ·replace h1 : (decide (x1 < x2)) = false := h1;replace hR := condF hR h1;(try simp only [Bool.or_eq_true, Bool.and_eq_true, Bool.or_eq_false_iff, Bool.and_eq_false_iff, Bool.not_eq_true', Bool.not_eq_false', decide_eq_true_eq, decide_eq_false_iff_not] at h1);refine aw_exit ?_;refine aw_seq ?_;obtain ⟨y5, by5, hR⟩ := bindO_inv hR;obtain ⟨y6, by6, hR⟩ := bindO_inv hR;refine aw_region [.p, .p, .p, .p, .p, .p, .p, .p, .p, .p, .p, .p, .p, .p, .p, .p, .p, .p, .p, .p, .p, .p, .p, .p, .p] ?_;refine st rfl rfl (eff_moveg rfl rfl) rfl ?_;refine st rfl rfl (eff_moveg rfl rfl) rfl ?_;refine st rfl rfl (eff_moveg rfl rfl) rfl ?_;refine st rfl rfl (eff_lss rfl rfl rfl) rfl ?_;refine st rfl rfl (eff_moveg rfl rfl) rfl ?_;refine st_g rfl rfl rfl (gb_bool _ _) (fun h => eff_moveg rfl rfl) rfl ?_;refine st_g rfl rfl rfl (gb_bool _ _) (fun h => eff_moveg rfl rfl) rfl ?_;refine st_g rfl rfl rfl (gb_bool _ _) (fun h => eff_ix (f := cInt) (l := a0) (a := y5) rfl Tryz.underlying51 ty3 (gd h rfl) (gd h rfl) (ixO_nn (condT1 by5 h)) (ixO_get (condT1 by5 h))) rfl ?_;refine st_g rfl rfl rfl (gb_bool _ _) (fun h => eff_load rfl ty3 (gd h rfl)) rfl ?_;refine st_g rfl rfl rfl (gb_bool _ _) (fun h => eff_moveg rfl rfl) rfl ?_;refine st_g rfl rfl rfl (gb_bool _ _) (fun h => eff_eql rfl (gd h rfl) (gd h rfl)) rfl ?_;refine st_g rfl rfl rfl (gb_bool _ _) (fun h => eff_moveg rfl (gd h rfl)) rfl ?_;refine st_g rfl rfl rfl (gb_if _ _ _) (fun h => eff_moveg rfl rfl) rfl ?_;refine st_g rfl rfl rfl (gb_if _ _ _) (fun h => eff_moveg rfl rfl) rfl ?_;refine st_g rfl rfl rfl (gb_if _ _ _) (fun h => eff_ix (f := cInt) (l := a0) (a := y6) rfl Tryz.underlying51 ty3 (gd h rfl) (gd h rfl) (ixO_nn (condS by6 h)) (ixO_get (condS by6 h))) rfl ?_;refine st_g rfl rfl rfl (gb_if _ _ _) (fun h => eff_load rfl ty3 (gd h rfl)) rfl ?_;refine st_g rfl rfl rfl (gb_if _ _ _) (fun h => eff_call rfl K1195 rfl (c1195 y6) (ag_cons (gd h rfl) ag_nil)) rfl ?_;refine st_g rfl rfl rfl (gb_if _ _ _) (fun h => eff_moveg rfl (gd h rfl)) rfl ?_;refine st_g rfl rfl rfl (gb_if _ _ _) (fun h => eff_moveg rfl rfl) rfl ?_;refine st_g rfl rfl rfl (gb_if _ _ _) (fun h => eff_call rfl K1195 rfl (c1195 a1) (ag_cons (gd h rfl) ag_nil)) rfl ?_;refine st_g rfl rfl rfl (gb_if _ _ _) (fun h => eff_and rfl (gd h rfl) rfl (gd2 h rfl)) rfl ?_;refine st_g rfl rfl rfl (gb_bool _ _) (fun h => eff_or rfl (gd h rfl) rfl (gd2 h rfl)) rfl ?_;refine st rfl rfl (eff_and rfl rfl rfl rfl) rfl ?_;refine st rfl rfl (eff_assigng rfl rfl) rfl ?_;refine st rfl rfl (eff_assigng rfl rfl) rfl ?_;refine st_nil ?_;refine aw_ret ?_;obtain rfl := Option.some.inj hR;exact resN rfl ⟨rv_g rfl, rv_g rfl, trivial⟩ (by simp)
def s1113 (a0 : S1063) (a1 : S1079) : Bool :=
 ((decide (a0.Terminal = (⟨#[]⟩))) || (decide (a0.Terminal = a1.Terminal))) && ((decide (a0.Kind = (⟨#[84]⟩))) || (decide (a0.Kind = a1.Kind)))
def s1042_j1 (rec1 : Nat → Int → Int) (k3 : Nat) (x6 : Int) : Int :=
 rec1 (k3 + 1) x6
def s1042_l1 (a0 : S1063) (a2 : Int) : List S1079 → Nat → Int → Int
 | [], k3, x1 => x1
 | y4 :: t5, k3, x1 => (bif ((s1113 a0 y4) && (decide (a2 ≤ y4.Moment))) && (decide (y4.Moment < IntKind.i64.wrap (a2 + a0.Length))) then s1042_j1 (fun k_ z0_ => s1042_l1 a0 a2 t5 k_ z0_) k3 (IntKind.i64.wrap (x1 + y4.Seats)) else s1042_j1 (fun k_ z0_ => s1042_l1 a0 a2 t5 k_ z0_) k3 x1)
def s1042 (a0 : S1063) (a1 : List S1079) (a2 : Int) : Int :=
 s1042_l1 a0 a2 a1 0 0
section
variable {α : Type}
def insB (lt : α → α → Bool) (x : α) : List α → List α
 | [] => [x]
 | y :: r => bif lt x y then y :: insB lt x r else x :: y :: r
def insS (lt : α → α → Bool) : List α → List α → List α
 | P, [] => P.reverse
 | P, x :: l => insS lt (insB lt x P) l
def isort (lt : α → α → Bool) (l : List α) : List α := insS lt [] l
theorem insB_perm (lt : α → α → Bool) (x : α) : ∀ P, (insB lt x P).Perm (x :: P)
 | [] => List.Perm.refl _
 | y :: r => by
  rw [insB]
  cases lt x y with
  | true => exact ((insB_perm lt x r).cons y).trans (List.Perm.swap x y r)
  | false => exact List.Perm.refl _
theorem insB_len (lt : α → α → Bool) (x : α) (P : List α) : (insB lt x P).length = P.length + 1 := (insB_perm lt x P).length_eq
theorem insS_perm (lt : α → α → Bool) : ∀ (l P : List α), (insS lt P l).Perm (P ++ l)
 | [], P => by rw [insS, List.append_nil]; exact List.reverse_perm P
 | x :: l, P => by
  rw [insS];refine (insS_perm lt l _).trans ?_;refine ((insB_perm lt x P).append_right l).trans ?_;exact List.perm_middle.symm
theorem isort_perm (lt : α → α → Bool) (l : List α) : (isort lt l).Perm l := insS_perm lt l []
theorem insB_sorted {lt : α → α → Bool} {Rel : α → α → Prop} (tr : ∀ a b c, Rel a b → Rel b c → Rel a c) {x : α} : ∀ {P : List α}, P.Pairwise (fun a b => Rel b a) → (∀ y ∈ P, (lt x y = true → Rel x y) ∧ (lt x y = false → Rel y x)) → (insB lt x P).Pairwise (fun a b => Rel b a)
 | [], _, _ => by rw [insB]; exact List.pairwise_singleton _ _
 | y :: r, hP, hx => by
  rw [insB];have h1 := List.pairwise_cons.1 hP
  cases hl : lt x y with
  | true =>
   refine List.pairwise_cons.2 ⟨fun z hz => ?_, insB_sorted tr h1.2 fun y hy => hx y (List.mem_cons_of_mem _ hy)⟩
   rcases List.mem_cons.1 ((insB_perm lt x r).mem_iff.1 hz) with rfl | hz
   ·exact (hx y List.mem_cons_self).1 hl
   ·exact h1.1 z hz
  | false =>
   refine List.pairwise_cons.2 ⟨fun z hz => ?_, hP⟩;have h2 := (hx y List.mem_cons_self).2 hl
   rcases List.mem_cons.1 hz with rfl | hz
   ·exact h2
   ·exact tr z y x (h1.1 z hz) h2
theorem insS_sorted {lt : α → α → Bool} {Rel : α → α → Prop} (tr : ∀ a b c, Rel a b → Rel b c → Rel a c) : ∀ {l P : List α}, P.Pairwise (fun a b => Rel b a) → (∀ y ∈ P, ∀ x ∈ l, (lt x y = true → Rel x y) ∧ (lt x y = false → Rel y x)) →
  l.Pairwise (fun y x => (lt x y = true → Rel x y) ∧ (lt x y = false → Rel y x)) → (insS lt P l).Pairwise Rel
 | [], P, hP, _, _ => by rw [insS]; exact List.pairwise_reverse.2 hP
 | x :: l, P, hP, hx, hl => by
  rw [insS];have h1 := List.pairwise_cons.1 hl;refine insS_sorted tr (insB_sorted tr hP fun y hy => hx y hy x List.mem_cons_self) (fun y hy z hz => ?_) h1.2
  rcases List.mem_cons.1 ((insB_perm lt x P).mem_iff.1 hy) with rfl | hy
  ·exact h1.1 z hz
  ·exact hx y hy z (List.mem_cons_of_mem _ hz)
theorem isort_sorted {lt : α → α → Bool} {Rel : α → α → Prop} (tr : ∀ a b c, Rel a b → Rel b c → Rel a c) {l : List α} (hl : l.Pairwise (fun y x => (lt x y = true → Rel x y) ∧ (lt x y = false → Rel y x))) : (isort lt l).Pairwise Rel :=
 insS_sorted tr List.Pairwise.nil (fun y hy => by cases hy) hl
theorem ixO_app {P B : List α} {x : α} : ixO (P ++ x :: B) (P.length : Int) = some x := by
 unfold ixO;rw [decide_eq_true (by omega)]
 simp
theorem ixO_app' {P B : List α} {x : α} {n : Int} (h : n = (P.length : Int)) : ixO (P ++ x :: B) n = some x := by rw [h]; exact ixO_app
theorem set_app {P B : List α} {x y : α} {n : Nat} (h : n = P.length) : List.set (P ++ x :: B) n y = P ++ y :: B := by
 subst h;rw [List.set_append_right _ _ (Nat.le_refl _), Nat.sub_self, List.set_cons_zero]
end
theorem s1192_l2_ok (rec1 : Int → List S1079 → Option (List S1079)) (cmp : S1079 → S1079 → Option Int) (lt : S1079 → S1079 → Bool) (x1 : Int) (x : S1079) : ∀ (P B : List S1079) (k : Nat), P.length < k → (∀ y ∈ P, ∃ c, cmp x y = some c ∧ decide (c < 0) = lt x y) →
  s1192_l2 rec1 0 cmp x1 k (P.length : Int) (P.reverse ++ x :: B) = rec1 (x1 + 1) ((insB lt x P).reverse ++ B)
 | [], B, 0, h, _ => by omega
 | [], B, k + 1, h, _ => by
  rw [s1192_l2]
  have e : decide ((0 : Int) < (([] : List S1079).length : Int)) = false := by simp
  simp only [e, cond_false, bindO, Bool.false_and, insB]
  simp
 | y :: r, B, 0, h, _ => by omega
 | y :: r, B, k + 1, h, hc => by
  have e : decide ((0 : Int) < ((y :: r).length : Int)) = true := by simp <;> omega
  have l1 : (y :: r).reverse ++ x :: B = (r.reverse ++ [y]) ++ x :: B := by simp
  have l2 : (r.reverse ++ [y]) ++ x :: B = r.reverse ++ y :: (x :: B) := by simp
  have i1 : ixO ((r.reverse ++ [y]) ++ x :: B) ((y :: r).length : Int) = some x := ixO_app' (by simp)
  have i2 : ixO ((r.reverse ++ [y]) ++ x :: B) (((y :: r).length : Int) - 1) = some y := by rw [l2]; exact ixO_app' (by simp)
  obtain ⟨c, c1, c2⟩ := hc y List.mem_cons_self;rw [s1192_l2, l1];simp only [e, cond_true, i1, i2, bindO, c1, Bool.true_and, c2]
  cases hl : lt x y with
  | true =>
   have e1 : List.set ((r.reverse ++ [y]) ++ x :: B) (Int.toNat ((y :: r).length : Int)) y = (r.reverse ++ [y]) ++ y :: B := set_app (by simp)
   have e2 : List.set ((r.reverse ++ [y]) ++ y :: B) (Int.toNat (((y :: r).length : Int) - 1)) x = r.reverse ++ x :: (y :: B) := by
    rw [show (r.reverse ++ [y]) ++ y :: B = r.reverse ++ y :: (y :: B) by simp];exact set_app (by simp)
   have e3 : (((y :: r).length : Int) - 1) = (r.length : Int) := by simp
   have hih := s1192_l2_ok rec1 cmp lt x1 x r (y :: B) k (by simp at h; omega) (fun z hz => hc z (List.mem_cons_of_mem _ hz))
   have i3 : ixO (List.set ((r.reverse ++ [y]) ++ x :: B) (Int.toNat ((y :: r).length : Int)) y) (((y :: r).length : Int) - 1) = some y := by
    rw [e1, show (r.reverse ++ [y]) ++ y :: B = r.reverse ++ y :: (y :: B) by simp];exact ixO_app' (by simp)
   rw [cond_true];simp only [i3];rw [e1, e2, e3, hih]
   simp [insB, hl]
  | false =>
   rw [cond_false]
   simp [insB, hl]
theorem s1192_l1_ok (cmp : S1079 → S1079 → Option Int) (lt : S1079 → S1079 → Bool) : ∀ (l P : List S1079), (∀ y ∈ P ++ l, ∀ x ∈ l, ∃ c, cmp x y = some c ∧ decide (c < 0) = lt x y) → s1192_l1 0 cmp l.length (P.length : Int) (P.reverse ++ l) = some (insS lt P l)
 | [], P, _ => by rw [List.length_nil, s1192_l1, insS, List.append_nil]
 | x :: l, P, h => by
  rw [List.length_cons, s1192_l1, s1192_l2_ok _ cmp lt _ x P l _ (by omega) (fun y hy => h y (List.mem_append_left _ hy) x List.mem_cons_self), insS]
  have := s1192_l1_ok cmp lt l (insB lt x P) (fun y hy z hz => h y (by
   rcases List.mem_append.1 hy with hy | hy
   ·rcases List.mem_cons.1 ((insB_perm lt x P).mem_iff.1 hy) with rfl | hy
    ·simp
    ·simp [hy]
   ·simp [hy]) z (List.mem_cons_of_mem _ hz))
  rw [← this, insB_len]
  simp
theorem s1192_ok {cmp : S1079 → S1079 → Option Int} {lt : S1079 → S1079 → Bool} {l : List S1079} (h : ∀ y ∈ l, ∀ x ∈ l, ∃ c, cmp x y = some c ∧ decide (c < 0) = lt x y) : s1192 l 0 (l.length : Int) cmp = some (isort lt l) := by
 unfold s1192 isort
 cases l with
 | nil => rfl
 | cons x l =>
  have e : ((((x :: l).length : Int) - (0 + 1)).toNat) = l.length := by simp
  rw [e, insS];exact s1192_l1_ok cmp lt l [x] (fun y hy z hz => h y hy z (List.mem_cons_of_mem _ hz))
theorem s1152_ok {cmp : S1079 → S1079 → Option Int} {lt : S1079 → S1079 → Bool} {l : List S1079} (h : ∀ y ∈ l, ∀ x ∈ l, ∃ c, cmp x y = some c ∧ decide (c < 0) = lt x y) : s1152 l cmp = some (isort lt l) := by
 unfold s1152 s1173;rw [s1173_l1, s1192_ok h];simp only [bindO];rw [s1173_l2]
end Go.Sim
