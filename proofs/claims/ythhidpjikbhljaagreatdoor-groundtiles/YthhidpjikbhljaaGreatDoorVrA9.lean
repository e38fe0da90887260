/-
  What is proved: lemmas and contracts of functions on the way to the law groundTiles (part 9).
-/
import Derived.Test.YthhidpjikbhljaaGreatDoorVrA8
import Derived.Test.YthhidpjikbhljaaGreatDoorVrA7
import Derived.Scope
import Derived.Test.YthhidpjikbhljaaGreatDoorVrA2
import Derived.Maps.RangeRun
import Derived.Test.YthhidpjikbhljaaGreatDoorVrA5
set_option linter.unusedSectionVars false
set_option linter.unusedSimpArgs false
set_option linter.unusedVariables false
set_option linter.unnecessarySimpa false
set_option linter.deprecated false
namespace Go.Ex
open Go.Proofs
def isInt (n : Int) : Re (V × H × Nat) → Bool
 | .ok (.lit (.int .i64 m), _, _) => m == n
 | _ => false
theorem isInt_ex {n : Int} {r : Re (V × H × Nat)} (h : isInt n r = true) : ∃ h' c', r = .ok (.lit (.int .i64 n), h', c') := by
 unfold isInt at h
 split at h
 ·rename_i m h' c'; exact ⟨h', c', by rw [of_decide_eq_true (by simpa using h) |> fun (e : m = n) => e]⟩
 ·cases h
def lenT (n : Int) : Int := bif decide (n ≤ 0) then 0 else bif decide (n ≤ 1) then 1 else bif decide (n ≤ 3) then 2 else bif decide (n ≤ 7) then 3 else 4
theorem r182_0 : isInt 0 (call Tryz.prog gl (fun _ _ _ _ _ => none) 40 (.fn 164) [.lit (.int .u64 0)] h0 1000 1000) = true := by kernel_rfl
theorem k182_0 : Sim.Con (Sim.EG Sim.glT) 164 [Sim.G.lit (.int .u64 0)] (Sim.G.int 0) := by
 obtain ⟨h', c', h⟩ := isInt_ex r182_0;exact con_of_call (vs := [.int .u64 0]) orc_none orcK_none (by decide) (gl_ok (by decide)) h
theorem r182_1 : isInt 1 (call Tryz.prog gl (fun _ _ _ _ _ => none) 40 (.fn 164) [.lit (.int .u64 1)] h0 1000 1000) = true := by kernel_rfl
theorem k182_1 : Sim.Con (Sim.EG Sim.glT) 164 [Sim.G.lit (.int .u64 1)] (Sim.G.int 1) := by
 obtain ⟨h', c', h⟩ := isInt_ex r182_1;exact con_of_call (vs := [.int .u64 1]) orc_none orcK_none (by decide) (gl_ok (by decide)) h
theorem r182_2 : isInt 2 (call Tryz.prog gl (fun _ _ _ _ _ => none) 40 (.fn 164) [.lit (.int .u64 2)] h0 1000 1000) = true := by kernel_rfl
theorem k182_2 : Sim.Con (Sim.EG Sim.glT) 164 [Sim.G.lit (.int .u64 2)] (Sim.G.int 2) := by
 obtain ⟨h', c', h⟩ := isInt_ex r182_2;exact con_of_call (vs := [.int .u64 2]) orc_none orcK_none (by decide) (gl_ok (by decide)) h
theorem r182_3 : isInt 2 (call Tryz.prog gl (fun _ _ _ _ _ => none) 40 (.fn 164) [.lit (.int .u64 3)] h0 1000 1000) = true := by kernel_rfl
theorem k182_3 : Sim.Con (Sim.EG Sim.glT) 164 [Sim.G.lit (.int .u64 3)] (Sim.G.int 2) := by
 obtain ⟨h', c', h⟩ := isInt_ex r182_3;exact con_of_call (vs := [.int .u64 3]) orc_none orcK_none (by decide) (gl_ok (by decide)) h
theorem r182_4 : isInt 3 (call Tryz.prog gl (fun _ _ _ _ _ => none) 40 (.fn 164) [.lit (.int .u64 4)] h0 1000 1000) = true := by kernel_rfl
theorem k182_4 : Sim.Con (Sim.EG Sim.glT) 164 [Sim.G.lit (.int .u64 4)] (Sim.G.int 3) := by
 obtain ⟨h', c', h⟩ := isInt_ex r182_4;exact con_of_call (vs := [.int .u64 4]) orc_none orcK_none (by decide) (gl_ok (by decide)) h
theorem r182_5 : isInt 3 (call Tryz.prog gl (fun _ _ _ _ _ => none) 40 (.fn 164) [.lit (.int .u64 5)] h0 1000 1000) = true := by kernel_rfl
theorem k182_5 : Sim.Con (Sim.EG Sim.glT) 164 [Sim.G.lit (.int .u64 5)] (Sim.G.int 3) := by
 obtain ⟨h', c', h⟩ := isInt_ex r182_5;exact con_of_call (vs := [.int .u64 5]) orc_none orcK_none (by decide) (gl_ok (by decide)) h
theorem r182_6 : isInt 3 (call Tryz.prog gl (fun _ _ _ _ _ => none) 40 (.fn 164) [.lit (.int .u64 6)] h0 1000 1000) = true := by kernel_rfl
theorem k182_6 : Sim.Con (Sim.EG Sim.glT) 164 [Sim.G.lit (.int .u64 6)] (Sim.G.int 3) := by
 obtain ⟨h', c', h⟩ := isInt_ex r182_6;exact con_of_call (vs := [.int .u64 6]) orc_none orcK_none (by decide) (gl_ok (by decide)) h
theorem r182_7 : isInt 3 (call Tryz.prog gl (fun _ _ _ _ _ => none) 40 (.fn 164) [.lit (.int .u64 7)] h0 1000 1000) = true := by kernel_rfl
theorem k182_7 : Sim.Con (Sim.EG Sim.glT) 164 [Sim.G.lit (.int .u64 7)] (Sim.G.int 3) := by
 obtain ⟨h', c', h⟩ := isInt_ex r182_7;exact con_of_call (vs := [.int .u64 7]) orc_none orcK_none (by decide) (gl_ok (by decide)) h
theorem r182_8 : isInt 4 (call Tryz.prog gl (fun _ _ _ _ _ => none) 40 (.fn 164) [.lit (.int .u64 8)] h0 1000 1000) = true := by kernel_rfl
theorem k182_8 : Sim.Con (Sim.EG Sim.glT) 164 [Sim.G.lit (.int .u64 8)] (Sim.G.int 4) := by
 obtain ⟨h', c', h⟩ := isInt_ex r182_8;exact con_of_call (vs := [.int .u64 8]) orc_none orcK_none (by decide) (gl_ok (by decide)) h
theorem r182_9 : isInt 4 (call Tryz.prog gl (fun _ _ _ _ _ => none) 40 (.fn 164) [.lit (.int .u64 9)] h0 1000 1000) = true := by kernel_rfl
theorem k182_9 : Sim.Con (Sim.EG Sim.glT) 164 [Sim.G.lit (.int .u64 9)] (Sim.G.int 4) := by
 obtain ⟨h', c', h⟩ := isInt_ex r182_9;exact con_of_call (vs := [.int .u64 9]) orc_none orcK_none (by decide) (gl_ok (by decide)) h
theorem r182_10 : isInt 4 (call Tryz.prog gl (fun _ _ _ _ _ => none) 40 (.fn 164) [.lit (.int .u64 10)] h0 1000 1000) = true := by kernel_rfl
theorem k182_10 : Sim.Con (Sim.EG Sim.glT) 164 [Sim.G.lit (.int .u64 10)] (Sim.G.int 4) := by
 obtain ⟨h', c', h⟩ := isInt_ex r182_10;exact con_of_call (vs := [.int .u64 10]) orc_none orcK_none (by decide) (gl_ok (by decide)) h
theorem r182_11 : isInt 4 (call Tryz.prog gl (fun _ _ _ _ _ => none) 40 (.fn 164) [.lit (.int .u64 11)] h0 1000 1000) = true := by kernel_rfl
theorem k182_11 : Sim.Con (Sim.EG Sim.glT) 164 [Sim.G.lit (.int .u64 11)] (Sim.G.int 4) := by
 obtain ⟨h', c', h⟩ := isInt_ex r182_11;exact con_of_call (vs := [.int .u64 11]) orc_none orcK_none (by decide) (gl_ok (by decide)) h
theorem r182_12 : isInt 4 (call Tryz.prog gl (fun _ _ _ _ _ => none) 40 (.fn 164) [.lit (.int .u64 12)] h0 1000 1000) = true := by kernel_rfl
theorem k182_12 : Sim.Con (Sim.EG Sim.glT) 164 [Sim.G.lit (.int .u64 12)] (Sim.G.int 4) := by
 obtain ⟨h', c', h⟩ := isInt_ex r182_12;exact con_of_call (vs := [.int .u64 12]) orc_none orcK_none (by decide) (gl_ok (by decide)) h
end Go.Ex
namespace Go.Sim
open Go.Proofs Go.Ex
def lenU (n : Int) : Int := lenT n
theorem c182 (n : Int) (h : 0 ≤ n ∧ n ≤ 12) : Con (EG glT) 164 [G.lit (.int .u64 n)] (G.int (lenU n)) := by
 have : n = 0 ∨ n = 1 ∨ n = 2 ∨ n = 3 ∨ n = 4 ∨ n = 5 ∨ n = 6 ∨ n = 7 ∨ n = 8 ∨ n = 9 ∨ n = 10 ∨ n = 11 ∨ n = 12 := by omega
 rcases this with rfl | rfl | rfl | rfl | rfl | rfl | rfl | rfl | rfl | rfl | rfl | rfl | rfl
 ·exact k182_0
 ·exact k182_1
 ·exact k182_2
 ·exact k182_3
 ·exact k182_4
 ·exact k182_5
 ·exact k182_6
 ·exact k182_7
 ·exact k182_8
 ·exact k182_9
 ·exact k182_10
 ·exact k182_11
 ·exact k182_12
theorem c182w (n : Int) (h : 0 ≤ n ∧ n ≤ 12) : Con (EG glT) 164 [G.lit (.int .u64 (IntKind.u64.wrap n))] (G.int (lenU n)) := by
 have : IntKind.u64.wrap n = n := by
  have : n = 0 ∨ n = 1 ∨ n = 2 ∨ n = 3 ∨ n = 4 ∨ n = 5 ∨ n = 6 ∨ n = 7 ∨ n = 8 ∨ n = 9 ∨ n = 10 ∨ n = 11 ∨ n = 12 := by omega
  rcases this with rfl | rfl | rfl | rfl | rfl | rfl | rfl | rfl | rfl | rfl | rfl | rfl | rfl <;> decide
 rw [this]; exact c182 n h
end Go.Sim
set_option maxRecDepth 10000
namespace Go.Sim
open Go.Proofs
def s1163_l1 (a0 : List S1154) (a4 : S1154 → S1154 → Option Int) : Nat → Int → Int → Int → Bool → Bool → Option (List S1154)
 | 0, _, _, _, _, _ => none
 | k6 + 1, x1, x2, x3, x4, x5 => bindO (s1179 a0 x1 x2 a4) fun r7 => some r7
def s1163 (a0 : List S1154) (a1 : Int) (a2 : Int) (a3 : Int) (a4 : S1154 → S1154 → Option Int) : Option (List S1154) :=
 s1163_l1 a0 a4 ((0) + 1) a1 a2 a3 true true
theorem c1163 {g : List (Nat × List Value)} (a0 : List S1154) (a1 : Int) (a2 : Int) (a3 : Int) (a4 : S1154 → S1154 → Option Int) {R : List S1154} {N0 : Nat} (hN0 : List.length a0 = N0) {ca4 : G} {ia4 : FuncId} {ka4 : List G} (ha4 : FnIs ca4 ia4 ka4) (Ka4 : Known Tryz.prog ia4) (Ha4 : ∀ (x0 : S1154) (x1 : S1154) (r : Int), a4 x0 x1 = some r → Con (EG g) ia4 ([G.agg [G.str x0.Name, G.int x0.Sum.Count, G.int x0.Sum.Points], G.agg [G.str x1.Name, G.int x1.Sum.Count, G.int x1.Sum.Points]] ++ ka4) (G.int r)) (hA : 0 ≤ a1) (hA2 : a1 ≤ 12) (hB0 : 0 ≤ a2) (hB : a2 ≤ 12) (hR : s1163 a0 a1 a2 a3 a4 = some R) : ConB (EG g) 163 [.osl 0 3 0 N0, .g (G.int a1), .g (G.int a2), .g (G.int a3), .g (ca4)] [(0, .arr 155 3 (List.map S1154.c a0))] (G.tup []) [(0, .arr 155 3 (List.map S1154.c R))] := by
 unfold s1163 at hR;refine conB_of_aw Tryz.func163 rfl rfl rfl fun w0 M0 x => ?_;refine len_osl (f := S1154.c) (l := a0) 0 rfl fun hla0 => ?_;refine aw_seq ?_;refine aw_region [.p] ?_;refine st rfl rfl (eff_assigng rfl rfl) rfl ?_;refine st_nil ?_;refine aw_seq ?_;refine aw_region [.p] ?_;refine st rfl rfl (eff_assigng rfl rfl) rfl ?_;refine st_nil ?_;refine aw_block ?_;refine aw_loop_g (γ := Nat × Int × Int × Int × Bool × Bool) (fun g => ([(0, .osl 0 3 0 (N0)), (1, .g (G.int g.2.1)), (2, .g (G.int g.2.2.1)), (3, .g (G.int g.2.2.2.1)), (4, .g (ca4)), (10, .g (G.bool g.2.2.2.2.1)), (11, .g (G.bool g.2.2.2.2.2))], [(0, .arr 155 3 (List.map S1154.c a0))])) (fun g => 0 < g.1 ∧ 0 ≤ g.2.1 ∧ g.2.1 ≤ 12 ∧ 0 ≤ g.2.2.1 ∧ g.2.2.1 ≤ 12 ∧ s1163_l1 a0 a4 g.1 g.2.1 g.2.2.1 g.2.2.2.1 g.2.2.2.2.1 g.2.2.2.2.2 = some R) (fun g => g.1) ⟨rfl, ((0) + 1, a1, a2, a3, true, true), ⟨rfl, rfl, rfl, rfl, rfl, rfl, rfl, trivial⟩, ⟨rfl, trivial⟩, rfl, ⟨Nat.lt_succ_self _, (by first | omega | (dsimp only; omega) | simp), (by first | omega | (dsimp only; omega) | simp), (by first | omega | (dsimp only; omega) | simp), (by first | omega | (dsimp only; omega) | simp), hR⟩, trivial⟩ ?_
 ·rintro ⟨k6, x1, x2, x3, x4, x5⟩ ⟨hk1, iv1_0, iv1_1, iv1_2, iv1_3, hR⟩;replace hk1 : 0 < k6 := hk1;replace hR : s1163_l1 a0 a4 k6 x1 x2 x3 x4 x5 = some R := hR;replace iv1_0 : 0 ≤ x1 := iv1_0;replace iv1_1 : x1 ≤ 12 := iv1_1;replace iv1_2 : 0 ≤ x2 := iv1_2;replace iv1_3 : x2 ≤ 12 := iv1_3;obtain ⟨k6, rfl⟩ : ∃ m, k6 = m + 1 := ⟨k6 - 1, by omega⟩;rw [s1163_l1] at hR;(try dsimp only at hR);refine aw_block ?_;refine aw_seq ?_;refine aw_region [.p, .p, .p, .p] ?_;refine st rfl rfl (eff_moveg rfl rfl) rfl ?_;refine st rfl rfl (eff_moveg rfl rfl) rfl ?_;refine st rfl rfl (eff_sub rfl rfl rfl (by unfold I64; (try dsimp only); omega)) rfl ?_;refine st rfl rfl (eff_assigng rfl rfl) rfl ?_;refine st_nil ?_;refine aw_seq ?_;refine aw_seq ?_;refine aw_region [.p, .p] ?_;refine st rfl rfl (eff_moveg rfl rfl) rfl ?_;refine st rfl rfl (eff_leq rfl rfl rfl) rfl ?_;refine st_nil ?_;refine aw_cond _ rfl (fun h1 => ?_) (fun h1 => ?_)
  ·replace h1 : (decide (x2 - x1 ≤ 12)) = true := h1;(try simp only [Bool.or_eq_true, Bool.and_eq_true, Bool.or_eq_false_iff, Bool.and_eq_false_iff, Bool.not_eq_true', Bool.not_eq_false', decide_eq_true_eq, decide_eq_false_iff_not] at h1);refine aw_seq ?_;obtain ⟨r7, br7, hR⟩ := bindO_inv hR;refine aw_region [.p, .p, .p, .p, .w] ?_;refine st rfl rfl (eff_moveO rfl rfl) rfl ?_;refine st rfl rfl (eff_moveg rfl rfl) rfl ?_;refine st rfl rfl (eff_moveg rfl rfl) rfl ?_;refine st rfl rfl (eff_moveg rfl rfl) rfl ?_;refine st_w rfl rfl (eff_callB1 0 0 rfl K1179 rfl (ConB.lend (c1179 a0 x1 x2 a4 hN0 ha4 Ka4 Ha4 (by first | assumption | omega | (simp [copyL_len]; done) | (simp [copyL_len]; omega)) (by first | assumption | omega | (simp [copyL_len]; done) | (simp [copyL_len]; omega)) (by first | assumption | omega | (simp [copyL_len]; done) | (simp [copyL_len]; omega)) br7)) (at_cons rfl rfl (at_cons rfl rfl (at_cons rfl rfl (at_cons rfl rfl at_nil)))) rfl rfl rfl) rfl ?_;refine st_nil ?_;refine aw_ret ?_;obtain rfl := Option.some.inj hR;show ResOk _ _ _ _ ∧ MemL _ _;exact ⟨res0 rfl, ⟨rfl, trivial⟩⟩
  ·(try simp only [Bool.or_eq_true, Bool.and_eq_true, Bool.or_eq_false_iff, Bool.and_eq_false_iff, Bool.not_eq_true', Bool.not_eq_false', decide_eq_true_eq, decide_eq_false_iff_not] at h1)
   exfalso; omega
theorem len1163 {a0 : List S1154} {a1 a2 a3 : Int} {a4 : S1154 → S1154 → Option Int} {R : List S1154} (h : s1163 a0 a1 a2 a3 a4 = some R) : R.length = a0.length := by
 unfold s1163 at h;rw [s1163_l1] at h;obtain ⟨y1, h1, h⟩ := bindO_inv h
 cases h
 exact len1179 h1
end Go.Sim
set_option maxRecDepth 10000
namespace Go.Sim
open Go.Proofs
def s1133 (a0 : List S1154) (a1 : S1154 → S1154 → Option Int) : Option (List S1154) :=
 bindO (s1163 a0 0 (List.length a0 : Int) (lenU (List.length a0 : Int)) a1) fun r1 => some r1
theorem c1133 (a0 : List S1154) (a1 : S1154 → S1154 → Option Int) {R : List S1154} {N0 : Nat} (hN0 : List.length a0 = N0) {ca1 : G} {ia1 : FuncId} {ka1 : List G} (ha1 : FnIs ca1 ia1 ka1) (Ka1 : Known Tryz.prog ia1) (Ha1 : ∀ (x0 : S1154) (x1 : S1154) (r : Int), a1 x0 x1 = some r → Con (EG glT) ia1 ([G.agg [G.str x0.Name, G.int x0.Sum.Count, G.int x0.Sum.Points], G.agg [G.str x1.Name, G.int x1.Sum.Count, G.int x1.Sum.Points]] ++ ka1) (G.int r)) (hB : (List.length a0 : Int) ≤ 12) (hR : s1133 a0 a1 = some R) : ConB (EG glT) 133 [.osl 0 3 0 N0, .g (ca1)] [(0, .arr 155 3 (List.map S1154.c a0))] (G.tup []) [(0, .arr 155 3 (List.map S1154.c R))] := by
 unfold s1133 at hR;refine conB_of_aw Tryz.func133 rfl rfl rfl fun w0 M0 x => ?_;refine len_osl (f := S1154.c) (l := a0) 0 rfl fun hla0 => ?_;refine aw_seq ?_;refine aw_region [.p, .p, .p] ?_;refine st rfl rfl (eff_moveO rfl rfl) rfl ?_;refine st rfl rfl (eff_lenON hN0 rfl Tryz.underlying147 rfl) rfl ?_;refine st rfl rfl (eff_assigng rfl rfl) rfl ?_;refine st_nil ?_;obtain ⟨r1, br1, hR⟩ := bindO_inv hR;refine aw_region [.p, .p, .p, .p, .p, .p, .w] ?_;refine st rfl rfl (eff_moveO rfl rfl) rfl ?_;refine st rfl rfl (eff_moveg rfl rfl) rfl ?_;refine st rfl rfl (eff_moveg rfl rfl) rfl ?_;refine st rfl rfl (eff_conv rfl Tryz.underlying3 Tryz.underlying225 rfl) rfl ?_;refine st rfl rfl (eff_call rfl K182 rfl (Con.lend (c182w (List.length a0 : Int) (by omega))) (ag_cons rfl ag_nil)) rfl ?_;refine st rfl rfl (eff_moveg rfl rfl) rfl ?_;refine st_w rfl rfl (eff_callB1 0 0 rfl K1163 rfl (ConB.lend (c1163 a0 0 (List.length a0 : Int) (lenU (List.length a0 : Int)) a1 hN0 ha1 Ka1 Ha1 (by first | assumption | omega | (simp [copyL_len]; done) | (simp [copyL_len]; omega)) (by first | assumption | omega | (simp [copyL_len]; done) | (simp [copyL_len]; omega)) (by first | assumption | omega | (simp [copyL_len]; done) | (simp [copyL_len]; omega)) (by first | assumption | omega | (simp [copyL_len]; done) | (simp [copyL_len]; omega)) br1)) (at_cons rfl rfl (at_cons rfl rfl (at_cons rfl rfl (at_cons rfl rfl (at_cons rfl rfl at_nil))))) rfl rfl rfl) rfl ?_;refine st_nil ?_;obtain rfl := Option.some.inj hR;show ResOk _ _ _ _ ∧ MemL _ _;exact ⟨res0 rfl, ⟨rfl, trivial⟩⟩
theorem len1133 {a0 : List S1154} {a1 : S1154 → S1154 → Option Int} {R : List S1154} (h : s1133 a0 a1 = some R) : R.length = a0.length := by
 unfold s1133 at h;obtain ⟨y1, h1, h⟩ := bindO_inv h
 cases h
 exact len1163 h1
def sun (n : Int) : Int := n - (n + 6) % 7
theorem sun_rng (n : Int) : n - 6 ≤ sun n ∧ sun n ≤ n := by unfold sun; omega
theorem s188_emod {x : Int} (h : 0 ≤ x) (h' : x ≤ 1000000000) : s188 x = (x + 5) % 7 := by
 unfold s188;rw [wrap_i64 ⟨by omega, by omega⟩, Int.tmod_eq_emod_of_nonneg (by omega)]
theorem s162_loop : ∀ (k : Nat) (x : Int), (x + 6) % 7 < (k : Int) → 7 ≤ x - (x + 6) % 7 → x ≤ 1000000000 → s162_l1 k x = some (sun x)
 | 0, x, h, _, _ => by omega
 | k + 1, x, h, h1, h2 => by
  rw [s162_l1, s180_emod (by omega) h2]
  by_cases h3 : (x + 5) % 7 = 6
  ·rw [decide_eq_false (by simpa using h3), cond_false];unfold sun
   congr 1
   omega
  ·rw [decide_eq_true h3, cond_true, wrap_i64 ⟨by omega, by omega⟩, s162_loop k (x - 1) (by omega) (by omega) (by omega)];unfold sun
   congr 1
   omega
theorem s162_3 {y : Int} (h : 2000 ≤ y) (h' : y ≤ 3000) : s162 y 3 = some (sun (N3 y)) := by
 have := N_rng h h';unfold s162;rw [s200_3 h h'];exact s162_loop _ _ (by omega) (by omega) (by omega)
theorem s162_10 {y : Int} (h : 2000 ≤ y) (h' : y ≤ 3000) : s162 y 10 = some (sun (N10 y)) := by
 have := N_rng h h';unfold s162;rw [s200_10 h h'];exact s162_loop _ _ (by omega) (by omega) (by omega)
theorem s223_2 (y : Int) : s223 y 2 = some (28 + lp y) := by
 have h : s248 y = s224 y := rfl;unfold s223 lp;rw [h]
 cases s224 y <;> rfl
theorem s223_c {y m r : Int} (hm : m ≠ 2) (h : ixO lenL (IntKind.i64.wrap (m - 1)) = some r) : s223 y m = some r := by
 unfold s223;rw [decide_eq_false hm, Bool.false_and, cond_false, h]
 rfl
theorem s221_y {y m : Int} (h : 2000 ≤ y) (h' : y ≤ 3000) : s221 y m 31 = s221_l2 y ((m - 1).toNat) (30 + Dy (y - 2000).toNat) 1 := by
 have hn := toNat_cast h;unfold s221;rw [wrap_i64 (n := y - 2000) ⟨by omega, by omega⟩, wrap_i64 (n := (31 : Int) - 1) ⟨by omega, by omega⟩];have := s221_years y m (y - 2000).toNat 0 30 (by omega) (by omega) (by omega);simp only [Nat.zero_add, Dy] at this
 have e : (y - 2000 - 0).toNat = (y - 2000).toNat := by simp
 rw [e];show s221_l1 y m (y - 2000).toNat 30 ((0 : Nat) : Int) = _;rw [this]
 congr 1
 omega
theorem s221_3 {y : Int} (h : 2000 ≤ y) (h' : y ≤ 3000) : s221 y 3 31 = some (N3 y) := by
 have hn := toNat_cast h;have h1 := lp_rng y;have h2 := Dy_rng (y - 2000).toNat;rw [s221_y h h'];show s221_l2 y 2 _ 1 = _;rw [s221_l2, s223_c (y := y) (m := 1) (r := 31) (by decide) rfl];simp only [bindO];rw [wrap_i64 ⟨by omega, by omega⟩, s221_l2, show (1 : Int) + 1 = 2 from rfl, s223_2];simp only [bindO];rw [wrap_i64 ⟨by omega, by omega⟩, s221_l2];unfold N3
 congr 1
 omega
theorem s221_10 {y : Int} (h : 2000 ≤ y) (h' : y ≤ 3000) : s221 y 10 31 = some (N10 y) := by
 have hn := toNat_cast h;have h1 := lp_rng y;have h2 := Dy_rng (y - 2000).toNat;rw [s221_y h h'];show s221_l2 y 9 _ 1 = _;rw [s221_l2, s223_c (y := y) (m := 1) (r := 31) (by decide) rfl];simp only [bindO];rw [wrap_i64 ⟨by omega, by omega⟩, s221_l2, show (1 : Int) + 1 = 2 from rfl, s223_2];simp only [bindO];rw [wrap_i64 ⟨by omega, by omega⟩, s221_l2, show (2 : Int) + 1 = 3 from rfl, s223_c (y := y) (m := 3) (r := 31) (by decide) rfl];simp only [bindO];rw [wrap_i64 ⟨by omega, by omega⟩, s221_l2, show (3 : Int) + 1 = 4 from rfl, s223_c (y := y) (m := 4) (r := 30) (by decide) rfl];simp only [bindO];rw [wrap_i64 ⟨by omega, by omega⟩, s221_l2, show (4 : Int) + 1 = 5 from rfl, s223_c (y := y) (m := 5) (r := 31) (by decide) rfl];simp only [bindO];rw [wrap_i64 ⟨by omega, by omega⟩, s221_l2, show (5 : Int) + 1 = 6 from rfl, s223_c (y := y) (m := 6) (r := 30) (by decide) rfl];simp only [bindO];rw [wrap_i64 ⟨by omega, by omega⟩, s221_l2, show (6 : Int) + 1 = 7 from rfl, s223_c (y := y) (m := 7) (r := 31) (by decide) rfl];simp only [bindO];rw [wrap_i64 ⟨by omega, by omega⟩, s221_l2, show (7 : Int) + 1 = 8 from rfl, s223_c (y := y) (m := 8) (r := 31) (by decide) rfl];simp only [bindO];rw [wrap_i64 ⟨by omega, by omega⟩, s221_l2, show (8 : Int) + 1 = 9 from rfl, s223_c (y := y) (m := 9) (r := 30) (by decide) rfl];simp only [bindO];rw [wrap_i64 ⟨by omega, by omega⟩, s221_l2];unfold N10
 congr 1
 omega
theorem s189_of {y m n : Int} (h : s221 y m 31 = some n) (h0 : 0 ≤ n) (h1 : n ≤ 1000000) : s189 y m = some (sun n) := by
 unfold s189;rw [h];simp only [bindO];rw [s188_emod h0 (by omega), wrap_i64 (n := (n + 5) % 7 + 7) ⟨by omega, by omega⟩, wrap_i64 (n := (n + 5) % 7 + 7 - 6) ⟨by omega, by omega⟩, Int.tmod_eq_emod_of_nonneg (by omega), wrap_i64 ⟨by omega, by omega⟩];unfold sun
 congr 1
 omega
theorem s189_3 {y : Int} (h : 2000 ≤ y) (h' : y ≤ 3000) : s189 y 3 = some (sun (N3 y)) := by
 have := N_rng h h';exact s189_of (s221_3 h h') (by omega) (by omega)
theorem s189_10 {y : Int} (h : 2000 ≤ y) (h' : y ≤ 3000) : s189 y 10 = some (sun (N10 y)) := by
 have := N_rng h h';exact s189_of (s221_10 h h') (by omega) (by omega)
theorem f89_k : ∀ (l : List Int) (k k' : Nat), s89_l1 l k = s89_l1 l k'
 | [], _, _ => rfl
 | x :: l, k, k' => by simp only [s89_l1]; rw [f89_k l (k + 1) (k' + 1)]
theorem s89_nil : s89 [] = 0 := rfl
theorem s89_cons (x : Int) (l : List Int) : s89 (x :: l) = if x = 0 then s89 l else x := by
 unfold s89;simp only [s89_l1];rw [f89_k l (0 + 1) 0]
 by_cases h : x = 0 <;> simp [h]
theorem f1085_k : ∀ (l : List Int) (k : Nat), s1085_l1 l k = s89_l1 l k
 | [], _ => rfl
 | x :: l, k => by simp only [s1085_l1, s89_l1]; rw [f1085_k l (k + 1)]
theorem s1085_eq (l : List Int) : s1085 l = s89 l := f1085_k l 0
theorem f152_k : ∀ (l : List Int) (k : Nat), s152_l1 l k = s89_l1 l k
 | [], _ => rfl
 | x :: l, k => by simp only [s152_l1, s89_l1]; rw [f152_k l (k + 1)]
theorem s152_eq (l : List Int) : s152 l = s89 l := f152_k l 0
theorem s1088_eq (a b c : Int) : s1088 a b c = s90 a b c := rfl
theorem s155_eq (a b c : Int) : s155 a b c = s90 a b c := rfl
theorem s1098_eq (a : Int) : s1098 a = s96 a := rfl
theorem s90_ite (a b c : Int) : s90 a b c = if b ≤ a ∧ a ≤ c then 0 else 3 := by
 unfold s90
 by_cases h1 : a < b <;> by_cases h2 : c < a <;> simp [h1, h2] <;> omega
theorem s1086_ite (b : Bool) (e : Int) : s1086 b e = if b = true then e else 0 := by cases b <;> rfl
theorem s154_ite (b : Bool) (e : Int) : s154 b e = if b = true then e else 0 := by cases b <;> rfl
theorem s1117_eq (n : S1085) : s1117 n = s1051 n := by
 unfold s1117 s1051 s1051_j1;rw [s1085_eq, s1088_eq, s1088_eq, s1086_ite];simp only [s89_cons, s89_nil, decide_eq_true_eq]
 by_cases h1 : s90 n.fFrom 0 1439 = 0 <;> by_cases h2 : s90 n.fTo 0 1439 = 0 <;> by_cases h3 : n.fFrom = n.fTo <;> simp [h1, h2, h3]
 all_goals (subst_vars; simp_all)
theorem s107_eq (s : S67) : s107 s = s41 s := by
 unfold s107 s41 s41_j1;rw [s152_eq, s155_eq, s154_ite];simp only [s89_cons, s89_nil]
 by_cases h1 : s90 s.Year 2000 2272 = 0 <;> by_cases h2 : s.Kind = ⟨#[83]⟩ <;> by_cases h3 : s.Kind = ⟨#[87]⟩ <;> simp [h1, h2, h3]
theorem s1047_eq (x : S1089) : s1047 x = s1048 (s1049 x) := by
 unfold s1047 s1048 s1049;rw [s1085_eq, s1117_eq, s107_eq, s1088_eq, s1088_eq]
theorem night_eq {n : S1085} {m : Int} (h0 : s1051 n = 0) (h1 : s96 m = 0) :
  s1050 n m = if (s1052 n m).2 = true then ((s1052 n m).1, 0) else (0, 7) := by
 have hm : 0 ≤ m ∧ m ≤ 143999999 := by
  unfold s96 at h1; rw [s90_ite] at h1
  split at h1 <;> simp_all
 have e1 : Int.tmod m 1440 = m % 1440 := Int.tmod_eq_emod_of_nonneg hm.1;have e2 : Int.tdiv m 1440 = m / 1440 := Int.tdiv_eq_ediv_of_nonneg hm.1;have w1 : IntKind.i64.wrap (m / 1440) = m / 1440 := wrap_i64 (by unfold I64; omega);have w2 : IntKind.i64.wrap (m / 1440 - 1) = m / 1440 - 1 := wrap_i64 (by unfold I64; omega);unfold s1050;rw [s1085_eq, s1117_eq, s1098_eq, h0, h1];unfold s1120 s1052;rw [e1, e2, w1, w2];simp only [s89_cons, s89_nil, if_true]
 have hq : 0 ≤ m / 1440 := by omega
 generalize m / 1440 = q at *;generalize m % 1440 = r at *;simp only [cond_eq_ite, Bool.and_eq_true, Bool.or_eq_true, decide_eq_true_eq, ne_eq, not_true_eq_false, if_false]
 by_cases c1 : n.fFrom < n.fTo <;> by_cases c2 : r < n.fFrom <;> by_cases c3 : r < n.fTo <;> by_cases c4 : 0 < q
 all_goals
  have d2 : (n.fFrom ≤ r) = ¬ (r < n.fFrom) := by rw [Int.not_lt]
  have d3 : (n.fTo ≤ r) = ¬ (r < n.fTo) := by rw [Int.not_lt]
  have d4 : (0 ≤ q - 1) = (0 < q) := by apply propext; omega
  (try simp [c1, c2, c3, c4, d2, d3, d4, hq]) <;> (try omega)
abbrev kS : ByteArray := ⟨#[83]⟩
abbrev kW : ByteArray := ⟨#[87]⟩
theorem kSW : ¬ kW = kS := by decide
theorem s138_S {y : Int} (h : 2000 ≤ y) (h' : y ≤ 3000) : s138 ⟨y, kS⟩ = some (sun (N3 y)) := by
 unfold s138;rw [decide_eq_true rfl, cond_true, s189_3 h h']; rfl
theorem s138_W {y : Int} (h : 2000 ≤ y) (h' : y ≤ 3000) : s138 ⟨y, kW⟩ = some (sun (N10 y)) := by
 unfold s138;rw [decide_eq_false kSW, cond_false, s189_10 h h']; rfl
theorem s111_S {y : Int} (h : 2000 ≤ y) (h' : y ≤ 2999) : s111 ⟨y, kS⟩ = some ⟨sun (N3 y), sun (N10 y) - 1, 127⟩ := by
 have h1 := N_rng h (by omega);have h2 := sun_rng (N10 y);unfold s111;rw [decide_eq_true rfl, cond_true, s162_3 h (by omega), s162_10 h (by omega)];simp only [bindO];rw [wrap_i64 ⟨by omega, by omega⟩]
theorem s111_W {y : Int} (h : 2000 ≤ y) (h' : y ≤ 2999) : s111 ⟨y, kW⟩ = some ⟨sun (N10 y), sun (N3 (y + 1)) - 1, 127⟩ := by
 have h1 := N_rng (y := y + 1) (by omega) (by omega);have h2 := sun_rng (N3 (y + 1));unfold s111;rw [decide_eq_false kSW, cond_false, s162_10 h (by omega)];simp only [bindO];rw [wrap_i64 (n := y + 1) ⟨by omega, by omega⟩, s162_3 (by omega) (by omega)]
 simp only
 rw [wrap_i64 ⟨by omega, by omega⟩]
def beg (s : S67) : Int := if s.Kind = kS then sun (N3 s.Year) else sun (N10 s.Year)
def nxt (s : S67) : Int := if s.Kind = kS then sun (N10 s.Year) else sun (N3 (s.Year + 1))
def okS (s : S67) : Prop := 2000 ≤ s.Year ∧ s.Year ≤ 2272 ∧ (s.Kind = kS ∨ s.Kind = kW)
theorem Dy_mono {m n : Nat} (h : m ≤ n) : Dy m ≤ Dy n := by
 induction n with
 | zero => rw [Nat.le_zero.1 h]; exact Int.le_refl _
 | succ n ih =>
  have hr := s198_rng (2000 + (n : Int))
  rcases Nat.lt_or_ge n m with h' | h'
  ·have : m = n + 1 := by omega
   rw [this]; exact Int.le_refl _
  ·have := ih h';rw [Dy]; omega
theorem Dy_next (n : Nat) : Dy (n + 1) = Dy n + (365 + lp (2000 + (n : Int))) := by rw [Dy, s198_lp]
theorem s138_ok {s : S67} (h : okS s) : s138 s = some (beg s) := by
 obtain ⟨y, k⟩ := s;obtain ⟨h1, h2, h3⟩ := h;have h1 : 2000 ≤ y := h1;have h2 : y ≤ 2272 := h2
 rcases h3 with h3 | h3
 ·have h3 : k = kS := h3;subst h3;rw [s138_S h1 (by omega)];unfold beg; rw [if_pos rfl]
 ·have h3 : k = kW := h3;subst h3;rw [s138_W h1 (by omega)];unfold beg; rw [if_neg kSW]
theorem s139_ok {s : S67} (h : okS s) : s138 (s139 s) = some (nxt s) := by
 obtain ⟨y, k⟩ := s;obtain ⟨h1, h2, h3⟩ := h;have h1 : 2000 ≤ y := h1;have h2 : y ≤ 2272 := h2
 rcases h3 with h3 | h3
 ·have h3 : k = kS := h3;subst h3
  have e : s139 ⟨y, kS⟩ = ⟨y, kW⟩ := by unfold s139; rw [decide_eq_true rfl, cond_true]
  rw [e, s138_W h1 (by omega)];unfold nxt; rw [if_pos rfl]
 ·have h3 : k = kW := h3;subst h3
  have e : s139 ⟨y, kW⟩ = ⟨y + 1, kS⟩ := by unfold s139; rw [decide_eq_false kSW, cond_false, wrap_i64 ⟨by show _ ≤ y + 1; omega, by show y + 1 ≤ _; omega⟩]
  rw [e, s138_S (by omega) (by omega)];unfold nxt; rw [if_neg kSW]
theorem s111_ok {s : S67} (h : okS s) : s111 s = some ⟨beg s, nxt s - 1, 127⟩ := by
 obtain ⟨y, k⟩ := s;obtain ⟨h1, h2, h3⟩ := h;have h1 : 2000 ≤ y := h1;have h2 : y ≤ 2272 := h2
 rcases h3 with h3 | h3
 ·have h3 : k = kS := h3;subst h3;rw [s111_S h1 (by omega)];unfold beg nxt; rw [if_pos rfl, if_pos rfl]
 ·have h3 : k = kW := h3;subst h3;rw [s111_W h1 (by omega)];unfold beg nxt; rw [if_neg kSW, if_neg kSW]
theorem beg_rng {s : S67} (h : okS s) : 0 ≤ beg s ∧ beg s ≤ 1000000 ∧ 0 ≤ nxt s ∧ nxt s ≤ 99999 := by
 obtain ⟨y, k⟩ := s;obtain ⟨h1, h2, _⟩ := h;have h1 : 2000 ≤ y := h1;have h2 : y ≤ 2272 := h2;have a := N_rng h1 (by omega);have b := N_rng (y := y + 1) (by omega) (by omega);have c1 := sun_rng (N3 y);have c2 := sun_rng (N10 y);have c3 := sun_rng (N3 (y + 1))
 have e0 : (y + 1 - 2000).toNat = (y - 2000).toNat + 1 := by omega
 have d0 := Dy_rng (y - 2000).toNat;have d1 := Dy_next (y - 2000).toNat;have d2 := Dy_mono (show (y - 2000).toNat + 1 ≤ 273 by omega)
 have d3 : Dy 273 = 99712 := by decide +kernel
 have l0 := lp_rng (2000 + ((y - 2000).toNat : Int));have l1 := lp_rng y;have l2 := lp_rng (y + 1);have e1 : N10 y = 303 + lp y + Dy (y - 2000).toNat := rfl;have e2 : N3 (y + 1) = 89 + lp (y + 1) + Dy (y + 1 - 2000).toNat := rfl;rw [e0] at e2;unfold beg nxt
 by_cases hk : k = kS
 ·simp only [hk, if_true]
  omega
 ·simp only [hk, if_false]
  omega
theorem s41_zero (s : S67) : s41 s = 0 ↔ okS s := by
 unfold s41 s41_j1 okS;have h := s90_ite s.Year 2000 2272
 by_cases h1 : s90 s.Year 2000 2272 = 0 <;> by_cases h2 : s.Kind = ⟨#[83]⟩ <;> by_cases h3 : s.Kind = ⟨#[87]⟩ <;> simp [h1, h2, h3] <;> (rw [h] at h1; split at h1 <;> simp_all <;> omega)
theorem s107_ok {s : S67} (h : okS s) : s107 s = 0 := by rw [s107_eq]; exact (s41_zero s).2 h
theorem s70_ok {a1 : S67} (hs : okS a1) : s70 a1 = some (⟨beg a1, nxt a1 - 1, 127⟩, 0) := by
 have b := beg_rng hs;unfold s70;rw [s107_ok hs, decide_eq_false (by decide), cond_false, s138_ok hs, s139_ok hs];simp only [bindO];rw [wrap_i64 ⟨by omega, by omega⟩]
end Go.Sim
set_option maxRecDepth 10000
namespace Go.Sim
open Go.Proofs
def s91_l1  : List UInt8 → Nat → Bool
 | [], k2 => true
 | y3 :: t4, k2 => (bif (!(((decide (97 ≤ (y3.toNat : Int))) && (decide ((y3.toNat : Int) ≤ 122))) || ((decide (65 ≤ (y3.toNat : Int))) && (decide ((y3.toNat : Int) ≤ 90))))) && ((decide (((k2 : Nat) : Int) = 0)) || ((decide ((y3.toNat : Int) ≠ 95)) && ((decide ((y3.toNat : Int) < 48)) || (decide (57 < (y3.toNat : Int)))))) then false else s91_l1  t4 (k2 + 1))
def s91 (a0 : ByteArray) : Bool :=
 (bif (decide ((ByteArray.size a0 : Int) = 0)) || (decide (24 < (ByteArray.size a0 : Int))) then false else s91_l1 ((ByteArray.data a0).toList) 0)
theorem c91 {g : List (Nat × List Value)} (a0 : ByteArray)    : Con (EG g) 90 [G.str a0] (G.bool (s91 a0)) := by
 generalize hR : s91 a0 = R;unfold s91 at hR;refine con_of_aw Tryz.func90 rfl rfl fun w0 M0 => ?_;refine aw_seq ?_;refine aw_region [.p] ?_;refine st rfl rfl (eff_assigng rfl rfl) rfl ?_;refine st_nil ?_;refine aw_seq ?_;refine aw_seq ?_;refine aw_region [.p, .p, .p, .p, .p, .p, .p, .p] ?_;refine st rfl rfl (eff_moveg rfl rfl) rfl ?_;refine st rfl rfl (eff_lenS rfl Tryz.underlying9 rfl) rfl ?_;refine st rfl rfl (eff_eql rfl rfl rfl) rfl ?_;refine st rfl rfl (eff_moveg rfl rfl) rfl ?_;refine st_g rfl rfl rfl (gb_bool _ _) (fun h => eff_moveg rfl rfl) rfl ?_;refine st_g rfl rfl rfl (gb_bool _ _) (fun h => eff_lenS rfl Tryz.underlying9 (gd h rfl)) rfl ?_;refine st_g rfl rfl rfl (gb_bool _ _) (fun h => eff_gtr rfl (gd h rfl) rfl) rfl ?_;refine st rfl rfl (eff_or rfl rfl rfl rfl) rfl ?_;refine st_nil ?_;refine aw_cond _ rfl (fun h1 => ?_) (fun h1 => ?_)
 ·replace h1 : ((decide ((ByteArray.size a0 : Int) = 0)) || (decide (24 < (ByteArray.size a0 : Int)))) = true := h1;replace hR := condT hR h1;(try simp only [Bool.or_eq_true, Bool.and_eq_true, Bool.or_eq_false_iff, Bool.and_eq_false_iff, Bool.not_eq_true', Bool.not_eq_false', decide_eq_true_eq, decide_eq_false_iff_not] at h1);refine aw_seq ?_;refine aw_region [.p] ?_;refine st rfl rfl (eff_assigng rfl rfl) rfl ?_;refine st_nil ?_;refine aw_ret ?_;subst hR;exact res_c rfl (rv_g rfl)
 ·replace h1 : ((decide ((ByteArray.size a0 : Int) = 0)) || (decide (24 < (ByteArray.size a0 : Int)))) = false := h1;replace hR := condF hR h1;(try simp only [Bool.or_eq_true, Bool.and_eq_true, Bool.or_eq_false_iff, Bool.and_eq_false_iff, Bool.not_eq_true', Bool.not_eq_false', decide_eq_true_eq, decide_eq_false_iff_not] at h1);refine aw_skip ?_;refine aw_seq ?_;refine aw_seq ?_;refine aw_region [.p] ?_;refine st rfl rfl (eff_assigng rfl rfl) rfl ?_;refine st_nil ?_;refine aw_block ?_;refine aw_loop_g (γ := Nat × (List UInt8)) (fun g => ([(0, .g (G.str a0)), (3, .g (G.int ((g.1 : Nat) : Int)))], [])) (fun g => ((ByteArray.data a0).toList).drop g.1 = g.2 ∧ s91_l1  g.2 g.1 = R) (fun g => List.length g.2) ⟨rfl, (0, ((ByteArray.data a0).toList)), ⟨rfl, rfl, trivial⟩, trivial, rfl, ⟨rfl, hR⟩, trivial⟩ ?_
  ·rintro ⟨k2, t4⟩ ⟨hd, hR⟩;replace hd : ((ByteArray.data a0).toList).drop k2 = t4 := hd;replace hR : s91_l1  t4 k2 = R := hR;refine aw_seq ?_;refine aw_seq ?_;refine aw_region [.p, .p, .p, .p] ?_;refine st rfl rfl (eff_moveg rfl rfl) rfl ?_;refine st rfl rfl (eff_moveg rfl rfl) rfl ?_;refine st rfl rfl (eff_lenS rfl Tryz.underlying9 rfl) rfl ?_;refine st rfl rfl (eff_lss rfl rfl rfl) rfl ?_;refine st_nil ?_;refine aw_cond _ rfl (fun h2 => ?_) (fun h2 => ?_)
   ·replace h2 : (decide (((k2 : Nat) : Int) < (ByteArray.size a0 : Int))) = true := h2;obtain ⟨y3, t4, rfl, hx1, hd⟩ := drop_consB hd (decT h2);replace h2 := decT h2;rw [s91_l1] at hR;(try dsimp only at hR);refine aw_skip ?_;refine aw_seq ?_;refine aw_block ?_;refine aw_seq ?_;refine aw_region [.p, .p, .p, .p] ?_;refine st rfl rfl (eff_moveg rfl rfl) rfl ?_;refine st rfl rfl (eff_moveg rfl rfl) rfl ?_;refine st rfl rfl (eff_indexS (b := y3) rfl Tryz.underlying9 rfl rfl (Int.natCast_nonneg _) hx1) rfl ?_;refine st rfl rfl (eff_assigng rfl rfl) rfl ?_;refine st_nil ?_;refine aw_seq ?_;refine aw_region [.p, .p, .p, .p, .p, .p, .p, .p, .p, .p, .p, .p, .p, .p, .p] ?_;refine st rfl rfl (eff_moveg rfl rfl) rfl ?_;refine st rfl rfl (eff_geq rfl rfl rfl) rfl ?_;refine st rfl rfl (eff_moveg rfl rfl) rfl ?_;refine st_g rfl rfl rfl (gb_bool _ _) (fun h => eff_moveg rfl rfl) rfl ?_;refine st_g rfl rfl rfl (gb_bool _ _) (fun h => eff_leq rfl (gd h rfl) rfl) rfl ?_;refine st rfl rfl (eff_and rfl rfl rfl rfl) rfl ?_;refine st rfl rfl (eff_moveg rfl rfl) rfl ?_;refine st_g rfl rfl rfl (gb_bool _ _) (fun h => eff_moveg rfl rfl) rfl ?_;refine st_g rfl rfl rfl (gb_bool _ _) (fun h => eff_geq rfl (gd h rfl) rfl) rfl ?_;refine st_g rfl rfl rfl (gb_bool _ _) (fun h => eff_moveg rfl (gd h rfl)) rfl ?_;refine st_g rfl rfl rfl (gb_if _ _ _) (fun h => eff_moveg rfl rfl) rfl ?_;refine st_g rfl rfl rfl (gb_if _ _ _) (fun h => eff_leq rfl (gd h rfl) rfl) rfl ?_;refine st_g rfl rfl rfl (gb_bool _ _) (fun h => eff_and rfl (gd h rfl) rfl (gd2 h rfl)) rfl ?_;refine st rfl rfl (eff_or rfl rfl rfl rfl) rfl ?_;refine st rfl rfl (eff_assigng rfl rfl) rfl ?_;refine st_nil ?_;refine aw_seq ?_;refine aw_region [.p, .p, .p, .p, .p, .p, .p, .p, .p, .p, .p, .p, .p, .p, .p, .p, .p, .p] ?_;refine st rfl rfl (eff_moveg rfl rfl) rfl ?_;refine st rfl rfl (eff_not rfl rfl) rfl ?_;refine st rfl rfl (eff_moveg rfl rfl) rfl ?_;refine st_g rfl rfl rfl (gb_bool _ _) (fun h => eff_moveg rfl rfl) rfl ?_;refine st_g rfl rfl rfl (gb_bool _ _) (fun h => eff_eql rfl (gd h rfl) rfl) rfl ?_;refine st_g rfl rfl rfl (gb_bool _ _) (fun h => eff_moveg rfl (gd h rfl)) rfl ?_;refine st_g rfl rfl rfl (gb_if _ _ _) (fun h => eff_moveg rfl rfl) rfl ?_;refine st_g rfl rfl rfl (gb_if _ _ _) (fun h => eff_neq rfl (gd h rfl) rfl) rfl ?_;refine st_g rfl rfl rfl (gb_if _ _ _) (fun h => eff_moveg rfl (gd h rfl)) rfl ?_;refine st_g rfl rfl rfl (gb_if _ _ _) (fun h => eff_moveg rfl rfl) rfl ?_;refine st_g rfl rfl rfl (gb_if _ _ _) (fun h => eff_lss rfl (gd h rfl) rfl) rfl ?_;refine st_g rfl rfl rfl (gb_if _ _ _) (fun h => eff_moveg rfl (gd h rfl)) rfl ?_;refine st_g rfl rfl rfl (gb_if _ _ _) (fun h => eff_moveg rfl rfl) rfl ?_;refine st_g rfl rfl rfl (gb_if _ _ _) (fun h => eff_gtr rfl (gd h rfl) rfl) rfl ?_;refine st_g rfl rfl rfl (gb_if _ _ _) (fun h => eff_or rfl (gd h rfl) rfl (gd2 h rfl)) rfl ?_;refine st_g rfl rfl rfl (gb_if _ _ _) (fun h => eff_and rfl (gd h rfl) rfl (gd2 h rfl)) rfl ?_;refine st_g rfl rfl rfl (gb_bool _ _) (fun h => eff_or rfl (gd h rfl) rfl (gd2 h rfl)) rfl ?_;refine st rfl rfl (eff_and rfl rfl rfl rfl) rfl ?_;refine st_nil ?_;refine aw_cond _ rfl (fun h4 => ?_) (fun h4 => ?_)
    ·replace h4 : ((!(((decide (97 ≤ (y3.toNat : Int))) && (decide ((y3.toNat : Int) ≤ 122))) || ((decide (65 ≤ (y3.toNat : Int))) && (decide ((y3.toNat : Int) ≤ 90))))) && ((decide (((k2 : Nat) : Int) = 0)) || ((decide ((y3.toNat : Int) ≠ 95)) && ((decide ((y3.toNat : Int) < 48)) || (decide (57 < (y3.toNat : Int))))))) = true := h4;replace hR := condT hR h4;(try simp only [Bool.or_eq_true, Bool.and_eq_true, Bool.or_eq_false_iff, Bool.and_eq_false_iff, Bool.not_eq_true', Bool.not_eq_false', decide_eq_true_eq, decide_eq_false_iff_not] at h4);refine aw_seq ?_;refine aw_region [.p] ?_;refine st rfl rfl (eff_assigng rfl rfl) rfl ?_;refine st_nil ?_;refine aw_ret ?_;subst hR;exact res_c rfl (rv_g rfl)
    ·replace h4 : ((!(((decide (97 ≤ (y3.toNat : Int))) && (decide ((y3.toNat : Int) ≤ 122))) || ((decide (65 ≤ (y3.toNat : Int))) && (decide ((y3.toNat : Int) ≤ 90))))) && ((decide (((k2 : Nat) : Int) = 0)) || ((decide ((y3.toNat : Int) ≠ 95)) && ((decide ((y3.toNat : Int) < 48)) || (decide (57 < (y3.toNat : Int))))))) = false := h4;replace hR := condF hR h4;(try simp only [Bool.or_eq_true, Bool.and_eq_true, Bool.or_eq_false_iff, Bool.and_eq_false_iff, Bool.not_eq_true', Bool.not_eq_false', decide_eq_true_eq, decide_eq_false_iff_not] at h4);refine aw_skip ?_;refine aw_region [.p, .p, .p] ?_;refine st rfl rfl (eff_moveg rfl rfl) rfl ?_;refine st rfl rfl (eff_add rfl rfl rfl (by unfold I64; omega)) rfl ?_;refine st rfl rfl (eff_assigng rfl rfl) rfl ?_;refine st_nil ?_;exact ⟨rfl, (k2 + 1, t4), ⟨rfl, rfl, trivial⟩, trivial, rfl, ⟨hd, hR⟩, by simp⟩
   ·replace h2 : (decide (((k2 : Nat) : Int) < (ByteArray.size a0 : Int))) = false := h2;obtain rfl := drop_nilB hd (decF h2);rw [s91_l1] at hR;refine aw_exit ?_;refine aw_seq ?_;refine aw_region [.p] ?_;refine st rfl rfl (eff_assigng rfl rfl) rfl ?_;refine st_nil ?_;refine aw_ret ?_;subst hR;exact res_c rfl (rv_g rfl)
def s1093 (a0 : ByteArray) : Int :=
 (bif (!decide (a0 = (⟨#[]⟩))) && (!(s91 a0)) then 1 else 0)
theorem c1093 {g : List (Nat × List Value)} (a0 : ByteArray)    : Con (EG g) 93 [G.str a0] (G.int (s1093 a0)) := by
 generalize hR : s1093 a0 = R;unfold s1093 at hR;refine con_of_aw Tryz.func93 rfl rfl fun w0 M0 => ?_;refine aw_seq ?_;refine aw_region [.p] ?_;refine st rfl rfl (eff_assigng rfl rfl) rfl ?_;refine st_nil ?_;refine aw_seq ?_;refine aw_seq ?_;refine aw_region [.p, .p, .p, .p, .p, .p, .p] ?_;refine st rfl rfl (eff_moveg rfl rfl) rfl ?_;refine st rfl rfl (eff_sne rfl rfl rfl) rfl ?_;refine st rfl rfl (eff_moveg rfl rfl) rfl ?_;refine st_g rfl rfl rfl (gb_bool _ _) (fun h => eff_moveg rfl rfl) rfl ?_;refine st_g rfl rfl rfl (gb_bool _ _) (fun h => eff_call rfl K91 rfl (c91 a0) (ag_cons (gd h rfl) ag_nil)) rfl ?_;refine st_g rfl rfl rfl (gb_bool _ _) (fun h => eff_not rfl (gd h rfl)) rfl ?_;refine st rfl rfl (eff_and rfl rfl rfl rfl) rfl ?_;refine st_nil ?_;refine aw_cond _ rfl (fun h1 => ?_) (fun h1 => ?_)
 ·replace h1 : ((!decide (a0 = (⟨#[]⟩))) && (!(s91 a0))) = true := h1;replace hR := condT hR h1;(try simp only [Bool.or_eq_true, Bool.and_eq_true, Bool.or_eq_false_iff, Bool.and_eq_false_iff, Bool.not_eq_true', Bool.not_eq_false', decide_eq_true_eq, decide_eq_false_iff_not] at h1);refine aw_seq ?_;refine aw_region [.p] ?_;refine st rfl rfl (eff_assigng rfl rfl) rfl ?_;refine st_nil ?_;refine aw_ret ?_;subst hR;exact res_c rfl (rv_g rfl)
 ·replace h1 : ((!decide (a0 = (⟨#[]⟩))) && (!(s91 a0))) = false := h1;replace hR := condF hR h1;(try simp only [Bool.or_eq_true, Bool.and_eq_true, Bool.or_eq_false_iff, Bool.and_eq_false_iff, Bool.not_eq_true', Bool.not_eq_false', decide_eq_true_eq, decide_eq_false_iff_not] at h1);refine aw_skip ?_;refine aw_seq ?_;refine aw_region [.p] ?_;refine st rfl rfl (eff_assigng rfl rfl) rfl ?_;refine st_nil ?_;refine aw_ret ?_;subst hR;exact res_c rfl (rv_g rfl)
def s147_l1  : List (Int × Int) → Bool
 | [] => true
 | y2 :: t3 => (bif (!(((decide (65 ≤ y2.2)) && (decide (y2.2 ≤ 90))) || ((decide (97 ≤ y2.2)) && (decide (y2.2 ≤ 122))))) && ((decide (y2.1 = 0)) || ((decide (y2.2 ≠ 95)) && ((decide (y2.2 < 48)) || (decide (57 < y2.2))))) then false else s147_l1 t3)
def s147 (a0 : ByteArray) : Bool :=
 (bif (decide ((ByteArray.size a0 : Int) = 0)) || (decide (24 < (ByteArray.size a0 : Int))) then false else s147_l1 (runes a0))
theorem c147 {g : List (Nat × List Value)} (a0 : ByteArray)    : Con (EG g) 87 [G.str a0] (G.bool (s147 a0)) := by
 generalize hR : s147 a0 = R;unfold s147 at hR;refine con_of_aw Tryz.func87 rfl rfl fun w0 M0 => ?_;refine aw_seq ?_;refine aw_region [.p] ?_;refine st rfl rfl (eff_assigng rfl rfl) rfl ?_;refine st_nil ?_;refine aw_seq ?_;refine aw_seq ?_;refine aw_region [.p, .p, .p, .p, .p, .p, .p, .p] ?_;refine st rfl rfl (eff_moveg rfl rfl) rfl ?_;refine st rfl rfl (eff_lenS rfl Tryz.underlying9 rfl) rfl ?_;refine st rfl rfl (eff_eql rfl rfl rfl) rfl ?_;refine st rfl rfl (eff_moveg rfl rfl) rfl ?_;refine st_g rfl rfl rfl (gb_bool _ _) (fun h => eff_moveg rfl rfl) rfl ?_;refine st_g rfl rfl rfl (gb_bool _ _) (fun h => eff_lenS rfl Tryz.underlying9 (gd h rfl)) rfl ?_;refine st_g rfl rfl rfl (gb_bool _ _) (fun h => eff_gtr rfl (gd h rfl) rfl) rfl ?_;refine st rfl rfl (eff_or rfl rfl rfl rfl) rfl ?_;refine st_nil ?_;refine aw_cond _ rfl (fun h1 => ?_) (fun h1 => ?_)
 ·replace h1 : ((decide ((ByteArray.size a0 : Int) = 0)) || (decide (24 < (ByteArray.size a0 : Int)))) = true := h1;replace hR := condT hR h1;(try simp only [Bool.or_eq_true, Bool.and_eq_true, Bool.or_eq_false_iff, Bool.and_eq_false_iff, Bool.not_eq_true', Bool.not_eq_false', decide_eq_true_eq, decide_eq_false_iff_not] at h1);refine aw_seq ?_;refine aw_region [.p] ?_;refine st rfl rfl (eff_assigng rfl rfl) rfl ?_;refine st_nil ?_;refine aw_ret ?_;subst hR;exact res_c rfl (rv_g rfl)
 ·replace h1 : ((decide ((ByteArray.size a0 : Int) = 0)) || (decide (24 < (ByteArray.size a0 : Int)))) = false := h1;replace hR := condF hR h1;(try simp only [Bool.or_eq_true, Bool.and_eq_true, Bool.or_eq_false_iff, Bool.and_eq_false_iff, Bool.not_eq_true', Bool.not_eq_false', decide_eq_true_eq, decide_eq_false_iff_not] at h1);refine aw_skip ?_;refine aw_seq ?_;refine aw_seq ?_;refine aw_region [.p, .w] ?_;refine st rfl rfl (eff_moveg rfl rfl) rfl ?_;refine st_w rfl rfl (eff_rangeS 15 rfl Tryz.underlying9 rfl rfl) rfl ?_;refine st_nil ?_;refine aw_block ?_;refine aw_loop_g (γ := Nat × (List (Int × Int))) (fun g => ([(15, .ptr 15 0)], [(15, .it a0 g.1)])) (fun g => RunesAt a0 g.1 g.2 ∧ s147_l1 g.2 = R) (fun g => List.length g.2) ⟨rfl, (0, runes a0), ⟨rfl, trivial⟩, ⟨rfl, trivial⟩, rfl, ⟨runesAt_start _, hR⟩, trivial⟩ ?_
  ·rintro ⟨p1, t3⟩ ⟨hP, hR⟩;replace hP : RunesAt a0 p1 t3 := hP;replace hR : s147_l1 t3 = R := hR
   cases t3 with
   | nil =>
    rw [s147_l1] at hR;refine aw_seq ?_;refine aw_region [.r, .p] ?_;refine st_r rfl rfl (eff_nextE rfl rfl rfl (runesAt_nil hP)) rfl ?_;refine st rfl rfl (eff_extract rfl rfl rfl) rfl ?_;refine st_nil ?_;refine aw_seq ?_;refine aw_cond _ rfl (fun h2 => ?_) (fun h2 => ?_)
    ·exact Bool.noConfusion h2
    ·refine aw_exit ?_;refine aw_seq ?_;refine aw_region [.p] ?_;refine st rfl rfl (eff_assigng rfl rfl) rfl ?_;refine st_nil ?_;refine aw_ret ?_;subst hR;exact res_c rfl (rv_g rfl)
   | cons y2 t3 =>
    obtain ⟨hlt, hy, hP⟩ := runesAt_cons hP;rw [s147_l1] at hR;refine aw_seq ?_;refine aw_region [.w, .p] ?_;refine st_w rfl rfl (eff_nextY (y := y2) rfl rfl rfl hlt hy) rfl ?_;refine st rfl rfl (eff_extract rfl rfl rfl) rfl ?_;refine st_nil ?_;refine aw_seq ?_;refine aw_cond _ rfl (fun h3 => ?_) (fun h3 => ?_)
    ·refine aw_skip ?_;refine aw_block ?_;refine aw_seq ?_;refine aw_region [.p, .p, .p, .p] ?_;refine st rfl rfl (eff_extract rfl rfl rfl) rfl ?_;refine st rfl rfl (eff_extract rfl rfl rfl) rfl ?_;refine st rfl rfl (eff_assigng rfl rfl) rfl ?_;refine st rfl rfl (eff_assigng rfl rfl) rfl ?_;refine st_nil ?_;refine aw_seq ?_;refine aw_region [.p, .p, .p, .p, .p, .p, .p, .p, .p, .p, .p, .p, .p, .p, .p] ?_;refine st rfl rfl (eff_moveg rfl rfl) rfl ?_;refine st rfl rfl (eff_geq rfl rfl rfl) rfl ?_;refine st rfl rfl (eff_moveg rfl rfl) rfl ?_;refine st_g rfl rfl rfl (gb_bool _ _) (fun h => eff_moveg rfl rfl) rfl ?_;refine st_g rfl rfl rfl (gb_bool _ _) (fun h => eff_leq rfl (gd h rfl) rfl) rfl ?_;refine st rfl rfl (eff_and rfl rfl rfl rfl) rfl ?_;refine st rfl rfl (eff_moveg rfl rfl) rfl ?_;refine st_g rfl rfl rfl (gb_bool _ _) (fun h => eff_moveg rfl rfl) rfl ?_;refine st_g rfl rfl rfl (gb_bool _ _) (fun h => eff_geq rfl (gd h rfl) rfl) rfl ?_;refine st_g rfl rfl rfl (gb_bool _ _) (fun h => eff_moveg rfl (gd h rfl)) rfl ?_;refine st_g rfl rfl rfl (gb_if _ _ _) (fun h => eff_moveg rfl rfl) rfl ?_;refine st_g rfl rfl rfl (gb_if _ _ _) (fun h => eff_leq rfl (gd h rfl) rfl) rfl ?_;refine st_g rfl rfl rfl (gb_bool _ _) (fun h => eff_and rfl (gd h rfl) rfl (gd2 h rfl)) rfl ?_;refine st rfl rfl (eff_or rfl rfl rfl rfl) rfl ?_;refine st rfl rfl (eff_assigng rfl rfl) rfl ?_;refine st_nil ?_;refine aw_seq ?_;refine aw_region [.p, .p, .p, .p, .p, .p, .p, .p, .p, .p, .p, .p, .p, .p, .p, .p, .p, .p] ?_;refine st rfl rfl (eff_moveg rfl rfl) rfl ?_;refine st rfl rfl (eff_not rfl rfl) rfl ?_;refine st rfl rfl (eff_moveg rfl rfl) rfl ?_;refine st_g rfl rfl rfl (gb_bool _ _) (fun h => eff_moveg rfl rfl) rfl ?_;refine st_g rfl rfl rfl (gb_bool _ _) (fun h => eff_eql rfl (gd h rfl) rfl) rfl ?_;refine st_g rfl rfl rfl (gb_bool _ _) (fun h => eff_moveg rfl (gd h rfl)) rfl ?_;refine st_g rfl rfl rfl (gb_if _ _ _) (fun h => eff_moveg rfl rfl) rfl ?_;refine st_g rfl rfl rfl (gb_if _ _ _) (fun h => eff_neq rfl (gd h rfl) rfl) rfl ?_;refine st_g rfl rfl rfl (gb_if _ _ _) (fun h => eff_moveg rfl (gd h rfl)) rfl ?_;refine st_g rfl rfl rfl (gb_if _ _ _) (fun h => eff_moveg rfl rfl) rfl ?_;refine st_g rfl rfl rfl (gb_if _ _ _) (fun h => eff_lss rfl (gd h rfl) rfl) rfl ?_;refine st_g rfl rfl rfl (gb_if _ _ _) (fun h => eff_moveg rfl (gd h rfl)) rfl ?_;refine st_g rfl rfl rfl (gb_if _ _ _) (fun h => eff_moveg rfl rfl) rfl ?_;refine st_g rfl rfl rfl (gb_if _ _ _) (fun h => eff_gtr rfl (gd h rfl) rfl) rfl ?_;refine st_g rfl rfl rfl (gb_if _ _ _) (fun h => eff_or rfl (gd h rfl) rfl (gd2 h rfl)) rfl ?_;refine st_g rfl rfl rfl (gb_if _ _ _) (fun h => eff_and rfl (gd h rfl) rfl (gd2 h rfl)) rfl ?_;refine st_g rfl rfl rfl (gb_bool _ _) (fun h => eff_or rfl (gd h rfl) rfl (gd2 h rfl)) rfl ?_;refine st rfl rfl (eff_and rfl rfl rfl rfl) rfl ?_;refine st_nil ?_;refine aw_cond _ rfl (fun h4 => ?_) (fun h4 => ?_)
     ·replace h4 : ((!(((decide (65 ≤ y2.2)) && (decide (y2.2 ≤ 90))) || ((decide (97 ≤ y2.2)) && (decide (y2.2 ≤ 122))))) && ((decide (y2.1 = 0)) || ((decide (y2.2 ≠ 95)) && ((decide (y2.2 < 48)) || (decide (57 < y2.2)))))) = true := h4;replace hR := condT hR h4;(try simp only [Bool.or_eq_true, Bool.and_eq_true, Bool.or_eq_false_iff, Bool.and_eq_false_iff, Bool.not_eq_true', Bool.not_eq_false', decide_eq_true_eq, decide_eq_false_iff_not] at h4);refine aw_seq ?_;refine aw_region [.p] ?_;refine st rfl rfl (eff_assigng rfl rfl) rfl ?_;refine st_nil ?_;refine aw_ret ?_;subst hR;exact res_c rfl (rv_g rfl)
     ·replace h4 : ((!(((decide (65 ≤ y2.2)) && (decide (y2.2 ≤ 90))) || ((decide (97 ≤ y2.2)) && (decide (y2.2 ≤ 122))))) && ((decide (y2.1 = 0)) || ((decide (y2.2 ≠ 95)) && ((decide (y2.2 < 48)) || (decide (57 < y2.2)))))) = false := h4;replace hR := condF hR h4;(try simp only [Bool.or_eq_true, Bool.and_eq_true, Bool.or_eq_false_iff, Bool.and_eq_false_iff, Bool.not_eq_true', Bool.not_eq_false', decide_eq_true_eq, decide_eq_false_iff_not] at h4);refine aw_skip ?_;exact ⟨rfl, ((p1 + (Utf8.decode a0 p1).2), t3), ⟨rfl, trivial⟩, ⟨rfl, trivial⟩, rfl, ⟨hP, hR⟩, by simp⟩
    ·exact Bool.noConfusion h3
def s1089 (a0 : ByteArray) : Int :=
 (s1086 ((!decide (a0 = (⟨#[]⟩))) && (!(s147 a0))) 1)
theorem c1089 {g : List (Nat × List Value)} (a0 : ByteArray)    : Con (EG g) 89 [G.str a0] (G.int (s1089 a0)) := by
 generalize hR : s1089 a0 = R;unfold s1089 at hR;refine con_of_aw Tryz.func89 rfl rfl fun w0 M0 => ?_;refine aw_seq ?_;refine aw_region [.p] ?_;refine st rfl rfl (eff_assigng rfl rfl) rfl ?_;refine st_nil ?_;refine aw_seq ?_;refine aw_region [.p, .p, .p, .p, .p, .p, .p, .p, .p] ?_;refine st rfl rfl (eff_moveg rfl rfl) rfl ?_;refine st rfl rfl (eff_sne rfl rfl rfl) rfl ?_;refine st rfl rfl (eff_moveg rfl rfl) rfl ?_;refine st_g rfl rfl rfl (gb_bool _ _) (fun h => eff_moveg rfl rfl) rfl ?_;refine st_g rfl rfl rfl (gb_bool _ _) (fun h => eff_call rfl K147 rfl (c147 a0) (ag_cons (gd h rfl) ag_nil)) rfl ?_;refine st_g rfl rfl rfl (gb_bool _ _) (fun h => eff_not rfl (gd h rfl)) rfl ?_;refine st rfl rfl (eff_and rfl rfl rfl rfl) rfl ?_;refine st rfl rfl (eff_call rfl K1086 rfl (c1086 ((!decide (a0 = (⟨#[]⟩))) && (!(s147 a0))) 1) (ag_cons rfl (ag_cons rfl ag_nil))) rfl ?_;refine st rfl rfl (eff_assigng rfl rfl) rfl ?_;refine st_nil ?_;refine aw_ret ?_;subst hR;exact res_c rfl (rv_g rfl)
def s1092 (a0 : Int) : Int :=
 (s90 a0 1 9)
theorem c1092 {g : List (Nat × List Value)} (a0 : Int)    : Con (EG g) 92 [G.int a0] (G.int (s1092 a0)) := by
 generalize hR : s1092 a0 = R;unfold s1092 at hR;refine con_of_aw Tryz.func92 rfl rfl fun w0 M0 => ?_;refine aw_seq ?_;refine aw_region [.p] ?_;refine st rfl rfl (eff_assigng rfl rfl) rfl ?_;refine st_nil ?_;refine aw_seq ?_;refine aw_region [.p, .p, .p] ?_;refine st rfl rfl (eff_moveg rfl rfl) rfl ?_;refine st rfl rfl (eff_call rfl K90 rfl (c90 a0 1 9) (ag_cons rfl (ag_cons rfl (ag_cons rfl ag_nil)))) rfl ?_;refine st rfl rfl (eff_assigng rfl rfl) rfl ?_;refine st_nil ?_;refine aw_ret ?_;subst hR;exact res_c rfl (rv_g rfl)
def s1028_j1 (rec1 : Nat → Int) (k2 : Nat) (x6 : Int) : Int :=
 (bif decide (x6 ≠ 0) then x6 else rec1 (k2 + 1))
def s1028_j2 (rec1 : Nat → Int) (k2 : Nat) (y3 : S1079) (x5 : Int) : Int :=
 (bif (decide ((s89 [x5, (s1093 y3.Terminal), (s90 y3.Seats 0 999), (s1092 y3.Size), (s90 y3.Noise 0 99)]) = 0)) && (!(s91 y3.Name)) then s1028_j1 rec1 k2 8 else s1028_j1 rec1 k2 (s89 [x5, (s1093 y3.Terminal), (s90 y3.Seats 0 999), (s1092 y3.Size), (s90 y3.Noise 0 99)]))
def s1028_l1  : List S1079 → Nat → Int
 | [], k2 => 0
 | y3 :: t4, k2 => (bif ((decide ((s96 y3.Moment) = 0)) && (!decide (y3.Kind = (⟨#[65]⟩)))) && (!decide (y3.Kind = (⟨#[68]⟩))) then s1028_j2 (fun k_ => s1028_l1  t4 k_) k2 y3 13 else s1028_j2 (fun k_ => s1028_l1  t4 k_) k2 y3 (s96 y3.Moment))
def s1028 (a0 : List S1079) : Int :=
 (bif decide (256 < (List.length a0 : Int)) then 5 else s1028_l1 a0 0)
theorem c1028 {g : List (Nat × List Value)} (a0 : List S1079)    : Con (EG g) 28 [G.sl 7 (List.map S1079.c a0)] (G.int (s1028 a0)) := by
 generalize hR : s1028 a0 = R;unfold s1028 at hR;refine con_of_aw Tryz.func28 rfl rfl fun w0 M0 => ?_;refine len_sl (f := S1079.c) (l := a0) 0 rfl fun hla0 => ?_;refine aw_seq ?_;refine aw_region [.p] ?_;refine st rfl rfl (eff_assigng rfl rfl) rfl ?_;refine st_nil ?_;refine aw_seq ?_;refine aw_seq ?_;refine aw_region [.p, .p, .p] ?_;refine st rfl rfl (eff_moveg rfl rfl) rfl ?_;refine st rfl rfl (eff_lenM (f := S1079.c) (l := a0) rfl Tryz.underlying25 rfl) rfl ?_;refine st rfl rfl (eff_gtr rfl rfl rfl) rfl ?_;refine st_nil ?_;refine aw_cond _ rfl (fun h1 => ?_) (fun h1 => ?_)
 ·replace h1 : (decide (256 < (List.length a0 : Int))) = true := h1;replace hR := condT hR h1;(try simp only [Bool.or_eq_true, Bool.and_eq_true, Bool.or_eq_false_iff, Bool.and_eq_false_iff, Bool.not_eq_true', Bool.not_eq_false', decide_eq_true_eq, decide_eq_false_iff_not] at h1);refine aw_seq ?_;refine aw_region [.p] ?_;refine st rfl rfl (eff_assigng rfl rfl) rfl ?_;refine st_nil ?_;refine aw_ret ?_;subst hR;exact res_c rfl (rv_g rfl)
 ·replace h1 : (decide (256 < (List.length a0 : Int))) = false := h1;replace hR := condF hR h1;(try simp only [Bool.or_eq_true, Bool.and_eq_true, Bool.or_eq_false_iff, Bool.and_eq_false_iff, Bool.not_eq_true', Bool.not_eq_false', decide_eq_true_eq, decide_eq_false_iff_not] at h1);refine aw_skip ?_;refine aw_seq ?_;refine aw_seq ?_;refine aw_region [.p] ?_;refine st rfl rfl (eff_assigng rfl rfl) rfl ?_;refine st_nil ?_;refine aw_block ?_;refine aw_loop_g (γ := Nat × (List S1079)) (fun g => ([(0, .g (G.sl 7 (List.map S1079.c a0))), (3, .g (G.int ((g.1 : Nat) : Int)))], [])) (fun g => a0.drop g.1 = g.2 ∧ s1028_l1  g.2 g.1 = R) (fun g => List.length g.2) ⟨rfl, (0, a0), ⟨rfl, rfl, trivial⟩, trivial, rfl, ⟨rfl, hR⟩, trivial⟩ ?_
  ·rintro ⟨k2, t4⟩ ⟨hd, hR⟩;replace hd : a0.drop k2 = t4 := hd;replace hR : s1028_l1  t4 k2 = R := hR;refine aw_seq ?_;refine aw_seq ?_;refine aw_region [.p, .p, .p, .p] ?_;refine st rfl rfl (eff_moveg rfl rfl) rfl ?_;refine st rfl rfl (eff_moveg rfl rfl) rfl ?_;refine st rfl rfl (eff_lenM (f := S1079.c) (l := a0) rfl Tryz.underlying25 rfl) rfl ?_;refine st rfl rfl (eff_lss rfl rfl rfl) rfl ?_;refine st_nil ?_;refine len_sl (f := S1079.c) (l := a0) 0 rfl fun hlz1 => ?_;refine aw_cond _ rfl (fun h2 => ?_) (fun h2 => ?_)
   ·replace h2 : (decide (((k2 : Nat) : Int) < (List.length a0 : Int))) = true := h2;obtain ⟨y3, t4, rfl, hx1, hd⟩ := drop_cons hd (decT h2);replace h2 := decT h2;rw [s1028_l1] at hR;(try dsimp only at hR);refine aw_skip ?_;refine aw_seq ?_;refine aw_block ?_;refine aw_seq ?_;refine aw_region [.p, .p, .p, .p, .p, .p, .p] ?_;refine st rfl rfl (eff_moveg rfl rfl) rfl ?_;refine st rfl rfl (eff_moveg rfl rfl) rfl ?_;refine st rfl rfl (eff_ix (f := S1079.c) (l := a0) (a := y3) rfl Tryz.underlying25 ty1080 rfl rfl (Int.natCast_nonneg _) hx1) rfl ?_;refine st rfl rfl (eff_fieldAddr rfl fl1080_0 rfl) rfl ?_;refine st rfl rfl (eff_load rfl ty3 rfl) rfl ?_;refine st rfl rfl (eff_call rfl K96 rfl (c96 y3.Moment) (ag_cons rfl ag_nil)) rfl ?_;refine st rfl rfl (eff_assigng rfl rfl) rfl ?_;refine st_nil ?_;refine aw_cut_g (γ := Int) (fun g => ([(0, .g (G.sl 7 (List.map S1079.c a0))), (3, .g (G.int ((k2 : Nat) : Int))), (4, .g (G.int g))], [])) (fun g => s1028_j2 (fun k_ => s1028_l1  t4 k_) k2 y3 g = R) ?_ ?_
    ·refine aw_seq ?_;refine aw_region [.p, .p, .p, .p, .p, .p, .p, .p, .p, .p, .p, .p, .p, .p, .p, .p, .p, .p] ?_;refine st rfl rfl (eff_moveg rfl rfl) rfl ?_;refine st rfl rfl (eff_eql rfl rfl rfl) rfl ?_;refine st rfl rfl (eff_moveg rfl rfl) rfl ?_;refine st_g rfl rfl rfl (gb_bool _ _) (fun h => eff_moveg rfl rfl) rfl ?_;refine st_g rfl rfl rfl (gb_bool _ _) (fun h => eff_moveg rfl rfl) rfl ?_;refine st_g rfl rfl rfl (gb_bool _ _) (fun h => eff_ix (f := S1079.c) (l := a0) (a := y3) rfl Tryz.underlying25 ty1080 (gd h rfl) (gd h rfl) (Int.natCast_nonneg _) hx1) rfl ?_;refine st_g rfl rfl rfl (gb_bool _ _) (fun h => eff_fieldAddr rfl fl1080_1 (gd h rfl)) rfl ?_;refine st_g rfl rfl rfl (gb_bool _ _) (fun h => eff_load rfl ty9 (gd h rfl)) rfl ?_;refine st_g rfl rfl rfl (gb_bool _ _) (fun h => eff_sne rfl (gd h rfl) rfl) rfl ?_;refine st rfl rfl (eff_and rfl rfl rfl rfl) rfl ?_;refine st rfl rfl (eff_moveg rfl rfl) rfl ?_;refine st_g rfl rfl rfl (gb_bool _ _) (fun h => eff_moveg rfl rfl) rfl ?_;refine st_g rfl rfl rfl (gb_bool _ _) (fun h => eff_moveg rfl rfl) rfl ?_;refine st_g rfl rfl rfl (gb_bool _ _) (fun h => eff_ix (f := S1079.c) (l := a0) (a := y3) rfl Tryz.underlying25 ty1080 (gd h rfl) (gd h rfl) (Int.natCast_nonneg _) hx1) rfl ?_;refine st_g rfl rfl rfl (gb_bool _ _) (fun h => eff_fieldAddr rfl fl1080_1 (gd h rfl)) rfl ?_;refine st_g rfl rfl rfl (gb_bool _ _) (fun h => eff_load rfl ty9 (gd h rfl)) rfl ?_;refine st_g rfl rfl rfl (gb_bool _ _) (fun h => eff_sne rfl (gd h rfl) rfl) rfl ?_;refine st rfl rfl (eff_and rfl rfl rfl rfl) rfl ?_;refine st_nil ?_;refine aw_cond _ rfl (fun h6 => ?_) (fun h6 => ?_)
     ·replace h6 : (((decide ((s96 y3.Moment) = 0)) && (!decide (y3.Kind = (⟨#[65]⟩)))) && (!decide (y3.Kind = (⟨#[68]⟩)))) = true := h6;replace hR := condT hR h6;(try simp only [Bool.or_eq_true, Bool.and_eq_true, Bool.or_eq_false_iff, Bool.and_eq_false_iff, Bool.not_eq_true', Bool.not_eq_false', decide_eq_true_eq, decide_eq_false_iff_not] at h6);refine aw_region [.p] ?_;refine st rfl rfl (eff_assigng rfl rfl) rfl ?_;refine st_nil ?_;exact ⟨rfl, 13, ⟨rfl, rfl, rfl, trivial⟩, trivial, rfl, hR, trivial⟩
     ·replace h6 : (((decide ((s96 y3.Moment) = 0)) && (!decide (y3.Kind = (⟨#[65]⟩)))) && (!decide (y3.Kind = (⟨#[68]⟩)))) = false := h6;replace hR := condF hR h6;(try simp only [Bool.or_eq_true, Bool.and_eq_true, Bool.or_eq_false_iff, Bool.and_eq_false_iff, Bool.not_eq_true', Bool.not_eq_false', decide_eq_true_eq, decide_eq_false_iff_not] at h6);refine aw_skip ?_;exact ⟨rfl, (s96 y3.Moment), ⟨rfl, rfl, rfl, trivial⟩, trivial, rfl, hR, trivial⟩
    ·rintro x5 hR;replace hR : s1028_j2 (fun k_ => s1028_l1  t4 k_) k2 y3 x5 = R := hR;unfold s1028_j2 at hR;refine aw_seq ?_;refine aw_draw [.p, .p, .p, .p, .p, .p, .p, .p, .p, .p, .p, .p, .p, .p, .p, .p, .p, .p, .p, .p, .p, .p, .p, .p, .p, .p, .p, .p] (by kernel_rfl) ?_;refine st rfl rfl (eff_moveg rfl rfl) rfl ?_;refine st rfl rfl (eff_moveg rfl rfl) rfl ?_;refine st rfl rfl (eff_moveg rfl rfl) rfl ?_;refine st rfl rfl (eff_ix (f := S1079.c) (l := a0) (a := y3) rfl Tryz.underlying25 ty1080 rfl rfl (Int.natCast_nonneg _) hx1) rfl ?_;refine st rfl rfl (eff_fieldAddr rfl fl1080_2 rfl) rfl ?_;refine st rfl rfl (eff_load rfl ty9 rfl) rfl ?_;refine st rfl rfl (eff_call rfl K1093 rfl (c1093 y3.Terminal) (ag_cons rfl ag_nil)) rfl ?_;refine st rfl rfl (eff_moveg rfl rfl) rfl ?_;refine st rfl rfl (eff_moveg rfl rfl) rfl ?_;refine st rfl rfl (eff_ix (f := S1079.c) (l := a0) (a := y3) rfl Tryz.underlying25 ty1080 rfl rfl (Int.natCast_nonneg _) hx1) rfl ?_;refine st rfl rfl (eff_fieldAddr rfl fl1080_3 rfl) rfl ?_;refine st rfl rfl (eff_load rfl ty3 rfl) rfl ?_;refine st rfl rfl (eff_call rfl K90 rfl (c90 y3.Seats 0 999) (ag_cons rfl (ag_cons rfl (ag_cons rfl ag_nil)))) rfl ?_;refine st rfl rfl (eff_moveg rfl rfl) rfl ?_;refine st rfl rfl (eff_moveg rfl rfl) rfl ?_;refine st rfl rfl (eff_ix (f := S1079.c) (l := a0) (a := y3) rfl Tryz.underlying25 ty1080 rfl rfl (Int.natCast_nonneg _) hx1) rfl ?_;refine st rfl rfl (eff_fieldAddr rfl fl1080_4 rfl) rfl ?_;refine st rfl rfl (eff_load rfl ty3 rfl) rfl ?_;refine st rfl rfl (eff_call rfl K1092 rfl (c1092 y3.Size) (ag_cons rfl ag_nil)) rfl ?_;refine st rfl rfl (eff_moveg rfl rfl) rfl ?_;refine st rfl rfl (eff_moveg rfl rfl) rfl ?_;refine st rfl rfl (eff_ix (f := S1079.c) (l := a0) (a := y3) rfl Tryz.underlying25 ty1080 rfl rfl (Int.natCast_nonneg _) hx1) rfl ?_;refine st rfl rfl (eff_fieldAddr rfl fl1080_5 rfl) rfl ?_;refine st rfl rfl (eff_load rfl ty3 rfl) rfl ?_;refine st rfl rfl (eff_call rfl K90 rfl (c90 y3.Noise 0 99) (ag_cons rfl (ag_cons rfl (ag_cons rfl ag_nil)))) rfl ?_;refine st rfl rfl (eff_buildSlice rfl Tryz.underlying51 ty3 z3 rfl (ps_cons rfl (ps_cons rfl (ps_cons rfl (ps_cons rfl (ps_cons rfl ps_nil))))) rfl (by simp []) (by decide)) rfl ?_;refine st rfl rfl (eff_call rfl K89 rfl (c89 [x5, (s1093 y3.Terminal), (s90 y3.Seats 0 999), (s1092 y3.Size), (s90 y3.Noise 0 99)]) (ag_cons rfl ag_nil)) rfl ?_;refine st rfl rfl (eff_assigng rfl rfl) rfl ?_;refine st_nil ?_;refine aw_cut_g (γ := Int) (fun g => ([(0, .g (G.sl 7 (List.map S1079.c a0))), (3, .g (G.int ((k2 : Nat) : Int))), (4, .g (G.int g))], [])) (fun g => s1028_j1 (fun k_ => s1028_l1  t4 k_) k2 g = R) ?_ ?_
     ·refine aw_seq ?_;refine aw_region [.p, .p, .p, .p, .p, .p, .p, .p, .p, .p, .p] ?_;refine st rfl rfl (eff_moveg rfl rfl) rfl ?_;refine st rfl rfl (eff_eql rfl rfl rfl) rfl ?_;refine st rfl rfl (eff_moveg rfl rfl) rfl ?_;refine st_g rfl rfl rfl (gb_bool _ _) (fun h => eff_moveg rfl rfl) rfl ?_;refine st_g rfl rfl rfl (gb_bool _ _) (fun h => eff_moveg rfl rfl) rfl ?_;refine st_g rfl rfl rfl (gb_bool _ _) (fun h => eff_ix (f := S1079.c) (l := a0) (a := y3) rfl Tryz.underlying25 ty1080 (gd h rfl) (gd h rfl) (Int.natCast_nonneg _) hx1) rfl ?_;refine st_g rfl rfl rfl (gb_bool _ _) (fun h => eff_fieldAddr rfl fl1080_6 (gd h rfl)) rfl ?_;refine st_g rfl rfl rfl (gb_bool _ _) (fun h => eff_load rfl ty9 (gd h rfl)) rfl ?_;refine st_g rfl rfl rfl (gb_bool _ _) (fun h => eff_call rfl K91 rfl (c91 y3.Name) (ag_cons (gd h rfl) ag_nil)) rfl ?_;refine st_g rfl rfl rfl (gb_bool _ _) (fun h => eff_not rfl (gd h rfl)) rfl ?_;refine st rfl rfl (eff_and rfl rfl rfl rfl) rfl ?_;refine st_nil ?_;refine aw_cond _ rfl (fun h5 => ?_) (fun h5 => ?_)
      ·replace h5 : ((decide ((s89 [x5, (s1093 y3.Terminal), (s90 y3.Seats 0 999), (s1092 y3.Size), (s90 y3.Noise 0 99)]) = 0)) && (!(s91 y3.Name))) = true := h5;replace hR := condT hR h5;(try simp only [Bool.or_eq_true, Bool.and_eq_true, Bool.or_eq_false_iff, Bool.and_eq_false_iff, Bool.not_eq_true', Bool.not_eq_false', decide_eq_true_eq, decide_eq_false_iff_not] at h5);refine aw_region [.p] ?_;refine st rfl rfl (eff_assigng rfl rfl) rfl ?_;refine st_nil ?_;exact ⟨rfl, 8, ⟨rfl, rfl, rfl, trivial⟩, trivial, rfl, hR, trivial⟩
      ·replace h5 : ((decide ((s89 [x5, (s1093 y3.Terminal), (s90 y3.Seats 0 999), (s1092 y3.Size), (s90 y3.Noise 0 99)]) = 0)) && (!(s91 y3.Name))) = false := h5;replace hR := condF hR h5;(try simp only [Bool.or_eq_true, Bool.and_eq_true, Bool.or_eq_false_iff, Bool.and_eq_false_iff, Bool.not_eq_true', Bool.not_eq_false', decide_eq_true_eq, decide_eq_false_iff_not] at h5);refine aw_skip ?_;exact ⟨rfl, (s89 [x5, (s1093 y3.Terminal), (s90 y3.Seats 0 999), (s1092 y3.Size), (s90 y3.Noise 0 99)]), ⟨rfl, rfl, rfl, trivial⟩, trivial, rfl, hR, trivial⟩
     ·rintro x6 hR;replace hR : s1028_j1 (fun k_ => s1028_l1  t4 k_) k2 x6 = R := hR;unfold s1028_j1 at hR;refine aw_seq ?_;refine aw_region [.p, .p] ?_;refine st rfl rfl (eff_moveg rfl rfl) rfl ?_;refine st rfl rfl (eff_neq rfl rfl rfl) rfl ?_;refine st_nil ?_;refine aw_cond _ rfl (fun h4 => ?_) (fun h4 => ?_)
      ·replace h4 : (decide (x6 ≠ 0)) = true := h4;replace hR := condT hR h4;(try simp only [Bool.or_eq_true, Bool.and_eq_true, Bool.or_eq_false_iff, Bool.and_eq_false_iff, Bool.not_eq_true', Bool.not_eq_false', decide_eq_true_eq, decide_eq_false_iff_not] at h4);refine aw_seq ?_;refine aw_region [.p, .p] ?_;refine st rfl rfl (eff_moveg rfl rfl) rfl ?_;refine st rfl rfl (eff_assigng rfl rfl) rfl ?_;refine st_nil ?_;refine aw_ret ?_;subst hR;exact res_c rfl (rv_g rfl)
      ·replace h4 : (decide (x6 ≠ 0)) = false := h4;replace hR := condF hR h4;(try simp only [Bool.or_eq_true, Bool.and_eq_true, Bool.or_eq_false_iff, Bool.and_eq_false_iff, Bool.not_eq_true', Bool.not_eq_false', decide_eq_true_eq, decide_eq_false_iff_not] at h4);refine aw_skip ?_;refine aw_region [.p, .p, .p] ?_;refine st rfl rfl (eff_moveg rfl rfl) rfl ?_;refine st rfl rfl (eff_add rfl rfl rfl (by unfold I64; omega)) rfl ?_;refine st rfl rfl (eff_assigng rfl rfl) rfl ?_;refine st_nil ?_;exact ⟨rfl, (k2 + 1, t4), ⟨rfl, rfl, trivial⟩, trivial, rfl, ⟨hd, hR⟩, by simp⟩
   ·replace h2 : (decide (((k2 : Nat) : Int) < (List.length a0 : Int))) = false := h2;obtain rfl := drop_nil hd (decF h2);rw [s1028_l1] at hR;refine aw_exit ?_;refine aw_seq ?_;refine aw_region [.p] ?_;refine st rfl rfl (eff_assigng rfl rfl) rfl ?_;refine st_nil ?_;refine aw_ret ?_;subst hR;exact res_c rfl (rv_g rfl)
def s1099_l1 (a0 : List S1079) (a2 : S1079 → (List S1079) → Int) : List S1079 → Nat → Int
 | [], k2 => 0
 | y3 :: t4, k2 => (bif decide ((a2 y3 (List.take (Int.toNat ((k2 : Nat) : Int)) a0)) ≠ 0) then (a2 y3 (List.take (Int.toNat ((k2 : Nat) : Int)) a0)) else s1099_l1 a0 a2 t4 (k2 + 1))
def s1099 (a0 : List S1079) (a1 : Int) (a2 : S1079 → (List S1079) → Int) : Int :=
 (bif decide (a1 < (List.length a0 : Int)) then 5 else s1099_l1 a0 a2 a0 0)
theorem c1099 {g : List (Nat × List Value)} (a0 : List S1079) (a1 : Int) (a2 : S1079 → (List S1079) → Int) {ca2 : G} {ia2 : FuncId} {ka2 : List G} (ha2 : FnIs ca2 ia2 ka2) (Ka2 : Known Tryz.prog ia2) (Ha2 : ∀ (x0 : S1079) (x1 : List S1079), Con (EG g) ia2 ([G.agg [G.int x0.Moment, G.str x0.Kind, G.str x0.Terminal, G.int x0.Seats, G.int x0.Size, G.int x0.Noise, G.str x0.Name], G.sl 7 (List.map S1079.c x1)] ++ ka2) (G.int (a2 x0 x1)))   : Con (EG g) 99 [G.sl 7 (List.map S1079.c a0), G.int a1, ca2] (G.int (s1099 a0 a1 a2)) := by
 generalize hR : s1099 a0 a1 a2 = R;unfold s1099 at hR;refine con_of_aw Tryz.func99 rfl rfl fun w0 M0 => ?_;refine len_sl (f := S1079.c) (l := a0) 0 rfl fun hla0 => ?_;refine aw_seq ?_;refine aw_region [.p] ?_;refine st rfl rfl (eff_assigng rfl rfl) rfl ?_;refine st_nil ?_;refine aw_seq ?_;refine aw_seq ?_;refine aw_region [.p, .p, .p, .p] ?_;refine st rfl rfl (eff_moveg rfl rfl) rfl ?_;refine st rfl rfl (eff_lenM (f := S1079.c) (l := a0) rfl Tryz.underlying25 rfl) rfl ?_;refine st rfl rfl (eff_moveg rfl rfl) rfl ?_;refine st rfl rfl (eff_gtr rfl rfl rfl) rfl ?_;refine st_nil ?_;refine aw_cond _ rfl (fun h1 => ?_) (fun h1 => ?_)
 ·replace h1 : (decide (a1 < (List.length a0 : Int))) = true := h1;replace hR := condT hR h1;(try simp only [Bool.or_eq_true, Bool.and_eq_true, Bool.or_eq_false_iff, Bool.and_eq_false_iff, Bool.not_eq_true', Bool.not_eq_false', decide_eq_true_eq, decide_eq_false_iff_not] at h1);refine aw_seq ?_;refine aw_region [.p] ?_;refine st rfl rfl (eff_assigng rfl rfl) rfl ?_;refine st_nil ?_;refine aw_ret ?_;subst hR;exact res_c rfl (rv_g rfl)
 ·replace h1 : (decide (a1 < (List.length a0 : Int))) = false := h1;replace hR := condF hR h1;(try simp only [Bool.or_eq_true, Bool.and_eq_true, Bool.or_eq_false_iff, Bool.and_eq_false_iff, Bool.not_eq_true', Bool.not_eq_false', decide_eq_true_eq, decide_eq_false_iff_not] at h1);refine aw_skip ?_;refine aw_seq ?_;refine aw_seq ?_;refine aw_region [.p, .p, .p] ?_;refine st rfl rfl (eff_moveg rfl rfl) rfl ?_;refine st rfl rfl (eff_lenM (f := S1079.c) (l := a0) rfl Tryz.underlying25 rfl) rfl ?_;refine st rfl rfl (eff_moveg rfl rfl) rfl ?_;refine st_nil ?_;refine aw_block ?_;refine aw_loop_g (γ := Nat × (List S1079)) (fun g => ([(0, .g (G.sl 7 (List.map S1079.c a0))), (2, .g (ca2)), (14, .g (G.sl 7 (List.map S1079.c a0))), (15, .g (G.int (List.length a0 : Int))), (16, .g (G.int ((g.1 : Nat) : Int)))], [])) (fun g => a0.drop g.1 = g.2 ∧ s1099_l1 a0 a2 g.2 g.1 = R) (fun g => List.length g.2) ⟨rfl, (0, a0), ⟨rfl, rfl, rfl, rfl, rfl, trivial⟩, trivial, rfl, ⟨rfl, hR⟩, trivial⟩ ?_
  ·rintro ⟨k2, t4⟩ ⟨hd, hR⟩;replace hd : a0.drop k2 = t4 := hd;replace hR : s1099_l1 a0 a2 t4 k2 = R := hR;refine aw_seq ?_;refine aw_region [.p] ?_;refine st rfl rfl (eff_lss rfl rfl rfl) rfl ?_;refine st_nil ?_;refine len_sl (f := S1079.c) (l := a0) 0 rfl fun hlz1 => ?_;refine aw_seq ?_;refine aw_cond _ rfl (fun h2 => ?_) (fun h2 => ?_)
   ·replace h2 : (decide (((k2 : Nat) : Int) < (List.length a0 : Int))) = true := h2;obtain ⟨y3, t4, rfl, hx1, hd⟩ := drop_cons hd (decT h2);replace h2 := decT h2;rw [s1099_l1] at hR;(try dsimp only at hR);refine aw_skip ?_;refine aw_seq ?_;refine aw_block ?_;refine aw_seq ?_;refine aw_region [.p, .p, .p, .w, .p, .w] ?_;refine st rfl rfl (eff_moveg rfl rfl) rfl ?_;refine st rfl rfl (eff_ix (f := S1079.c) (l := a0) (a := y3) rfl Tryz.underlying25 ty1080 rfl rfl (Int.natCast_nonneg _) hx1) rfl ?_;refine st rfl rfl (eff_loadA rfl ty1080 rfl rfl rfl) rfl ?_;refine st_w rfl rfl (eff_alloc 8 rfl z1080 rfl rfl) rfl ?_;refine st rfl rfl (eff_assigng rfl rfl) rfl ?_;refine st_wn rfl rfl (eff_store (tv := .g (G.agg [G.int y3.Moment, G.str y3.Kind, G.str y3.Terminal, G.int y3.Seats, G.int y3.Size, G.int y3.Noise, G.str y3.Name])) rfl ty1080 rfl rfl rfl rfl rfl) ?_;refine st_nil ?_;refine aw_seq ?_;refine aw_draw [.p, .r, .p, .p, .p, .p, .p] (by kernel_rfl) ?_;refine st rfl rfl (eff_moveg rfl rfl) rfl ?_;refine st_r rfl rfl (eff_loadOA rfl ty1080 rfl rfl rfl rfl) rfl ?_;refine st rfl rfl (eff_moveg rfl rfl) rfl ?_;refine st rfl rfl (eff_moveg rfl rfl) rfl ?_;refine st rfl rfl (eff_slG (f := S1079.c) (l := a0) rfl Tryz.underlying25 ty1080 rfl bnd_none (bnd_some rfl (Int.natCast_nonneg _)) (Nat.zero_le _) (le_get hx1)) rfl ?_;refine st rfl rfl (eff_callf rfl ha2 Ka2 rfl (Ha2 y3 (List.take (Int.toNat ((k2 : Nat) : Int)) a0)) (ag_cons rfl (ag_cons rfl ag_nil))) rfl ?_;refine st rfl rfl (eff_assigng rfl rfl) rfl ?_;refine st_nil ?_;refine aw_seq ?_;refine aw_region [.p, .p] ?_;refine st rfl rfl (eff_moveg rfl rfl) rfl ?_;refine st rfl rfl (eff_neq rfl rfl rfl) rfl ?_;refine st_nil ?_;refine aw_cond _ rfl (fun h4 => ?_) (fun h4 => ?_)
    ·replace h4 : (decide ((a2 y3 (List.take (Int.toNat ((k2 : Nat) : Int)) a0)) ≠ 0)) = true := h4;replace hR := condT hR h4;(try simp only [Bool.or_eq_true, Bool.and_eq_true, Bool.or_eq_false_iff, Bool.and_eq_false_iff, Bool.not_eq_true', Bool.not_eq_false', decide_eq_true_eq, decide_eq_false_iff_not] at h4);refine aw_seq ?_;refine aw_region [.p, .p] ?_;refine st rfl rfl (eff_moveg rfl rfl) rfl ?_;refine st rfl rfl (eff_assigng rfl rfl) rfl ?_;refine st_nil ?_;refine aw_ret ?_;subst hR;exact res_c rfl (rv_g rfl)
    ·replace h4 : (decide ((a2 y3 (List.take (Int.toNat ((k2 : Nat) : Int)) a0)) ≠ 0)) = false := h4;replace hR := condF hR h4;(try simp only [Bool.or_eq_true, Bool.and_eq_true, Bool.or_eq_false_iff, Bool.and_eq_false_iff, Bool.not_eq_true', Bool.not_eq_false', decide_eq_true_eq, decide_eq_false_iff_not] at h4);refine aw_skip ?_;refine aw_region [.p, .p] ?_;refine st rfl rfl (eff_add rfl rfl rfl (by unfold I64; omega)) rfl ?_;refine st rfl rfl (eff_moveg rfl rfl) rfl ?_;refine st_nil ?_;exact ⟨rfl, (k2 + 1, t4), ⟨rfl, rfl, rfl, rfl, rfl, trivial⟩, trivial, rfl, ⟨hd, hR⟩, by simp⟩
   ·replace h2 : (decide (((k2 : Nat) : Int) < (List.length a0 : Int))) = false := h2;obtain rfl := drop_nil hd (decF h2);rw [s1099_l1] at hR;refine aw_exit ?_;refine aw_seq ?_;refine aw_region [.p] ?_;refine st rfl rfl (eff_assigng rfl rfl) rfl ?_;refine st_nil ?_;refine aw_ret ?_;subst hR;exact res_c rfl (rv_g rfl)
def s1100 (a0 : S1079) (a1 : List S1079) : Int :=
 (s1085 [(s1098 a0.Moment), (s1086 ((!decide (a0.Kind = (⟨#[65]⟩))) && (!decide (a0.Kind = (⟨#[68]⟩)))) 13), (s1089 a0.Terminal), (s1088 a0.Seats 0 999), (s1088 a0.Size 1 9), (s1088 a0.Noise 0 99), (s1086 (!(s147 a0.Name)) 8)])
theorem c1100 {g : List (Nat × List Value)} (a0 : S1079) (a1 : List S1079)    : Con (EG g) 100 [G.agg [G.int a0.Moment, G.str a0.Kind, G.str a0.Terminal, G.int a0.Seats, G.int a0.Size, G.int a0.Noise, G.str a0.Name], G.sl 7 (List.map S1079.c a1)] (G.int (s1100 a0 a1)) := by
 generalize hR : s1100 a0 a1 = R;unfold s1100 at hR;refine con_of_aw Tryz.func100 rfl rfl fun w0 M0 => ?_;refine len_sl (f := S1079.c) (l := a1) 1 rfl fun hla1 => ?_;refine aw_seq ?_;refine aw_region [.p, .p] ?_;refine st rfl rfl (eff_box rfl rfl) rfl ?_;refine st rfl rfl (eff_assigng rfl rfl) rfl ?_;refine st_nil ?_;refine aw_seq ?_;refine aw_draw [.p, .p, .p, .p, .p, .p, .p, .p, .p, .p, .p, .p, .p, .p, .p, .p, .p, .p, .p, .p, .p, .p, .p, .p, .p, .p, .p, .p, .p, .p, .p, .p] (by kernel_rfl) ?_;refine st rfl rfl (eff_fieldAddr rfl fl1080_0 rfl) rfl ?_;refine st rfl rfl (eff_load rfl ty3 rfl) rfl ?_;refine st rfl rfl (eff_call rfl K1098 rfl (c1098 a0.Moment) (ag_cons rfl ag_nil)) rfl ?_;refine st rfl rfl (eff_fieldAddr rfl fl1080_1 rfl) rfl ?_;refine st rfl rfl (eff_load rfl ty9 rfl) rfl ?_;refine st rfl rfl (eff_sne rfl rfl rfl) rfl ?_;refine st rfl rfl (eff_moveg rfl rfl) rfl ?_;refine st_g rfl rfl rfl (gb_bool _ _) (fun h => eff_fieldAddr rfl fl1080_1 rfl) rfl ?_;refine st_g rfl rfl rfl (gb_bool _ _) (fun h => eff_load rfl ty9 (gd h rfl)) rfl ?_;refine st_g rfl rfl rfl (gb_bool _ _) (fun h => eff_sne rfl (gd h rfl) rfl) rfl ?_;refine st rfl rfl (eff_and rfl rfl rfl rfl) rfl ?_;refine st rfl rfl (eff_call rfl K1086 rfl (c1086 ((!decide (a0.Kind = (⟨#[65]⟩))) && (!decide (a0.Kind = (⟨#[68]⟩)))) 13) (ag_cons rfl (ag_cons rfl ag_nil))) rfl ?_;refine st rfl rfl (eff_fieldAddr rfl fl1080_2 rfl) rfl ?_;refine st rfl rfl (eff_load rfl ty9 rfl) rfl ?_;refine st rfl rfl (eff_call rfl K1089 rfl (c1089 a0.Terminal) (ag_cons rfl ag_nil)) rfl ?_;refine st rfl rfl (eff_fieldAddr rfl fl1080_3 rfl) rfl ?_;refine st rfl rfl (eff_load rfl ty3 rfl) rfl ?_;refine st rfl rfl (eff_call rfl K1088 rfl (c1088 a0.Seats 0 999) (ag_cons rfl (ag_cons rfl (ag_cons rfl ag_nil)))) rfl ?_;refine st rfl rfl (eff_fieldAddr rfl fl1080_4 rfl) rfl ?_;refine st rfl rfl (eff_load rfl ty3 rfl) rfl ?_;refine st rfl rfl (eff_call rfl K1088 rfl (c1088 a0.Size 1 9) (ag_cons rfl (ag_cons rfl (ag_cons rfl ag_nil)))) rfl ?_;refine st rfl rfl (eff_fieldAddr rfl fl1080_5 rfl) rfl ?_;refine st rfl rfl (eff_load rfl ty3 rfl) rfl ?_;refine st rfl rfl (eff_call rfl K1088 rfl (c1088 a0.Noise 0 99) (ag_cons rfl (ag_cons rfl (ag_cons rfl ag_nil)))) rfl ?_;refine st rfl rfl (eff_fieldAddr rfl fl1080_6 rfl) rfl ?_;refine st rfl rfl (eff_load rfl ty9 rfl) rfl ?_;refine st rfl rfl (eff_call rfl K147 rfl (c147 a0.Name) (ag_cons rfl ag_nil)) rfl ?_;refine st rfl rfl (eff_not rfl rfl) rfl ?_;refine st rfl rfl (eff_call rfl K1086 rfl (c1086 (!(s147 a0.Name)) 8) (ag_cons rfl (ag_cons rfl ag_nil))) rfl ?_;refine st rfl rfl (eff_buildSlice rfl Tryz.underlying222 ty37 z37 rfl (ps_cons rfl (ps_cons rfl (ps_cons rfl (ps_cons rfl (ps_cons rfl (ps_cons rfl (ps_cons rfl ps_nil))))))) rfl (by simp []) (by decide)) rfl ?_;refine st rfl rfl (eff_call rfl K1085 rfl (c1085 [(s1098 a0.Moment), (s1086 ((!decide (a0.Kind = (⟨#[65]⟩))) && (!decide (a0.Kind = (⟨#[68]⟩)))) 13), (s1089 a0.Terminal), (s1088 a0.Seats 0 999), (s1088 a0.Size 1 9), (s1088 a0.Noise 0 99), (s1086 (!(s147 a0.Name)) 8)]) (ag_cons rfl ag_nil)) rfl ?_;refine st rfl rfl (eff_assigng rfl rfl) rfl ?_;refine st_nil ?_;refine aw_ret ?_;subst hR;exact res_c rfl (rv_g rfl)
def s1027 (a0 : List S1079) : Int :=
 (s1099 a0 256 s1100)
theorem c1027 {g : List (Nat × List Value)} (a0 : List S1079)    : Con (EG g) 27 [G.sl 7 (List.map S1079.c a0)] (G.int (s1027 a0)) := by
 generalize hR : s1027 a0 = R;unfold s1027 at hR;refine con_of_aw Tryz.func27 rfl rfl fun w0 M0 => ?_;refine len_sl (f := S1079.c) (l := a0) 0 rfl fun hla0 => ?_;refine aw_seq ?_;refine aw_region [.p] ?_;refine st rfl rfl (eff_assigng rfl rfl) rfl ?_;refine st_nil ?_;refine aw_seq ?_;refine aw_region [.p, .p, .p] ?_;refine st rfl rfl (eff_moveg rfl rfl) rfl ?_;refine st rfl rfl (eff_call rfl K1099 rfl (c1099 a0 256 s1100 fnis_lit K1100 (fun x0 x1 => c1100 x0 x1)) (ag_cons rfl (ag_cons rfl (ag_cons rfl ag_nil)))) rfl ?_;refine st rfl rfl (eff_assigng rfl rfl) rfl ?_;refine st_nil ?_;refine aw_ret ?_;subst hR;exact res_c rfl (rv_g rfl)
def s1020_l1  : List S1079 → Nat → Bool
 | [], k2 => true
 | y3 :: t4, k2 => (bif ((decide (60 < (ByteArray.size y3.Name : Int))) || (decide (60 < (ByteArray.size y3.Terminal : Int)))) || (decide (60 < (ByteArray.size y3.Kind : Int))) then false else s1020_l1  t4 (k2 + 1))
def s1020 (a0 : List S1079) (a1 : Int) : Bool :=
 (bif ((decide (a1 < (List.length a0 : Int))) && (decide ((List.length a0 : Int) ≤ 256))) || (decide (258 < (List.length a0 : Int))) then false else s1020_l1 a0 0)
theorem c1020 {g : List (Nat × List Value)} (a0 : List S1079) (a1 : Int)    : Con (EG g) 20 [G.sl 7 (List.map S1079.c a0), G.int a1] (G.bool (s1020 a0 a1)) := by
 generalize hR : s1020 a0 a1 = R;unfold s1020 at hR;refine con_of_aw Tryz.func20 rfl rfl fun w0 M0 => ?_;refine len_sl (f := S1079.c) (l := a0) 0 rfl fun hla0 => ?_;refine aw_seq ?_;refine aw_region [.p] ?_;refine st rfl rfl (eff_assigng rfl rfl) rfl ?_;refine st_nil ?_;refine aw_seq ?_;refine aw_seq ?_;refine aw_region [.p, .p, .p, .p, .p, .p, .p, .p, .p, .p, .p, .p, .p, .p] ?_;refine st rfl rfl (eff_moveg rfl rfl) rfl ?_;refine st rfl rfl (eff_lenM (f := S1079.c) (l := a0) rfl Tryz.underlying25 rfl) rfl ?_;refine st rfl rfl (eff_moveg rfl rfl) rfl ?_;refine st rfl rfl (eff_gtr rfl rfl rfl) rfl ?_;refine st rfl rfl (eff_moveg rfl rfl) rfl ?_;refine st_g rfl rfl rfl (gb_bool _ _) (fun h => eff_moveg rfl rfl) rfl ?_;refine st_g rfl rfl rfl (gb_bool _ _) (fun h => eff_lenM (f := S1079.c) (l := a0) rfl Tryz.underlying25 (gd h rfl)) rfl ?_;refine st_g rfl rfl rfl (gb_bool _ _) (fun h => eff_leq rfl (gd h rfl) rfl) rfl ?_;refine st rfl rfl (eff_and rfl rfl rfl rfl) rfl ?_;refine st rfl rfl (eff_moveg rfl rfl) rfl ?_;refine st_g rfl rfl rfl (gb_bool _ _) (fun h => eff_moveg rfl rfl) rfl ?_;refine st_g rfl rfl rfl (gb_bool _ _) (fun h => eff_lenM (f := S1079.c) (l := a0) rfl Tryz.underlying25 (gd h rfl)) rfl ?_;refine st_g rfl rfl rfl (gb_bool _ _) (fun h => eff_gtr rfl (gd h rfl) rfl) rfl ?_;refine st rfl rfl (eff_or rfl rfl rfl rfl) rfl ?_;refine st_nil ?_;refine aw_cond _ rfl (fun h1 => ?_) (fun h1 => ?_)
 ·replace h1 : (((decide (a1 < (List.length a0 : Int))) && (decide ((List.length a0 : Int) ≤ 256))) || (decide (258 < (List.length a0 : Int)))) = true := h1;replace hR := condT hR h1;(try simp only [Bool.or_eq_true, Bool.and_eq_true, Bool.or_eq_false_iff, Bool.and_eq_false_iff, Bool.not_eq_true', Bool.not_eq_false', decide_eq_true_eq, decide_eq_false_iff_not] at h1);refine aw_seq ?_;refine aw_region [.p] ?_;refine st rfl rfl (eff_assigng rfl rfl) rfl ?_;refine st_nil ?_;refine aw_ret ?_;subst hR;exact res_c rfl (rv_g rfl)
 ·replace h1 : (((decide (a1 < (List.length a0 : Int))) && (decide ((List.length a0 : Int) ≤ 256))) || (decide (258 < (List.length a0 : Int)))) = false := h1;replace hR := condF hR h1;(try simp only [Bool.or_eq_true, Bool.and_eq_true, Bool.or_eq_false_iff, Bool.and_eq_false_iff, Bool.not_eq_true', Bool.not_eq_false', decide_eq_true_eq, decide_eq_false_iff_not] at h1);refine aw_skip ?_;refine aw_seq ?_;refine aw_seq ?_;refine aw_region [.p] ?_;refine st rfl rfl (eff_assigng rfl rfl) rfl ?_;refine st_nil ?_;refine aw_block ?_;refine aw_loop_g (γ := Nat × (List S1079)) (fun g => ([(0, .g (G.sl 7 (List.map S1079.c a0))), (5, .g (G.int ((g.1 : Nat) : Int)))], [])) (fun g => a0.drop g.1 = g.2 ∧ s1020_l1  g.2 g.1 = R) (fun g => List.length g.2) ⟨rfl, (0, a0), ⟨rfl, rfl, trivial⟩, trivial, rfl, ⟨rfl, hR⟩, trivial⟩ ?_
  ·rintro ⟨k2, t4⟩ ⟨hd, hR⟩;replace hd : a0.drop k2 = t4 := hd;replace hR : s1020_l1  t4 k2 = R := hR;refine aw_seq ?_;refine aw_seq ?_;refine aw_region [.p, .p, .p, .p] ?_;refine st rfl rfl (eff_moveg rfl rfl) rfl ?_;refine st rfl rfl (eff_moveg rfl rfl) rfl ?_;refine st rfl rfl (eff_lenM (f := S1079.c) (l := a0) rfl Tryz.underlying25 rfl) rfl ?_;refine st rfl rfl (eff_lss rfl rfl rfl) rfl ?_;refine st_nil ?_;refine len_sl (f := S1079.c) (l := a0) 0 rfl fun hlz1 => ?_;refine aw_cond _ rfl (fun h2 => ?_) (fun h2 => ?_)
   ·replace h2 : (decide (((k2 : Nat) : Int) < (List.length a0 : Int))) = true := h2;obtain ⟨y3, t4, rfl, hx1, hd⟩ := drop_cons hd (decT h2);replace h2 := decT h2;rw [s1020_l1] at hR;(try dsimp only at hR);refine aw_skip ?_;refine aw_seq ?_;refine aw_block ?_;refine aw_seq ?_;refine aw_region [.p, .p, .p, .p, .p, .p, .p, .p, .p, .p, .p, .p, .p, .p, .p, .p, .p, .p, .p, .p, .p, .p, .p, .p, .p] ?_;refine st rfl rfl (eff_moveg rfl rfl) rfl ?_;refine st rfl rfl (eff_moveg rfl rfl) rfl ?_;refine st rfl rfl (eff_ix (f := S1079.c) (l := a0) (a := y3) rfl Tryz.underlying25 ty1080 rfl rfl (Int.natCast_nonneg _) hx1) rfl ?_;refine st rfl rfl (eff_fieldAddr rfl fl1080_6 rfl) rfl ?_;refine st rfl rfl (eff_load rfl ty9 rfl) rfl ?_;refine st rfl rfl (eff_lenS rfl Tryz.underlying9 rfl) rfl ?_;refine st rfl rfl (eff_gtr rfl rfl rfl) rfl ?_;refine st rfl rfl (eff_moveg rfl rfl) rfl ?_;refine st_g rfl rfl rfl (gb_bool _ _) (fun h => eff_moveg rfl rfl) rfl ?_;refine st_g rfl rfl rfl (gb_bool _ _) (fun h => eff_moveg rfl rfl) rfl ?_;refine st_g rfl rfl rfl (gb_bool _ _) (fun h => eff_ix (f := S1079.c) (l := a0) (a := y3) rfl Tryz.underlying25 ty1080 (gd h rfl) (gd h rfl) (Int.natCast_nonneg _) hx1) rfl ?_;refine st_g rfl rfl rfl (gb_bool _ _) (fun h => eff_fieldAddr rfl fl1080_2 (gd h rfl)) rfl ?_;refine st_g rfl rfl rfl (gb_bool _ _) (fun h => eff_load rfl ty9 (gd h rfl)) rfl ?_;refine st_g rfl rfl rfl (gb_bool _ _) (fun h => eff_lenS rfl Tryz.underlying9 (gd h rfl)) rfl ?_;refine st_g rfl rfl rfl (gb_bool _ _) (fun h => eff_gtr rfl (gd h rfl) rfl) rfl ?_;refine st rfl rfl (eff_or rfl rfl rfl rfl) rfl ?_;refine st rfl rfl (eff_moveg rfl rfl) rfl ?_;refine st_g rfl rfl rfl (gb_bool _ _) (fun h => eff_moveg rfl rfl) rfl ?_;refine st_g rfl rfl rfl (gb_bool _ _) (fun h => eff_moveg rfl rfl) rfl ?_;refine st_g rfl rfl rfl (gb_bool _ _) (fun h => eff_ix (f := S1079.c) (l := a0) (a := y3) rfl Tryz.underlying25 ty1080 (gd h rfl) (gd h rfl) (Int.natCast_nonneg _) hx1) rfl ?_;refine st_g rfl rfl rfl (gb_bool _ _) (fun h => eff_fieldAddr rfl fl1080_1 (gd h rfl)) rfl ?_;refine st_g rfl rfl rfl (gb_bool _ _) (fun h => eff_load rfl ty9 (gd h rfl)) rfl ?_;refine st_g rfl rfl rfl (gb_bool _ _) (fun h => eff_lenS rfl Tryz.underlying9 (gd h rfl)) rfl ?_;refine st_g rfl rfl rfl (gb_bool _ _) (fun h => eff_gtr rfl (gd h rfl) rfl) rfl ?_;refine st rfl rfl (eff_or rfl rfl rfl rfl) rfl ?_;refine st_nil ?_;refine aw_cond _ rfl (fun h4 => ?_) (fun h4 => ?_)
    ·replace h4 : (((decide (60 < (ByteArray.size y3.Name : Int))) || (decide (60 < (ByteArray.size y3.Terminal : Int)))) || (decide (60 < (ByteArray.size y3.Kind : Int)))) = true := h4;replace hR := condT hR h4;(try simp only [Bool.or_eq_true, Bool.and_eq_true, Bool.or_eq_false_iff, Bool.and_eq_false_iff, Bool.not_eq_true', Bool.not_eq_false', decide_eq_true_eq, decide_eq_false_iff_not] at h4);refine aw_seq ?_;refine aw_region [.p] ?_;refine st rfl rfl (eff_assigng rfl rfl) rfl ?_;refine st_nil ?_;refine aw_ret ?_;subst hR;exact res_c rfl (rv_g rfl)
    ·replace h4 : (((decide (60 < (ByteArray.size y3.Name : Int))) || (decide (60 < (ByteArray.size y3.Terminal : Int)))) || (decide (60 < (ByteArray.size y3.Kind : Int)))) = false := h4;replace hR := condF hR h4;(try simp only [Bool.or_eq_true, Bool.and_eq_true, Bool.or_eq_false_iff, Bool.and_eq_false_iff, Bool.not_eq_true', Bool.not_eq_false', decide_eq_true_eq, decide_eq_false_iff_not] at h4);refine aw_skip ?_;refine aw_region [.p, .p, .p] ?_;refine st rfl rfl (eff_moveg rfl rfl) rfl ?_;refine st rfl rfl (eff_add rfl rfl rfl (by unfold I64; omega)) rfl ?_;refine st rfl rfl (eff_assigng rfl rfl) rfl ?_;refine st_nil ?_;exact ⟨rfl, (k2 + 1, t4), ⟨rfl, rfl, trivial⟩, trivial, rfl, ⟨hd, hR⟩, by simp⟩
   ·replace h2 : (decide (((k2 : Nat) : Int) < (List.length a0 : Int))) = false := h2;obtain rfl := drop_nil hd (decF h2);rw [s1020_l1] at hR;refine aw_exit ?_;refine aw_seq ?_;refine aw_region [.p] ?_;refine st rfl rfl (eff_assigng rfl rfl) rfl ?_;refine st_nil ?_;refine aw_ret ?_;subst hR;exact res_c rfl (rv_g rfl)
section
variable {E : Env} {w0 : World} {M0 : Nat → Prop}
theorem MFits.get {w : World} {M : Nat → Prop} : ∀ {es : List (Value × G)} {l : List MapEntry} {j : Nat} {e : MapEntry}, MFits w M es l → l[j]? = some e → ∃ k g, es[j]? = some (k, g) ∧ e.key = k ∧ g.p w M e.val
 | [], [], _, _, _, h => by simp at h
 | (k, g) :: _, e' :: _, 0, e, h, he => by
  simp at he; subst he
  exact ⟨k, g, rfl, h.1.1, h.1.2⟩
 | _ :: _, _ :: _, j + 1, e, h, he => by
  obtain ⟨k, g, h1, h2⟩ := MFits.get h.2 (by simpa using he);exact ⟨k, g, by simpa using h1, h2⟩
 | [], _ :: _, _, _, h, _ => h.elim
 | _ :: _, [], _, _, h, _ => h.elim
theorem MFits.length {w : World} {M : Nat → Prop} : ∀ {es : List (Value × G)} {l : List MapEntry}, MFits w M es l → l.length = es.length
 | [], [], _ => rfl
 | (_, _) :: _, _ :: _, h => by simp [MFits.length h.2]
 | [], _ :: _, h => h.elim
 | _ :: _, [], h => h.elim
theorem MFits.keys {w : World} {M : Nat → Prop} : ∀ {es : List (Value × G)} {l : List MapEntry}, MFits w M es l → es.map Prod.fst = l.map (·.key)
 | [], [], _ => rfl
 | (_, _) :: _, _ :: _, h => by
  rw [List.map_cons, List.map_cons, MFits.keys h.2, h.1.1]
 | [], _ :: _, h => h.elim
 | _ :: _, [], h => h.elim
theorem eff_rangeM {o : Oper} {mem : Mem} {ev : Operand → TV} {t kt et : TypeId} {x : Operand} {es : List (Value × G)} (id : Nat) (ho : o.op = .range t x) (ht : E.P.underlying t = some (.map kt et)) (hx : ev x = .g (G.mpf es)) (hf : lookO mem id = none) :
  EffW E o mem ev (.ptr id 0) ((id, .mit es []) :: mem) none := by
 intro w0 M0 ρ w e hm he;have h1 := he x (by rw [ho]; simp [Op.operands]);rw [hx] at h1;obtain ⟨b, en, cl, h1, h2, h3, h4, h5⟩ : (G.mpf es).p w (owned M0 ρ) (e x) := h1;have hlt : b < w.heap.size := (Array.getElem?_eq_some_iff.1 h3).1
 have hrun : (execOp e o).run E.P w = .ok (.value (.pointer (some ⟨w.heap.size, 0, none⟩))) (w.alloc (.mapIter (some b) cl #[] cl)) := by
  simp [execOp, ho, h1, Instr.range, run_underlying ht, MapKept.run_getObj_map h3]
 rw [hrun];have hg := Grow.alloc w (.mapIter (some b) cl #[] cl)
 have hM : ∀ c, c < w.heap.size → owned M0 (rhoSet ρ id (some ⟨w.heap.size, 0, 0⟩)) c → owned M0 ρ c := by
  rintro c hc (h | ⟨i, o, h, rfl⟩)
  ·exact .inl h
  ·by_cases hi : i = id
   ·subst hi; rw [rhoSet_same] at h; cases h; exact absurd hc (Nat.lt_irrefl _)
   ·exact .inr ⟨i, o, by simpa [rhoSet, hi] using h, rfl⟩
 obtain ⟨ρ', k1, k2, k3⟩ := upon_newO (ob := .mapIter (some b) cl #[] cl) (blk := .mit es []) hm hf
  ⟨_, rhoSet_same _ _ _, rfl, b, en, cl, cl, #[], cl, heap_alloc_new w _, fun h => h2 (hM b hlt h), (hg.block b hlt).trans h3, h4.mono hg.hh hM, h5, h5.1, Nat.le_refl _, Nat.le_refl _, fun _ _ _ => by simp, fun _ _ h => by cases h⟩
 exact ⟨ρ', k1, k2, ⟨w.heap.size, 0, 0⟩, k3, rfl⟩
theorem mit_obj {ρ : Rho} {mem : Mem} {w : World} {id : Nat} {es : List (Value × G)} {seen : List Nat} {v : Value} (hm : MRel E w0 M0 ρ mem w) (hb : lookO mem id = some (.mit es seen)) (hv : TRel w (owned M0 ρ) ρ (.ptr id 0) v) :
  ∃ ow, ρ id = some (some ow) ∧ ow.o = 0 ∧ MitR w (owned M0 ρ) es seen ow.b ∧ v = .pointer (some ⟨ow.b, 0, none⟩) := by
 obtain ⟨ow, h1, h2⟩ := hv;obtain ⟨ow', g1, g2, g3⟩ := hm.blk id _ hb
 have : ow' = ow := by rw [h1] at g1; simpa using g1.symm
 subst this;exact ⟨ow', h1, g2, g3, by rw [h2, g2]⟩
theorem eff_entryM {o : Oper} {mem : Mem} {ev : Operand → TV} {i : Operand} {id j : Nat} {seen : List Nat} {es : List (Value × G)} {k : Value} {g : G} (ho : o.op = .entry i) (hi : ev i = .ptr id 0) (hb : lookO mem id = some (.mit es (j :: seen))) (hj : es[j]? = some (k, g)) :
  Eff E o mem ev (.g (.tup [G.lit k, g])) := by
 intro w0 M0 ρ w e hm he;have h1 := he i (by rw [ho]; simp [Op.operands]);rw [hi] at h1;obtain ⟨ow, g1, g2, ⟨mb, en, cl, since, sn, c0, k1, k2, k3, k4, k5, k6, k7, k8, k9, k10⟩, g4⟩ := mit_obj hm hb h1;obtain ⟨rfl, x, hx, hback⟩ := k10 j seen rfl;obtain ⟨k', g', q1, q2, q3⟩ := k4.get hx;rw [hj] at q1
 cases q1
 have hn := ((MapKept.stamped_iff en c0).1 k5).2.1
 have hf : en.find? (·.born == x.born) = some x := by rw [← Array.find?_toList]; exact find_born x en.toList hn (List.mem_of_getElem? hx)
 have hrun : (execOp e o).run E.P w = .ok (.value (.tuple #[x.key, x.val])) w := by
  simp [execOp, ho, g4, Instr.entry, getObj, Sem.run, k1, k3, hback, hf]
 rw [hrun];exact ⟨Grow.refl w, [x.key, x.val], rfl, q2, q3, trivial⟩
theorem mit_push {sn : Array Nat} {a b : Nat} : (sn.push a).contains b = (sn.contains b || b == a) := by
 rw [Bool.eq_iff_iff]; simp
theorem aw_next {id : Nat} {ops : Array Oper} {o : Oper} {os : List Oper} {cs : List Cls} {Q : Exit → ASt → Prop} {s : ASt} {i : Operand} {d bid : Nat} {es : List (Value × G)} {seen : List Nat} (hops : ops.toList = o :: os) (ho : o.op = .next i false) (hg : o.guard = none) (hd : o.dst = some d)
  (hi : s.eval E i = .ptr bid 0) (hb : lookO s.mem bid = some (.mit es seen)) (hn : Nat.blt d s.n = true)
  (hend : (∀ j, j < es.length → j ∈ seen) → (es.map Prod.fst).Nodup → AOps E ops os cs (s.put (some d) (.g (.tup [G.bool false]))) (Q .normal))
  (hmore : ∀ j k g, es[j]? = some (k, g) → j ∉ seen → AOps E ops os cs (ASt.put ⟨s.n, s.tmps, (bid, .mit es (j :: seen)) :: s.mem⟩ (some d) (.g (.tup [G.bool true, G.lit k, g]))) (Q .normal)) : AWp E w0 M0 (.region id ops false) Q s := by
 intro a w ha;refine wpIn_region_list ?_;rw [hops];obtain ⟨ρ, hm, hmk, ht⟩ := ha.ex;have hp := eval_rel hm ht i;rw [hi] at hp;obtain ⟨ow, g1, g2, hmit, g4⟩ := mit_obj hm hb hp;have hmit' := hmit;obtain ⟨mb, en, cl, since, sn, c0, k1, k2, k3, k4, k5, k6, k7, k8, k9, k10⟩ := hmit
 have hw : Region.wanted o (yielded ops a.tmps) = true := by unfold Region.wanted; rw [hg]
 have hnd : ∀ d', o.dst = some d' → d' < s.n := fun d' h => by rw [hd] at h; cases h; exact Nat.le_of_ble_eq_true hn
 show if Region.wanted o (yielded ops a.tmps) then _ else _;rw [hw, if_pos rfl];refine ⟨fun _ _ => trivial, ?_⟩
 have hsem : o.semAt E.F.round a.eval = execOp a.eval o := by
  cases hro : E.F.round with
  | none => rfl
  | some l => exact Oper.semAt_some l _ _ fun c hc => by rw [ho] at hc; cases hc
 rw [hsem];have hlen := k4.length;have hst := (MapKept.stamped_iff en cl).1 k5
 rcases run_next_at (P := E.P) w o.type ow.b mb since c0 sn en cl k1 k3 k6 k7 with ⟨z0, hrun⟩ | ⟨e, he, w1, hal, hrun⟩
 ·have hx : (execOp a.eval o).run E.P w = .ok (.value (.tuple #[.bool false])) w := by simp [execOp, ho, g4, hrun]
  rw [hx];show wpListIn _ _ _ _ _ _ _ _
  have hall : ∀ j, j < es.length → j ∈ seen := by
   intro j hj
   have hj' : j < en.toList.length := by omega
   have h1 := k9 j en.toList[j] (List.getElem?_eq_getElem hj')
   by_cases hc : sn.contains en.toList[j].born = true
   ·rw [hc] at h1; exact of_decide_eq_true h1.symm
   ·exfalso
    have hmem : en.toList[j] ∈ (leftOf en sn).toList := by
     unfold leftOf;simp only [Array.toList_filter, List.mem_filter];exact ⟨List.getElem_mem hj', by simpa using hc⟩
    have hnil : (leftOf en sn).toList = [] := List.eq_nil_of_length_eq_zero (by rw [Array.length_toList]; exact z0);rw [hnil] at hmem
    cases hmem
  have := hend hall (by rw [k4.keys, List.nodup_iff_pairwise_ne, List.pairwise_map]; exact hst.2.2);rw [hd]
  exact aops_sound os cs _ this _ _ (by
   have := ARel.put (kill := none) (dst := some d) (r := .g (.tup [G.bool false])) (v := .tuple #[.bool false]) ha.defers ha.size hmk ht (by rw [← hd]; exact hnd) hm (fun _ _ _ h => h) ⟨[.bool false], rfl, rfl, trivial⟩
   exact this)
 ·have hmem : e ∈ en.toList ∧ sn.contains e.born = false := by
   unfold leftOf at he;simp only [Array.toList_filter, List.mem_filter] at he;exact ⟨he.1, by simpa using he.2⟩
  obtain ⟨j, hj⟩ := List.mem_iff_getElem?.1 hmem.1;obtain ⟨k, g, q1, q2, q3⟩ := k4.get hj
  have hnot : j ∉ seen := by
   have := k9 j e hj;rw [hmem.2] at this;exact of_decide_eq_false this.symm
  have hx : (execOp a.eval o).run E.P w = .ok (.value (.tuple #[.bool true, e.key, e.val])) (ChangeMaps.setBlock w1 ow.b (.mapIter (some mb) since (sn.push e.born) cl)) := by simp [execOp, ho, g4, hrun]
  rw [hx];show wpListIn _ _ _ _ _ _ _ _
  have hw1 : w1.heap = w.heap ∧ w1.os = w.os ∧ w1.tape = w.tape ∧ w1.output = w.output := by rcases hal with rfl | rfl <;> exact ⟨rfl, rfl, rfl, rfl⟩
  have hne : mb ≠ ow.b := by
   intro h; rw [h, k1] at k3; cases k3
  have hlt : ow.b < w.heap.size := (Array.getElem?_eq_some_iff.1 k1).1
  let w2 : World := ChangeMaps.setBlock w1 ow.b (.mapIter (some mb) since (sn.push e.born) cl)
  have hheap : w2.heap = w.heap.setIfInBounds ow.b (.mapIter (some mb) since (sn.push e.born) cl) := by
   show w1.heap.setIfInBounds _ _ = _;rw [hw1.1]
  have hsz : w2.heap.size = w.heap.size := by rw [hheap]; simp
  have hdf : Diff ρ bid w w2 := ⟨hw1.2.1, hw1.2.2.1, hw1.2.2.2, by rw [hsz]; exact Nat.le_refl _, fun b _ hb' => by
   have := hb' ow g1;rw [hheap]
   simp [Array.getElem?_setIfInBounds_ne (Ne.symm this)]⟩
  have hM : ∀ b, owned M0 (rhoSet ρ bid (some ow)) b → owned M0 ρ b := by
   rintro b (h | ⟨i', o', h, rfl⟩)
   ·exact .inl h
   ·by_cases hi' : i' = bid
    ·subst hi'; rw [rhoSet_same] at h; cases h; exact .inr ⟨i', ow, g1, rfl⟩
    ·exact .inr ⟨i', o', by simpa [rhoSet, hi'] using h, rfl⟩
  have hh : ∀ b, b < w.heap.size → ¬ owned M0 ρ b → w2.heap[b]? = w.heap[b]? := fun b hb' hno => hdf.heap b hb' fun o' ho' e' => hno (.inr ⟨bid, o', ho', e'.symm⟩);obtain ⟨m1, m2⟩ := mrel_upd (id := bid) (x := some ow) (blk' := .mit es (j :: seen)) none hm hdf (fun o' ho' => by cases ho'; exact ⟨.inr ⟨ow, g1, rfl⟩, by rw [hsz]; exact hlt⟩) (.inr ⟨rfl, .inr g1⟩) (fun _ b _ _ => noref_none b) (.inl rfl)
   ⟨ow, rhoSet_same _ _ _, g2, mb, en, cl, since, sn.push e.born, cl, by rw [hheap]; simp [hlt], fun h => k2 (hM _ h), by rw [hheap]; rw [Array.getElem?_setIfInBounds_ne (Ne.symm hne)]; exact k3, k4.mono hh (fun b _ => hM b), k5, k6, k8, k8, fun i' e' hi' => by
    rw [mit_push, k9 i' e' hi']
    by_cases hij : i' = j
    ·subst hij;rw [hj] at hi'; cases hi'
     simp
    ·have : (e'.born == e.born) = false := by
      rw [beq_eq_false_iff_ne];intro hbe
      have h1 : i' < (en.toList.map (·.born)).length := by rw [List.length_map]; exact (List.getElem?_eq_some_iff.1 hi').1
      have := (List.getElem?_inj h1 hst.2.1).1 (show (en.toList.map (·.born))[i']? = (en.toList.map (·.born))[j]? by rw [List.getElem?_map, List.getElem?_map, hi', hj]; simp [hbe]);exact hij this
     rw [this, Bool.or_false]
     simp [hij], fun j' r hjr => by
    cases hjr
    exact ⟨rfl, e, hj, by simp⟩⟩
  have := hmore j k g q1 hnot;rw [hd];refine aops_sound os cs _ this _ _ ?_;have := ARel.put (kill := none) (dst := some d) (r := .g (.tup [G.bool true, G.lit k, g])) (v := .tuple #[.bool true, e.key, e.val]) ha.defers ha.size hmk ht (by rw [← hd]; exact hnd) m1 m2 ⟨[.bool true, e.key, e.val], rfl, rfl, q2, g.mono q3 hh (fun b _ => hM b), trivial⟩;exact this
theorem rv_map {s : ASt} {t id : Nat} {es : List (Value × G)} (h : s.get t = .omap id) (hb : lookO s.mem id = some (.mp es)) (hbw : lookO E.bow id = none := by rfl) : RVal E s (.tmp t) (G.mpf es) := by
 intro w0 M0 ρ w tmps hm ht;have h1 := ht t;rw [h] at h1;obtain ⟨ow, en, cl, g1, g2, g3, g4, g5⟩ := look_mp hm hb h1;have hsub := msub_res (M0 := M0) hm (tv := .g (G.bool true)) rfl;exact ⟨tmps.getD t undef, rfl, ⟨ow.b, en, cl, g2, not_lent hm g1 hbw, g3, g4.mono (fun _ _ _ => rfl) (fun b _ => hsub.sub b), g5⟩, fun _ _ => rfl⟩
end
section
variable {α : Type}
def MOrd (m : List α) (sn : List Nat) (l : List α) : Prop := sn.Nodup ∧ l.map some = sn.reverse.map (fun j => m[j]?)
theorem mord_nil {m : List α} : MOrd m [] [] := ⟨List.nodup_nil, rfl⟩
theorem MOrd.snoc {m : List α} {sn : List Nat} {l : List α} {j : Nat} {y : α} (h : MOrd m sn l) (hy : m[j]? = some y) (hj : j ∉ sn) : MOrd m (j :: sn) (l ++ [y]) :=
 ⟨List.nodup_cons.2 ⟨hj, h.1⟩, by rw [List.map_append, h.2, List.reverse_cons, List.map_append]; simp [hy]⟩
theorem MOrd.lt {m : List α} {sn : List Nat} {l : List α} (h : MOrd m sn l) {j : Nat} (hj : j ∈ sn) : j < m.length := by
 have h1 : m[j]? ∈ sn.reverse.map (fun j => m[j]?) := List.mem_map.2 ⟨j, List.mem_reverse.2 hj, rfl⟩;rw [← h.2] at h1;obtain ⟨x, _, hx⟩ := List.mem_map.1 h1;exact (List.getElem?_eq_some_iff.1 hx.symm).1
theorem nodup_sub_len {α : Type} [DecidableEq α] : ∀ {a b : List α}, a.Nodup → (∀ x ∈ a, x ∈ b) → a.length ≤ b.length
 | [], _, _, _ => Nat.zero_le _
 | x :: a, b, hn, hs => by
  obtain ⟨h1, h2⟩ := List.nodup_cons.1 hn;have hx := hs x List.mem_cons_self;have := nodup_sub_len (b := b.erase x) h2 fun y hy => (List.mem_erase_of_ne (fun e => h1 (by rw [← e]; exact hy))).2 (hs y (List.mem_cons_of_mem _ hy));rw [List.length_erase_of_mem hx] at this;have : 0 < b.length := List.length_pos_of_mem hx
  simp; omega
theorem MOrd.dec {m : List α} {sn : List Nat} {l : List α} {j : Nat} (h : MOrd m (j :: sn) l) : m.length - (j :: sn).length < m.length - sn.length := by
 have := nodup_sub_len h.1 (b := List.range m.length) fun x hx => List.mem_range.2 (h.lt hx)
 simp at this ⊢
 omega
theorem MOrd.len {m : List α} {sn : List Nat} {l : List α} (h : MOrd m sn l) : l.length ≤ m.length := by
 have h1 : l.length = sn.length := by have := congrArg List.length h.2; simpa using this
 have := nodup_sub_len h.1 (b := List.range m.length) fun x hx => List.mem_range.2 (h.lt hx)
 simp at this
 omega
theorem filterMap_some (l : List α) : (l.map some).filterMap id = l := by
 induction l with
 | nil => rfl
 | cons x l ih => simpa using ih
theorem map_get_range (m : List α) : (List.range m.length).map (fun j => m[j]?) = m.map some := by
 apply List.ext_getElem?
 intro i;simp only [List.getElem?_map]
 by_cases h : i < m.length
 ·rw [List.getElem?_range h]; simp [h]
 ·rw [List.getElem?_eq_none (by simpa using h), List.getElem?_eq_none (by simpa using h)]; rfl
theorem MOrd.perm {m : List α} {sn : List Nat} {l : List α} (h : MOrd m sn l) (ha : ∀ j, j < m.length → j ∈ sn) : l.Perm m := by
 have h1 : sn.reverse.Perm (List.range m.length) := (List.perm_ext_iff_of_nodup ((List.reverse_perm sn).nodup_iff.2 h.1) List.nodup_range).2 fun j => by
  rw [List.mem_reverse, List.mem_range];exact ⟨fun hj => h.lt hj, ha j⟩
 have h2 := h1.map (fun j => m[j]?);rw [← h.2, map_get_range] at h2;have h3 := h2.filterMap id
 rwa [filterMap_some, filterMap_some] at h3
theorem mp_get {K V : Type} {kf : K → Value} {vf : V → G} {m : List (K × V)} {j : Nat} {k : Value} {g : G} (h : (m.map fun p => (kf p.1, vf p.2))[j]? = some (k, g)) : ∃ y, m[j]? = some y ∧ kf y.1 = k ∧ vf y.2 = g := by
 rw [List.getElem?_map] at h
 cases hm : m[j]? with
 | none => rw [hm] at h; cases h
 | some y =>
  rw [hm] at h;simp only [Option.map_some, Option.some.injEq, Prod.mk.injEq] at h;exact ⟨y, rfl, h.1, h.2⟩
theorem mp_nodup {K V : Type} {kf : K → Value} {vf : V → G} {m : List (K × V)} (h : ((m.map fun p => (kf p.1, vf p.2)).map Prod.fst).Nodup) : (m.map Prod.fst).Nodup := by
 rw [List.map_map, List.nodup_iff_pairwise_ne, List.pairwise_map] at h;rw [List.nodup_iff_pairwise_ne, List.pairwise_map];exact h.imp fun hne e => hne (by simp [e])
theorem mp_all {K V : Type} {kf : K → Value} {vf : V → G} {m : List (K × V)} {sn : List Nat} (h : ∀ j, j < (m.map fun p => (kf p.1, vf p.2)).length → j ∈ sn) : ∀ j, j < m.length → j ∈ sn := fun j hj => h j (by rw [List.length_map]; exact hj)
end
end Go.Sim
set_option maxRecDepth 10000
namespace Go.Sim
open Go.Proofs
def s1132_j1 (rec1 : Nat → (List (ByteArray × S1143)) → Option (List (ByteArray × S1143))) (k4 : Nat) (x7 : List (ByteArray × S1143)) : Option (List (ByteArray × S1143)) :=
 rec1 (k4 + 1) x7
def s1132_l1 (a0 : S1089) (r1 : S45 × Int) : List S1079 → Nat → (List (ByteArray × S1143)) → Option (List (ByteArray × S1143))
 | [], k4, x3 => some x3
 | y5 :: t6, k4, x3 => (bif (decide (r1.1.fFrom ≤ (s1120 a0.Night y5.Moment))) && (decide ((s1120 a0.Night y5.Moment) ≤ r1.1.fTo)) then s1132_j1 (fun k_ z0_ => s1132_l1 a0 r1 t6 k_ z0_) k4 (mset x3 y5.Name (S1143.mk (IntKind.i64.wrap (((mgetD x3 y5.Name (S1143.mk 0 0)).Count) + 1)) (IntKind.i64.wrap (((mgetD x3 y5.Name (S1143.mk 0 0)).Points) + y5.Noise)))) else s1132_j1 (fun k_ z0_ => s1132_l1 a0 r1 t6 k_ z0_) k4 x3)
def s1132 (a0 : S1089) (a1 : List S1079) : Option (List (ByteArray × S1143)) :=
 bindO (s70 a0.Season) fun r1 => s1132_l1 a0 r1 a1 0 []
theorem c1132 (a0 : S1089) (a1 : List S1079) {R : List (ByteArray × S1143)}   (hR : s1132 a0 a1 = some R) : Con (EG glT) 132 [G.agg [G.int a0.Night.fFrom, G.int a0.Night.fTo, G.int a0.Season.Year, G.str a0.Season.Kind, G.int a0.Count, G.int a0.Points], G.sl 7 (List.map S1079.c a1)] (G.mpf (List.map (fun p => ((Value.string) p.1, ((fun (v : S1143) => G.agg [G.int v.Count, G.int v.Points])) p.2)) R)) := by
 unfold s1132 at hR;refine con_of_aw Tryz.func132 rfl rfl fun w0 M0 => ?_;refine len_sl (f := S1079.c) (l := a1) 1 rfl fun hla1 => ?_;refine aw_seq ?_;refine aw_region [.p, .p] ?_;refine st rfl rfl (eff_box rfl rfl) rfl ?_;refine st rfl rfl (eff_assigng rfl rfl) rfl ?_;refine st_nil ?_;refine aw_seq ?_;obtain ⟨r1, br1, hR⟩ := bindO_inv hR;refine aw_region [.p, .p, .p, .p, .p, .p, .w, .w, .p] ?_;refine st rfl rfl (eff_fieldAddr rfl fl1090_1 rfl) rfl ?_;refine st rfl rfl (eff_loadA rfl ty68 rfl rfl rfl) rfl ?_;refine st rfl rfl (eff_call rfl K70 rfl (c70 a0.Season br1) (ag_cons rfl ag_nil)) rfl ?_;refine st rfl rfl (eff_moveg rfl rfl) rfl ?_;refine st rfl rfl (eff_extract rfl rfl rfl) rfl ?_;refine st rfl rfl (eff_extract rfl rfl rfl) rfl ?_;refine st_w rfl rfl (eff_alloc 5 rfl z46 rfl rfl) rfl ?_;refine st_wn rfl rfl (eff_store (tv := .g (G.agg [G.int r1.1.fFrom, G.int r1.1.fTo, G.int r1.1.Days])) rfl ty46 rfl rfl rfl rfl rfl) ?_;refine st rfl rfl (eff_assigng rfl rfl) rfl ?_;refine st_nil ?_;refine aw_seq ?_;refine aw_region [.w, .p] ?_;refine st_w rfl rfl (eff_makeMap 18 rfl rfl) rfl ?_;refine st rfl rfl (eff_assignM rfl rfl) rfl ?_;refine st_nil ?_;refine aw_seq ?_;refine aw_seq ?_;refine aw_region [.p, .p, .p] ?_;refine st rfl rfl (eff_moveg rfl rfl) rfl ?_;refine st rfl rfl (eff_lenM (f := S1079.c) (l := a1) rfl Tryz.underlying25 rfl) rfl ?_;refine st rfl rfl (eff_moveg rfl rfl) rfl ?_;refine st_nil ?_;refine aw_block ?_;refine aw_loop_g (γ := Nat × (List S1079) × (List (ByteArray × S1143))) (fun g => ([(2, .g (G.ref [G.int a0.Night.fFrom, G.int a0.Night.fTo, G.int a0.Season.Year, G.str a0.Season.Kind, G.int a0.Count, G.int a0.Points])), (5, .ptr 5 0), (7, .omap 18), (19, .g (G.sl 7 (List.map S1079.c a1))), (20, .g (G.int (List.length a1 : Int))), (21, .g (G.int ((g.1 : Nat) : Int)))], [(5, .box [.g (G.int r1.1.fFrom), .g (G.int r1.1.fTo), .g (G.int r1.1.Days)]), (18, mpB (K := ByteArray) (V := S1143) (Value.string) (fun (v : S1143) => G.agg [G.int v.Count, G.int v.Points]) g.2.2)])) (fun g => a1.drop g.1 = g.2.1 ∧ s1132_l1 a0 r1 g.2.1 g.1 g.2.2 = some R) (fun g => List.length g.2.1) ⟨rfl, (0, a1, []), ⟨rfl, rfl, rfl, rfl, rfl, rfl, trivial⟩, ⟨rfl, rfl, trivial⟩, rfl, ⟨rfl, hR⟩, trivial⟩ ?_
 ·rintro ⟨k4, t6, x3⟩ ⟨hd, hR⟩;replace hd : a1.drop k4 = t6 := hd;replace hR : s1132_l1 a0 r1 t6 k4 x3 = some R := hR;refine aw_seq ?_;refine aw_region [.p] ?_;refine st rfl rfl (eff_lss rfl rfl rfl) rfl ?_;refine st_nil ?_;refine len_sl (f := S1079.c) (l := a1) 19 rfl fun hlz1 => ?_;refine aw_seq ?_;refine aw_cond _ rfl (fun h1 => ?_) (fun h1 => ?_)
  ·replace h1 : (decide (((k4 : Nat) : Int) < (List.length a1 : Int))) = true := h1;obtain ⟨y5, t6, rfl, hx1, hd⟩ := drop_cons hd (decT h1);replace h1 := decT h1;rw [s1132_l1] at hR;(try dsimp only at hR);refine aw_skip ?_;refine aw_cut_g (γ := (List (ByteArray × S1143))) (fun g => ([(2, .g (G.ref [G.int a0.Night.fFrom, G.int a0.Night.fTo, G.int a0.Season.Year, G.str a0.Season.Kind, G.int a0.Count, G.int a0.Points])), (5, .ptr 5 0), (7, .omap 18), (19, .g (G.sl 7 (List.map S1079.c a1))), (20, .g (G.int (List.length a1 : Int))), (21, .g (G.int ((k4 : Nat) : Int)))], [(5, .box [.g (G.int r1.1.fFrom), .g (G.int r1.1.fTo), .g (G.int r1.1.Days)]), (18, mpB (K := ByteArray) (V := S1143) (Value.string) (fun (v : S1143) => G.agg [G.int v.Count, G.int v.Points]) g)])) (fun g => s1132_j1 (fun k_ z0_ => s1132_l1 a0 r1 t6 k_ z0_) k4 g = some R) ?_ ?_
   ·refine aw_block ?_;refine aw_seq ?_;refine aw_region [.p, .p, .w, .w] ?_;refine st rfl rfl (eff_ix (f := S1079.c) (l := a1) (a := y5) rfl Tryz.underlying25 ty1080 rfl rfl (Int.natCast_nonneg _) hx1) rfl ?_;refine st rfl rfl (eff_loadA rfl ty1080 rfl rfl rfl) rfl ?_;refine st_w rfl rfl (eff_alloc 9 rfl z1080 rfl rfl) rfl ?_;refine st_wn rfl rfl (eff_store (tv := .g (G.agg [G.int y5.Moment, G.str y5.Kind, G.str y5.Terminal, G.int y5.Seats, G.int y5.Size, G.int y5.Noise, G.str y5.Name])) rfl ty1080 rfl rfl rfl rfl rfl) ?_;refine st_nil ?_;refine aw_seq ?_;refine aw_region [.p, .p, .p, .r, .p, .p] ?_;refine st rfl rfl (eff_fieldAddr rfl fl1090_0 rfl) rfl ?_;refine st rfl rfl (eff_loadA rfl ty1086 rfl rfl rfl) rfl ?_;refine st rfl rfl (eff_fieldO rfl fl1080_0 rfl) rfl ?_;refine st_r rfl rfl (eff_loadO rfl ty3 rfl rfl rfl) rfl ?_;refine st rfl rfl (eff_call rfl K1120 rfl (c1120 a0.Night y5.Moment) (ag_cons rfl (ag_cons rfl ag_nil))) rfl ?_;refine st rfl rfl (eff_assigng rfl rfl) rfl ?_;refine st_nil ?_;refine aw_seq ?_;refine aw_region [.p, .p, .r, .p, .p, .p, .p, .r, .p, .p] ?_;refine st rfl rfl (eff_moveg rfl rfl) rfl ?_;refine st rfl rfl (eff_fieldO rfl fl46_0 rfl) rfl ?_;refine st_r rfl rfl (eff_loadO rfl ty3 rfl rfl rfl) rfl ?_;refine st rfl rfl (eff_geq rfl rfl rfl) rfl ?_;refine st rfl rfl (eff_moveg rfl rfl) rfl ?_;refine st_g rfl rfl rfl (gb_bool _ _) (fun h => eff_moveg rfl rfl) rfl ?_;refine st_g rfl rfl rfl (gb_bool _ _) (fun h => eff_fieldO rfl fl46_1 rfl) rfl ?_;refine st_gr rfl rfl rfl (gb_bool _ _) (fun h => eff_loadO rfl ty3 (gd h rfl) rfl rfl) rfl ?_;refine st_g rfl rfl rfl (gb_bool _ _) (fun h => eff_leq rfl (gd h rfl) (gd h rfl)) rfl ?_;refine st rfl rfl (eff_and rfl rfl rfl rfl) rfl ?_;refine st_nil ?_;refine aw_cond _ rfl (fun h3 => ?_) (fun h3 => ?_)
    ·replace h3 : ((decide (r1.1.fFrom ≤ (s1120 a0.Night y5.Moment))) && (decide ((s1120 a0.Night y5.Moment) ≤ r1.1.fTo))) = true := h3;replace hR := condT hR h3;(try simp only [Bool.or_eq_true, Bool.and_eq_true, Bool.or_eq_false_iff, Bool.and_eq_false_iff, Bool.not_eq_true', Bool.not_eq_false', decide_eq_true_eq, decide_eq_false_iff_not] at h3);refine aw_seq ?_;refine aw_region [.p, .p, .r, .r, .w, .w] ?_;refine st rfl rfl (eff_moveM rfl rfl) rfl ?_;refine st rfl rfl (eff_fieldO rfl fl1080_6 rfl) rfl ?_;refine st_r rfl rfl (eff_loadO rfl ty9 rfl rfl rfl) rfl ?_;refine st_r rfl rfl (eff_lookup (kf := Value.string) (vf := (fun (v : S1143) => G.agg [G.int v.Count, G.int v.Points])) (m := x3) (k := y5.Name) (z := (S1143.mk 0 0)) rfl Tryz.underlying216 Tryz.underlying9 zr1144 (fun _ _ => ⟨_, rfl, ⟨⟨rfl, rfl⟩, ⟨⟨rfl, rfl⟩, trivial⟩⟩⟩) rfl rfl rfl) rfl ?_;refine st_w rfl rfl (eff_alloc 11 rfl z1144 rfl rfl) rfl ?_;refine st_wn rfl rfl (eff_store (tv := .g (G.agg [G.int ((mgetD x3 y5.Name (S1143.mk 0 0)).Count), G.int ((mgetD x3 y5.Name (S1143.mk 0 0)).Points)])) rfl ty1144 rfl rfl rfl rfl rfl) ?_;refine st_nil ?_;refine aw_region [.p, .p, .r, .p, .r, .p, .p, .r, .p, .r, .p, .p, .w] ?_;refine st rfl rfl (eff_moveM rfl rfl) rfl ?_;refine st rfl rfl (eff_fieldO rfl fl1080_6 rfl) rfl ?_;refine st_r rfl rfl (eff_loadO rfl ty9 rfl rfl rfl) rfl ?_;refine st rfl rfl (eff_fieldO rfl fl1144_0 rfl) rfl ?_;refine st_r rfl rfl (eff_loadO rfl ty3 rfl rfl rfl) rfl ?_;refine st rfl rfl (eff_addw rfl rfl rfl) rfl ?_;refine st rfl rfl (eff_fieldO rfl fl1144_1 rfl) rfl ?_;refine st_r rfl rfl (eff_loadO rfl ty3 rfl rfl rfl) rfl ?_;refine st rfl rfl (eff_fieldO rfl fl1080_5 rfl) rfl ?_;refine st_r rfl rfl (eff_loadO rfl ty3 rfl rfl rfl) rfl ?_;refine st rfl rfl (eff_addw rfl rfl rfl) rfl ?_;refine st rfl rfl (eff_build rfl z1144 rfl pl1144 (pb_cons rfl (pb_cons rfl pb_nil)) rfl) rfl ?_;refine st_wn rfl rfl (eff_update (kf := Value.string) (vf := (fun (v : S1143) => G.agg [G.int v.Count, G.int v.Points])) (m := x3) (k := y5.Name) (v := (S1143.mk (IntKind.i64.wrap (((mgetD x3 y5.Name (S1143.mk 0 0)).Count) + 1)) (IntKind.i64.wrap (((mgetD x3 y5.Name (S1143.mk 0 0)).Points) + y5.Noise)))) (ins := false) rfl Tryz.underlying216 Tryz.underlying9 rfl rfl rfl rfl) ?_;refine st_nil ?_;exact ⟨rfl, mset x3 y5.Name (S1143.mk (IntKind.i64.wrap (((mgetD x3 y5.Name (S1143.mk 0 0)).Count) + 1)) (IntKind.i64.wrap (((mgetD x3 y5.Name (S1143.mk 0 0)).Points) + y5.Noise))), ⟨rfl, rfl, rfl, rfl, rfl, rfl, trivial⟩, ⟨rfl, rfl, trivial⟩, rfl, hR, trivial⟩
    ·replace h3 : ((decide (r1.1.fFrom ≤ (s1120 a0.Night y5.Moment))) && (decide ((s1120 a0.Night y5.Moment) ≤ r1.1.fTo))) = false := h3;replace hR := condF hR h3;(try simp only [Bool.or_eq_true, Bool.and_eq_true, Bool.or_eq_false_iff, Bool.and_eq_false_iff, Bool.not_eq_true', Bool.not_eq_false', decide_eq_true_eq, decide_eq_false_iff_not] at h3);refine aw_skip ?_;exact ⟨rfl, x3, ⟨rfl, rfl, rfl, rfl, rfl, rfl, trivial⟩, ⟨rfl, rfl, trivial⟩, rfl, hR, trivial⟩
   ·rintro x7 hR;replace hR : s1132_j1 (fun k_ z0_ => s1132_l1 a0 r1 t6 k_ z0_) k4 x7 = some R := hR;unfold s1132_j1 at hR;refine aw_region [.p, .p] ?_;refine st rfl rfl (eff_add rfl rfl rfl (by unfold I64; omega)) rfl ?_;refine st rfl rfl (eff_moveg rfl rfl) rfl ?_;refine st_nil ?_;exact ⟨rfl, (k4 + 1, t6, x7), ⟨rfl, rfl, rfl, rfl, rfl, rfl, trivial⟩, ⟨rfl, rfl, trivial⟩, rfl, ⟨hd, hR⟩, by simp⟩
  ·replace h1 : (decide (((k4 : Nat) : Int) < (List.length a1 : Int))) = false := h1;obtain rfl := drop_nil hd (decF h1);rw [s1132_l1] at hR;refine aw_exit ?_;refine aw_seq ?_;refine aw_region [.p, .p] ?_;refine st rfl rfl (eff_moveM rfl rfl) rfl ?_;refine st rfl rfl (eff_assignM rfl rfl) rfl ?_;refine st_nil ?_;refine aw_ret ?_;obtain rfl := Option.some.inj hR;exact res_c rfl (rv_map rfl rfl)
def s1071_b1  (g : Int × Int) (y6 : ByteArray × S1143) : Int × Int :=
 (IntKind.i64.wrap (g.1 + y6.2.Count), IntKind.i64.wrap (g.2 + y6.2.Points))
def s1071_e1  (g : Int × Int) : Option (S1143 × Int) :=
 some ((S1143.mk g.1 g.2), 0)
def s1071 (a0 : S1089) (a1 : List S1079) : Option (S1143 × Int) :=
 (bif decide ((s1085 [(s1047 a0), (s1027 a1)]) ≠ 0) then some ((S1143.mk 0 0), (s1085 [(s1047 a0), (s1027 a1)])) else bindO (s1132 a0 a1) fun r1 => s1071_e1 (List.foldl (s1071_b1) (0, 0) r1))
theorem c1071 (a0 : S1089) (a1 : List S1079) {R : S1143 × Int}  (hpm1 : ∀  (l_ m_ : List (ByteArray × S1143)), (m_.map Prod.fst).Nodup → l_.Perm m_ → s1071_e1 (List.foldl (s1071_b1) (0, 0) l_) = s1071_e1 (List.foldl (s1071_b1) (0, 0) m_)) (hR : s1071 a0 a1 = some R) : Con (EG glT) 71 [G.agg [G.int a0.Night.fFrom, G.int a0.Night.fTo, G.int a0.Season.Year, G.str a0.Season.Kind, G.int a0.Count, G.int a0.Points], G.sl 7 (List.map S1079.c a1)] (G.tup [G.agg [G.int R.1.Count, G.int R.1.Points], G.int R.2]) := by
 unfold s1071 at hR;refine con_of_aw Tryz.func71 rfl rfl fun w0 M0 => ?_;refine len_sl (f := S1079.c) (l := a1) 1 rfl fun hla1 => ?_;refine aw_seq ?_;refine aw_region [.p, .w, .p] ?_;refine st rfl rfl (eff_box rfl rfl) rfl ?_;refine st_w rfl rfl (eff_alloc 4 rfl z1144 rfl rfl) rfl ?_;refine st rfl rfl (eff_assigng rfl rfl) rfl ?_;refine st_nil ?_;refine aw_seq ?_;refine aw_seq ?_;refine aw_region [.p, .p, .p, .p, .p, .p, .p] ?_;refine st rfl rfl (eff_loadA rfl ty1090 rfl rfl rfl) rfl ?_;refine st rfl rfl (eff_call rfl K1047 rfl (c1047 a0) (ag_cons rfl ag_nil)) rfl ?_;refine st rfl rfl (eff_moveg rfl rfl) rfl ?_;refine st rfl rfl (eff_call rfl K1027 rfl (c1027 a1) (ag_cons rfl ag_nil)) rfl ?_;refine st rfl rfl (eff_buildSlice rfl Tryz.underlying222 ty37 z37 rfl (ps_cons rfl (ps_cons rfl ps_nil)) rfl (by simp []) (by decide)) rfl ?_;refine st rfl rfl (eff_call rfl K1085 rfl (c1085 [(s1047 a0), (s1027 a1)]) (ag_cons rfl ag_nil)) rfl ?_;refine st rfl rfl (eff_assigng rfl rfl) rfl ?_;refine st_nil ?_;refine aw_seq ?_;refine aw_region [.p, .p] ?_;refine st rfl rfl (eff_moveg rfl rfl) rfl ?_;refine st rfl rfl (eff_neq rfl rfl rfl) rfl ?_;refine st_nil ?_;refine aw_cond _ rfl (fun h1 => ?_) (fun h1 => ?_)
 ·replace h1 : (decide ((s1085 [(s1047 a0), (s1027 a1)]) ≠ 0)) = true := h1;replace hR := condT hR h1;(try simp only [Bool.or_eq_true, Bool.and_eq_true, Bool.or_eq_false_iff, Bool.and_eq_false_iff, Bool.not_eq_true', Bool.not_eq_false', decide_eq_true_eq, decide_eq_false_iff_not] at h1);refine aw_seq ?_;refine aw_region [.p, .p, .w, .p] ?_;refine st rfl rfl (eff_build rfl z1144 rfl pl1144 pb_nil rfl) rfl ?_;refine st rfl rfl (eff_moveg rfl rfl) rfl ?_;refine st_wn rfl rfl (eff_store (tv := .g (G.agg [G.int 0, G.int 0])) rfl ty1144 rfl rfl rfl rfl rfl) ?_;refine st rfl rfl (eff_assigng rfl rfl) rfl ?_;refine st_nil ?_;refine aw_ret ?_;obtain rfl := Option.some.inj hR;exact resN rfl ⟨rv_cell rfl rfl ty1144 rfl rfl, rv_g rfl, trivial⟩ (by simp)
 ·replace h1 : (decide ((s1085 [(s1047 a0), (s1027 a1)]) ≠ 0)) = false := h1;replace hR := condF hR h1;(try simp only [Bool.or_eq_true, Bool.and_eq_true, Bool.or_eq_false_iff, Bool.and_eq_false_iff, Bool.not_eq_true', Bool.not_eq_false', decide_eq_true_eq, decide_eq_false_iff_not] at h1);refine aw_skip ?_;refine aw_seq ?_;refine aw_region [.w] ?_;refine st_w rfl rfl (eff_alloc 7 rfl z1144 rfl rfl) rfl ?_;refine st_nil ?_;refine aw_seq ?_;refine aw_seq ?_;obtain ⟨r1, br1, hR⟩ := bindO_inv hR;refine aw_region [.p, .p, .p, .w] ?_;refine st rfl rfl (eff_loadA rfl ty1090 rfl rfl rfl) rfl ?_;refine st rfl rfl (eff_moveg rfl rfl) rfl ?_;refine st rfl rfl (eff_call rfl K1132 rfl (c1132 a0 a1 br1) (ag_cons rfl (ag_cons rfl ag_nil))) rfl ?_;refine st_w rfl rfl (eff_rangeM 23 rfl Tryz.underlying216 rfl rfl) rfl ?_;refine st_nil ?_;refine aw_block ?_;refine aw_loop_g (γ := (List Nat) × (List (ByteArray × S1143)) × Int × Int) (fun g => ([(4, .ptr 4 0), (7, .ptr 7 0), (23, .ptr 23 0)], [(4, .box [.g (G.int 0), .g (G.int 0)]), (7, .box [.g (G.int g.2.2.1), .g (G.int g.2.2.2)]), (23, .mit (List.map (fun p => ((Value.string) p.1, ((fun (v : S1143) => G.agg [G.int v.Count, G.int v.Points])) p.2)) r1) g.1)])) (fun g => MOrd r1 g.1 g.2.1 ∧ List.foldl (s1071_b1) (0, 0) g.2.1 = (g.2.2.1, g.2.2.2)) (fun g => List.length r1 - List.length g.1) ⟨rfl, ([], [], 0, 0), ⟨rfl, rfl, rfl, trivial⟩, ⟨rfl, rfl, rfl, trivial⟩, rfl, ⟨mord_nil, rfl⟩, trivial⟩ ?_
  ·rintro ⟨sn4, l5, x2, x3⟩ ⟨hmo_, hfd_⟩;replace hmo_ : MOrd r1 sn4 l5 := hmo_;replace hfd_ : List.foldl (s1071_b1) (0, 0) l5 = (x2, x3) := hfd_;have hml_ := hmo_.len;refine aw_seq ?_;refine aw_next (cs := [.p]) rfl rfl rfl rfl rfl rfl rfl (fun hal_ hnk_ => ?_) (fun jx_ kx_ gx_ hj_ hnx_ => ?_)
   ·refine st rfl rfl (eff_extract rfl rfl rfl) rfl ?_;refine st_nil ?_;refine aw_seq ?_;have hpl_ := (hmo_.perm (mp_all (kf := Value.string) (vf := (fun (v : S1143) => G.agg [G.int v.Count, G.int v.Points])) (m := r1) hal_)).length_eq;replace hR : s1071_e1 (List.foldl (s1071_b1) (0, 0) r1) = some R := hR;rw [← hpm1  l5 r1 (mp_nodup (kf := Value.string) (vf := (fun (v : S1143) => G.agg [G.int v.Count, G.int v.Points])) (m := r1) hnk_) (hmo_.perm (mp_all (kf := Value.string) (vf := (fun (v : S1143) => G.agg [G.int v.Count, G.int v.Points])) (m := r1) hal_)), hfd_] at hR;unfold s1071_e1 at hR;(try dsimp only at hR);refine aw_cond _ rfl (fun h2 => ?_) (fun h2 => ?_)
    ·exact Bool.noConfusion h2
    ·refine aw_exit ?_;refine aw_seq ?_;refine aw_region [.r, .w, .p] ?_;refine st_r rfl rfl (eff_loadOA rfl ty1144 rfl rfl rfl rfl) rfl ?_;refine st_wn rfl rfl (eff_store (tv := .g (G.agg [G.int x2, G.int x3])) rfl ty1144 rfl rfl rfl rfl rfl) ?_;refine st rfl rfl (eff_assigng rfl rfl) rfl ?_;refine st_nil ?_;refine aw_ret ?_;obtain rfl := Option.some.inj hR;exact resN rfl ⟨rv_cell rfl rfl ty1144 rfl rfl, rv_g rfl, trivial⟩ (by simp)
   ·obtain ⟨y6, hy_, rfl, rfl⟩ := mp_get (kf := Value.string) (vf := (fun (v : S1143) => G.agg [G.int v.Count, G.int v.Points])) (m := r1) hj_;refine st rfl rfl (eff_extract rfl rfl rfl) rfl ?_;refine st_nil ?_;refine aw_seq ?_;refine aw_cond _ rfl (fun h3 => ?_) (fun h3 => ?_)
    ·refine aw_skip ?_;refine aw_block ?_;refine aw_seq ?_;refine aw_region [.r, .p, .w, .w] ?_;refine st_r rfl rfl (eff_entryM rfl rfl rfl hj_) rfl ?_;refine st rfl rfl (eff_extract rfl rfl rfl) rfl ?_;refine st_w rfl rfl (eff_alloc 9 rfl z1144 rfl rfl) rfl ?_;refine st_wn rfl rfl (eff_store (tv := .g (G.agg [G.int y6.2.Count, G.int y6.2.Points])) rfl ty1144 rfl rfl rfl rfl rfl) ?_;refine st_nil ?_;refine aw_region [.p, .r, .p, .r, .p, .p, .r, .p, .r, .p, .p, .w] ?_;refine st rfl rfl (eff_fieldO rfl fl1144_0 rfl) rfl ?_;refine st_r rfl rfl (eff_loadO rfl ty3 rfl rfl rfl) rfl ?_;refine st rfl rfl (eff_fieldO rfl fl1144_0 rfl) rfl ?_;refine st_r rfl rfl (eff_loadO rfl ty3 rfl rfl rfl) rfl ?_;refine st rfl rfl (eff_addw rfl rfl rfl) rfl ?_;refine st rfl rfl (eff_fieldO rfl fl1144_1 rfl) rfl ?_;refine st_r rfl rfl (eff_loadO rfl ty3 rfl rfl rfl) rfl ?_;refine st rfl rfl (eff_fieldO rfl fl1144_1 rfl) rfl ?_;refine st_r rfl rfl (eff_loadO rfl ty3 rfl rfl rfl) rfl ?_;refine st rfl rfl (eff_addw rfl rfl rfl) rfl ?_;refine st rfl rfl (eff_build rfl z1144 rfl pl1144 (pb_cons rfl (pb_cons rfl pb_nil)) rfl) rfl ?_;refine st_wn rfl rfl (eff_store (tv := .g (G.agg [G.int (IntKind.i64.wrap (x2 + y6.2.Count)), G.int (IntKind.i64.wrap (x3 + y6.2.Points))])) rfl ty1144 rfl rfl rfl rfl rfl) ?_;refine st_nil ?_;exact ⟨rfl, (jx_ :: sn4, l5 ++ [y6], IntKind.i64.wrap (x2 + y6.2.Count), IntKind.i64.wrap (x3 + y6.2.Points)), ⟨rfl, rfl, rfl, trivial⟩, ⟨rfl, rfl, rfl, trivial⟩, rfl, ⟨hmo_.snoc hy_ hnx_, (by rw [List.foldl_append, hfd_]; rfl)⟩, (hmo_.snoc hy_ hnx_).dec⟩
    ·exact Bool.noConfusion h3
theorem mset_len1 {K V : Type} [DecidableEq K] : ∀ (m : List (K × V)) (k : K) (v : V), (mset m k v).length ≤ m.length + 1
 | [], k, v => by simp [mset]
 | (a, b) :: r, k, v => by
  rw [mset]
  cases decide (a = k)
  ·have := mset_len1 r k v; simp only [cond_false, List.length_cons]; omega
  ·simp
theorem len1132_l (a0 : S1089) (r1 : S45 × Int) : ∀ (l : List S1079) (k : Nat) (x r : List (ByteArray × S1143)), s1132_l1 a0 r1 l k x = some r → r.length ≤ x.length + l.length
 | [], k, x, r, h => by rw [s1132_l1] at h; cases h; simp
 | y :: l, k, x, r, h => by
  rw [s1132_l1] at h;unfold s1132_j1 at h
  cases hc : (decide (r1.1.fFrom ≤ (s1120 a0.Night y.Moment))) && (decide ((s1120 a0.Night y.Moment) ≤ r1.1.fTo))
  ·have := len1132_l a0 r1 l _ _ _ (condF h hc); simp only [List.length_cons]; omega
  ·have h1 := len1132_l a0 r1 l _ _ _ (condT h hc);have h2 := mset_len1 x y.Name (S1143.mk (IntKind.i64.wrap (((mgetD x y.Name (S1143.mk 0 0)).Count) + 1)) (IntKind.i64.wrap (((mgetD x y.Name (S1143.mk 0 0)).Points) + y.Noise)));simp only [List.length_cons]; omega
theorem len1132 {a0 : S1089} {a1 : List S1079} {r : List (ByteArray × S1143)} (h : s1132 a0 a1 = some r) : r.length ≤ a1.length := by
 unfold s1132 at h;obtain ⟨r1, _, h⟩ := bindO_inv h;have := len1132_l a0 r1 a1 0 [] r h
 simpa using this
end Go.Sim
set_option maxRecDepth 10000
namespace Go.Sim
open Go.Proofs
def s1073_b1  (g : (List S1154)) (y5 : ByteArray × S1143) : (List S1154) :=
 g ++ [(S1154.mk y5.1 (S1143.mk y5.2.Count y5.2.Points))]
def s1073_e1  (g : (List S1154)) : Option ((List S1154) × Int) :=
 bindO (s1133 g (fun x0_ x1_ => some (s1134 x0_ x1_))) fun r6 => some (r6, 0)
def s1073 (a0 : S1089) (a1 : List S1079) : Option ((List S1154) × Int) :=
 (bif decide ((s1085 [(s1047 a0), (s1027 a1)]) ≠ 0) then some ([], (s1085 [(s1047 a0), (s1027 a1)])) else bindO (s1132 a0 a1) fun r1 => s1073_e1 (List.foldl (s1073_b1) [] r1))
theorem c1073 (a0 : S1089) (a1 : List S1079) {R : (List S1154) × Int}  (hb : ¬ s1085 [(s1047 a0), (s1027 a1)] ≠ 0 → a1.length ≤ 12) (hpm1 : ∀  (l_ m_ : List (ByteArray × S1143)), (m_.map Prod.fst).Nodup → l_.Perm m_ → s1073_e1 (List.foldl (s1073_b1) [] l_) = s1073_e1 (List.foldl (s1073_b1) [] m_)) (hR : s1073 a0 a1 = some R) : Con (EG glT) 73 [G.agg [G.int a0.Night.fFrom, G.int a0.Night.fTo, G.int a0.Season.Year, G.str a0.Season.Kind, G.int a0.Count, G.int a0.Points], G.sl 7 (List.map S1079.c a1)] (G.tup [G.sl 3 (List.map S1154.c R.1), G.int R.2]) := by
 unfold s1073 at hR;refine con_of_aw Tryz.func73 rfl rfl fun w0 M0 => ?_;refine len_sl (f := S1079.c) (l := a1) 1 rfl fun hla1 => ?_;refine aw_seq ?_;refine aw_region [.p, .p, .p] ?_;refine st rfl rfl (eff_box rfl rfl) rfl ?_;refine st rfl rfl (eff_assigng rfl rfl) rfl ?_;refine st rfl rfl (eff_assigng rfl rfl) rfl ?_;refine st_nil ?_;refine aw_seq ?_;refine aw_seq ?_;refine aw_region [.p, .p, .p, .p, .p, .p, .p] ?_;refine st rfl rfl (eff_loadA rfl ty1090 rfl rfl rfl) rfl ?_;refine st rfl rfl (eff_call rfl K1047 rfl (c1047 a0) (ag_cons rfl ag_nil)) rfl ?_;refine st rfl rfl (eff_moveg rfl rfl) rfl ?_;refine st rfl rfl (eff_call rfl K1027 rfl (c1027 a1) (ag_cons rfl ag_nil)) rfl ?_;refine st rfl rfl (eff_buildSlice rfl Tryz.underlying222 ty37 z37 rfl (ps_cons rfl (ps_cons rfl ps_nil)) rfl (by simp []) (by decide)) rfl ?_;refine st rfl rfl (eff_call rfl K1085 rfl (c1085 [(s1047 a0), (s1027 a1)]) (ag_cons rfl ag_nil)) rfl ?_;refine st rfl rfl (eff_assigng rfl rfl) rfl ?_;refine st_nil ?_;refine aw_seq ?_;refine aw_region [.p, .p] ?_;refine st rfl rfl (eff_moveg rfl rfl) rfl ?_;refine st rfl rfl (eff_neq rfl rfl rfl) rfl ?_;refine st_nil ?_;refine aw_cond _ rfl (fun h1 => ?_) (fun h1 => ?_)
 ·replace h1 : (decide ((s1085 [(s1047 a0), (s1027 a1)]) ≠ 0)) = true := h1;replace hR := condT hR h1;(try simp only [Bool.or_eq_true, Bool.and_eq_true, Bool.or_eq_false_iff, Bool.and_eq_false_iff, Bool.not_eq_true', Bool.not_eq_false', decide_eq_true_eq, decide_eq_false_iff_not] at h1);refine aw_seq ?_;refine aw_region [.p, .p, .p] ?_;refine st rfl rfl (eff_moveg rfl rfl) rfl ?_;refine st rfl rfl (eff_assigng rfl rfl) rfl ?_;refine st rfl rfl (eff_assigng rfl rfl) rfl ?_;refine st_nil ?_;refine aw_ret ?_;obtain rfl := Option.some.inj hR;exact resN rfl ⟨rv_nilG rfl (nil_sl _), rv_g rfl, trivial⟩ (by simp)
 ·replace h1 : (decide ((s1085 [(s1047 a0), (s1027 a1)]) ≠ 0)) = false := h1;replace hR := condF hR h1;(try simp only [Bool.or_eq_true, Bool.and_eq_true, Bool.or_eq_false_iff, Bool.and_eq_false_iff, Bool.not_eq_true', Bool.not_eq_false', decide_eq_true_eq, decide_eq_false_iff_not] at h1);have hb1 := hb h1;refine aw_skip ?_;refine aw_seq ?_;refine aw_region [.w] ?_;refine st_w rfl rfl (eff_nilL 7 155 3 rfl rfl rfl) rfl ?_;refine st_nil ?_;refine aw_seq ?_;refine aw_seq ?_;obtain ⟨r1, br1, hR⟩ := bindO_inv hR;refine aw_region [.p, .p, .p, .w] ?_;refine st rfl rfl (eff_loadA rfl ty1090 rfl rfl rfl) rfl ?_;refine st rfl rfl (eff_moveg rfl rfl) rfl ?_;refine st rfl rfl (eff_call rfl K1132 rfl (c1132 a0 a1 br1) (ag_cons rfl (ag_cons rfl ag_nil))) rfl ?_;refine st_w rfl rfl (eff_rangeM 22 rfl Tryz.underlying216 rfl rfl) rfl ?_;refine st_nil ?_;have hlm := len1132 br1;refine aw_block ?_;refine aw_loop_g (γ := (List Nat) × (List (ByteArray × S1143)) × (List S1154)) (fun g => ([(7, .osl 7 3 0 (List.length g.2.2)), (22, .ptr 22 0)], [(7, .arr 155 3 (List.map S1154.c g.2.2)), (22, .mit (List.map (fun p => ((Value.string) p.1, ((fun (v : S1143) => G.agg [G.int v.Count, G.int v.Points])) p.2)) r1) g.1)])) (fun g => MOrd r1 g.1 g.2.1 ∧ List.foldl (s1073_b1) [] g.2.1 = g.2.2 ∧ g.2.2.length ≤ g.2.1.length) (fun g => List.length r1 - List.length g.1) ⟨rfl, ([], [], []), ⟨rfl, rfl, trivial⟩, ⟨rfl, rfl, trivial⟩, rfl, ⟨mord_nil, rfl, (by simp)⟩, trivial⟩ ?_
  ·rintro ⟨sn3, l4, x2⟩ ⟨hmo_, hfd_, iv1_0⟩;replace iv1_0 : x2.length ≤ l4.length := iv1_0;replace hmo_ : MOrd r1 sn3 l4 := hmo_;replace hfd_ : List.foldl (s1073_b1) [] l4 = x2 := hfd_;have hml_ := hmo_.len;refine aw_seq ?_;refine aw_next (cs := [.p]) rfl rfl rfl rfl rfl rfl rfl (fun hal_ hnk_ => ?_) (fun jx_ kx_ gx_ hj_ hnx_ => ?_)
   ·refine st rfl rfl (eff_extract rfl rfl rfl) rfl ?_;refine st_nil ?_;refine aw_seq ?_;have hpl_ := (hmo_.perm (mp_all (kf := Value.string) (vf := (fun (v : S1143) => G.agg [G.int v.Count, G.int v.Points])) (m := r1) hal_)).length_eq;replace hR : s1073_e1 (List.foldl (s1073_b1) [] r1) = some R := hR;rw [← hpm1  l4 r1 (mp_nodup (kf := Value.string) (vf := (fun (v : S1143) => G.agg [G.int v.Count, G.int v.Points])) (m := r1) hnk_) (hmo_.perm (mp_all (kf := Value.string) (vf := (fun (v : S1143) => G.agg [G.int v.Count, G.int v.Points])) (m := r1) hal_)), hfd_] at hR;unfold s1073_e1 at hR;(try dsimp only at hR);refine aw_cond _ rfl (fun h2 => ?_) (fun h2 => ?_)
    ·exact Bool.noConfusion h2
    ·refine aw_exit ?_;refine aw_seq ?_;obtain ⟨r6, br6, hR⟩ := bindO_inv hR;refine aw_region [.p, .w] ?_;refine st rfl rfl (eff_moveO rfl rfl) rfl ?_;refine st_w rfl rfl (eff_callB1 0 7 rfl K1133 rfl (c1133 x2 (fun x0_ x1_ => some (s1134 x0_ x1_)) rfl fnis_lit K1134 (fun x0_ x1_ r_ h_ => Option.some.inj h_ ▸ (fun x0 x1 => c1134 x0 x1) x0_ x1_) (by first | assumption | omega | (simp [copyL_len]; done) | (simp [copyL_len]; omega)) br6) (at_cons rfl rfl (at_cons rfl rfl at_nil)) rfl rfl rfl) rfl ?_;refine st_nil ?_;refine aw_seq ?_;refine aw_region [.p, .p, .p] ?_;refine st rfl rfl (eff_moveO rfl rfl) rfl ?_;refine st rfl rfl (eff_assignO rfl rfl) rfl ?_;refine st rfl rfl (eff_assigng rfl rfl) rfl ?_;refine st_nil ?_;refine aw_ret ?_;obtain rfl := Option.some.inj hR;exact resN rfl ⟨rv_viewLN ((len1133 br6).trans rfl) rfl rfl, rv_g rfl, trivial⟩ (by simp)
   ·obtain ⟨y5, hy_, rfl, rfl⟩ := mp_get (kf := Value.string) (vf := (fun (v : S1143) => G.agg [G.int v.Count, G.int v.Points])) (m := r1) hj_;refine st rfl rfl (eff_extract rfl rfl rfl) rfl ?_;refine st_nil ?_;refine aw_seq ?_;refine aw_cond _ rfl (fun h3 => ?_) (fun h3 => ?_)
    ·refine aw_skip ?_;refine aw_block ?_;refine aw_seq ?_;refine aw_region [.r, .p, .p, .w, .p, .w] ?_;refine st_r rfl rfl (eff_entryM rfl rfl rfl hj_) rfl ?_;refine st rfl rfl (eff_extract rfl rfl rfl) rfl ?_;refine st rfl rfl (eff_extract rfl rfl rfl) rfl ?_;refine st_w rfl rfl (eff_alloc 9 rfl z1144 rfl rfl) rfl ?_;refine st rfl rfl (eff_assigng rfl rfl) rfl ?_;refine st_wn rfl rfl (eff_store (tv := .g (G.agg [G.int y5.2.Count, G.int y5.2.Points])) rfl ty1144 rfl rfl rfl rfl rfl) ?_;refine st_nil ?_;refine aw_region [.p, .p, .r, .p, .p, .k, .p] ?_;refine st rfl rfl (eff_moveO rfl rfl) rfl ?_;refine st rfl rfl (eff_moveg rfl rfl) rfl ?_;refine st_r rfl rfl (eff_loadOA rfl ty1144 rfl rfl rfl rfl) rfl ?_;refine st rfl rfl (eff_build rfl z1155 rfl pl1155 (pb_cons rfl (pb_cons rfl pb_nil)) rfl) rfl ?_;refine st rfl rfl (eff_buildSlice rfl Tryz.underlying147 ty1155 z1155 rfl (ps_cons rfl ps_nil) rfl (by exact lens rfl) (by decide)) rfl ?_;refine st_k rfl rfl (eff_appL (f := S1154.c) (out := x2) (new := [(S1154.mk y5.1 (S1143.mk y5.2.Count y5.2.Points))]) rfl app1147 rfl rfl (src_eq rfl (src_sl (by decide) (by simp [S1154.c, S1143.c]))) (refsN rfl) (by simp; omega)) rfl ?_;refine st rfl rfl (eff_assignO rfl rfl) rfl ?_;refine st_nil ?_;exact ⟨rfl, (jx_ :: sn3, l4 ++ [y5], x2 ++ [(S1154.mk y5.1 (S1143.mk y5.2.Count y5.2.Points))]), ⟨rfl, rfl, trivial⟩, ⟨rfl, rfl, trivial⟩, rfl, ⟨hmo_.snoc hy_ hnx_, (by rw [List.foldl_append, hfd_]; rfl), (by first | omega | (dsimp only; omega) | (simp at *; omega))⟩, (hmo_.snoc hy_ hnx_).dec⟩
    ·exact Bool.noConfusion h3
section
variable {α : Type}
def insB (lt : α → α → Bool) (x : α) : List α → List α
 | [] => [x]
 | y :: r => bif lt x y then y :: insB lt x r else x :: y :: r
def insS (lt : α → α → Bool) : List α → List α → List α
 | P, [] => P.reverse
 | P, x :: l => insS lt (insB lt x P) l
def isort (lt : α → α → Bool) (l : List α) : List α := insS lt [] l
theorem insB_perm (lt : α → α → Bool) (x : α) : ∀ P, (insB lt x P).Perm (x :: P)
 | [] => List.Perm.refl _
 | y :: r => by
  rw [insB]
  cases lt x y with
  | true => exact ((insB_perm lt x r).cons y).trans (List.Perm.swap x y r)
  | false => exact List.Perm.refl _
theorem insB_len (lt : α → α → Bool) (x : α) (P : List α) : (insB lt x P).length = P.length + 1 := (insB_perm lt x P).length_eq
theorem insS_perm (lt : α → α → Bool) : ∀ (l P : List α), (insS lt P l).Perm (P ++ l)
 | [], P => by rw [insS, List.append_nil]; exact List.reverse_perm P
 | x :: l, P => by
  rw [insS];refine (insS_perm lt l _).trans ?_;refine ((insB_perm lt x P).append_right l).trans ?_;exact List.perm_middle.symm
theorem isort_perm (lt : α → α → Bool) (l : List α) : (isort lt l).Perm l := insS_perm lt l []
theorem insB_sorted {lt : α → α → Bool} {Rel : α → α → Prop} (tr : ∀ a b c, Rel a b → Rel b c → Rel a c) {x : α} : ∀ {P : List α}, P.Pairwise (fun a b => Rel b a) → (∀ y ∈ P, (lt x y = true → Rel x y) ∧ (lt x y = false → Rel y x)) → (insB lt x P).Pairwise (fun a b => Rel b a)
 | [], _, _ => by rw [insB]; exact List.pairwise_singleton _ _
 | y :: r, hP, hx => by
  rw [insB];have h1 := List.pairwise_cons.1 hP
  cases hl : lt x y with
  | true =>
   refine List.pairwise_cons.2 ⟨fun z hz => ?_, insB_sorted tr h1.2 fun y hy => hx y (List.mem_cons_of_mem _ hy)⟩
   rcases List.mem_cons.1 ((insB_perm lt x r).mem_iff.1 hz) with rfl | hz
   ·exact (hx y List.mem_cons_self).1 hl
   ·exact h1.1 z hz
  | false =>
   refine List.pairwise_cons.2 ⟨fun z hz => ?_, hP⟩;have h2 := (hx y List.mem_cons_self).2 hl
   rcases List.mem_cons.1 hz with rfl | hz
   ·exact h2
   ·exact tr z y x (h1.1 z hz) h2
theorem insS_sorted {lt : α → α → Bool} {Rel : α → α → Prop} (tr : ∀ a b c, Rel a b → Rel b c → Rel a c) : ∀ {l P : List α}, P.Pairwise (fun a b => Rel b a) → (∀ y ∈ P, ∀ x ∈ l, (lt x y = true → Rel x y) ∧ (lt x y = false → Rel y x)) →
  l.Pairwise (fun y x => (lt x y = true → Rel x y) ∧ (lt x y = false → Rel y x)) → (insS lt P l).Pairwise Rel
 | [], P, hP, _, _ => by rw [insS]; exact List.pairwise_reverse.2 hP
 | x :: l, P, hP, hx, hl => by
  rw [insS];have h1 := List.pairwise_cons.1 hl;refine insS_sorted tr (insB_sorted tr hP fun y hy => hx y hy x List.mem_cons_self) (fun y hy z hz => ?_) h1.2
  rcases List.mem_cons.1 ((insB_perm lt x P).mem_iff.1 hy) with rfl | hy
  ·exact h1.1 z hz
  ·exact hx y hy z (List.mem_cons_of_mem _ hz)
theorem isort_sorted {lt : α → α → Bool} {Rel : α → α → Prop} (tr : ∀ a b c, Rel a b → Rel b c → Rel a c) {l : List α} (hl : l.Pairwise (fun y x => (lt x y = true → Rel x y) ∧ (lt x y = false → Rel y x))) : (isort lt l).Pairwise Rel :=
 insS_sorted tr List.Pairwise.nil (fun y hy => by cases hy) hl
theorem sorted_unique {Rel : α → α → Prop} : ∀ {a b : List α}, a.Perm b → a.Pairwise Rel → b.Pairwise Rel → (∀ x ∈ a, ∀ y ∈ a, Rel x y → Rel y x → x = y) → a = b
 | [], b, hp, _, _, _ => by rw [List.nil_perm.1 hp]
 | x :: t, [], hp, _, _, _ => by cases (List.perm_nil.1 hp)
 | x :: t, y :: s, hp, ha, hb, an => by
  have h1 := List.pairwise_cons.1 ha;have h2 := List.pairwise_cons.1 hb
  have hxy : x = y := by
   have hx : x ∈ y :: s := hp.mem_iff.1 List.mem_cons_self;have hy : y ∈ x :: t := hp.mem_iff.2 List.mem_cons_self
   rcases List.mem_cons.1 hx with e | hx
   ·exact e
   ·rcases List.mem_cons.1 hy with e | hy'
    ·exact e.symm
    ·exact an x List.mem_cons_self y hy (h1.1 y hy') (h2.1 x hx)
  subst hxy;rw [sorted_unique ((List.perm_cons x).1 hp) h1.2 h2.2 fun a ha b hb => an a (List.mem_cons_of_mem _ ha) b (List.mem_cons_of_mem _ hb)]
theorem ixO_app {P B : List α} {x : α} : ixO (P ++ x :: B) (P.length : Int) = some x := by
 unfold ixO;rw [decide_eq_true (by omega)]
 simp
theorem ixO_app' {P B : List α} {x : α} {n : Int} (h : n = (P.length : Int)) : ixO (P ++ x :: B) n = some x := by rw [h]; exact ixO_app
theorem set_app {P B : List α} {x y : α} {n : Nat} (h : n = P.length) : List.set (P ++ x :: B) n y = P ++ y :: B := by
 subst h;rw [List.set_append_right _ _ (Nat.le_refl _), Nat.sub_self, List.set_cons_zero]
end
theorem s1179_l2_ok (rec1 : Int → List S1154 → Option (List S1154)) (cmp : S1154 → S1154 → Option Int) (lt : S1154 → S1154 → Bool) (x1 : Int) (x : S1154) : ∀ (P B : List S1154) (k : Nat), P.length < k → (∀ y ∈ P, ∃ c, cmp x y = some c ∧ decide (c < 0) = lt x y) →
  s1179_l2 rec1 0 cmp x1 k (P.length : Int) (P.reverse ++ x :: B) = rec1 (x1 + 1) ((insB lt x P).reverse ++ B)
 | [], B, 0, h, _ => by omega
 | [], B, k + 1, h, _ => by
  rw [s1179_l2]
  have e : decide ((0 : Int) < (([] : List S1154).length : Int)) = false := by simp
  simp only [e, cond_false, bindO, Bool.false_and, insB]
  simp
 | y :: r, B, 0, h, _ => by omega
 | y :: r, B, k + 1, h, hc => by
  have e : decide ((0 : Int) < ((y :: r).length : Int)) = true := by simp <;> omega
  have l1 : (y :: r).reverse ++ x :: B = (r.reverse ++ [y]) ++ x :: B := by simp
  have l2 : (r.reverse ++ [y]) ++ x :: B = r.reverse ++ y :: (x :: B) := by simp
  have i1 : ixO ((r.reverse ++ [y]) ++ x :: B) ((y :: r).length : Int) = some x := ixO_app' (by simp)
  have i2 : ixO ((r.reverse ++ [y]) ++ x :: B) (((y :: r).length : Int) - 1) = some y := by rw [l2]; exact ixO_app' (by simp)
  obtain ⟨c, c1, c2⟩ := hc y List.mem_cons_self;rw [s1179_l2, l1];simp only [e, cond_true, i1, i2, bindO, c1, Bool.true_and, c2]
  cases hl : lt x y with
  | true =>
   have e1 : List.set ((r.reverse ++ [y]) ++ x :: B) (Int.toNat ((y :: r).length : Int)) y = (r.reverse ++ [y]) ++ y :: B := set_app (by simp)
   have e2 : List.set ((r.reverse ++ [y]) ++ y :: B) (Int.toNat (((y :: r).length : Int) - 1)) x = r.reverse ++ x :: (y :: B) := by
    rw [show (r.reverse ++ [y]) ++ y :: B = r.reverse ++ y :: (y :: B) by simp];exact set_app (by simp)
   have e3 : (((y :: r).length : Int) - 1) = (r.length : Int) := by simp
   have hih := s1179_l2_ok rec1 cmp lt x1 x r (y :: B) k (by simp at h; omega) (fun z hz => hc z (List.mem_cons_of_mem _ hz))
   have i3 : ixO (List.set ((r.reverse ++ [y]) ++ x :: B) (Int.toNat ((y :: r).length : Int)) y) (((y :: r).length : Int) - 1) = some y := by
    rw [e1, show (r.reverse ++ [y]) ++ y :: B = r.reverse ++ y :: (y :: B) by simp];exact ixO_app' (by simp)
   rw [cond_true];simp only [i3];rw [e1, e2, e3, hih]
   simp [insB, hl]
  | false =>
   rw [cond_false]
   simp [insB, hl]
theorem s1179_l1_ok (cmp : S1154 → S1154 → Option Int) (lt : S1154 → S1154 → Bool) : ∀ (l P : List S1154), (∀ y ∈ P ++ l, ∀ x ∈ l, ∃ c, cmp x y = some c ∧ decide (c < 0) = lt x y) → s1179_l1 0 cmp l.length (P.length : Int) (P.reverse ++ l) = some (insS lt P l)
 | [], P, _ => by rw [List.length_nil, s1179_l1, insS, List.append_nil]
 | x :: l, P, h => by
  rw [List.length_cons, s1179_l1, s1179_l2_ok _ cmp lt _ x P l _ (by omega) (fun y hy => h y (List.mem_append_left _ hy) x List.mem_cons_self), insS]
  have := s1179_l1_ok cmp lt l (insB lt x P) (fun y hy z hz => h y (by
   rcases List.mem_append.1 hy with hy | hy
   ·rcases List.mem_cons.1 ((insB_perm lt x P).mem_iff.1 hy) with rfl | hy
    ·simp
    ·simp [hy]
   ·simp [hy]) z (List.mem_cons_of_mem _ hz))
  rw [← this, insB_len]
  simp
theorem s1179_ok {cmp : S1154 → S1154 → Option Int} {lt : S1154 → S1154 → Bool} {l : List S1154} (h : ∀ y ∈ l, ∀ x ∈ l, ∃ c, cmp x y = some c ∧ decide (c < 0) = lt x y) : s1179 l 0 (l.length : Int) cmp = some (isort lt l) := by
 unfold s1179 isort
 cases l with
 | nil => rfl
 | cons x l =>
  have e : ((((x :: l).length : Int) - (0 + 1)).toNat) = l.length := by simp
  rw [e, insS];exact s1179_l1_ok cmp lt l [x] (fun y hy z hz => h y hy z (List.mem_cons_of_mem _ hz))
theorem s1133_ok {cmp : S1154 → S1154 → Option Int} {lt : S1154 → S1154 → Bool} {l : List S1154} (h : ∀ y ∈ l, ∀ x ∈ l, ∃ c, cmp x y = some c ∧ decide (c < 0) = lt x y) : s1133 l cmp = some (isort lt l) := by
 unfold s1133 s1163;rw [s1163_l1, s1179_ok h];simp only [bindO]
theorem bl_irr : ∀ x : List UInt8, Op.bytesLess x x = false
 | [] => rfl
 | a :: x => by simp [Op.bytesLess, bl_irr x]
theorem bl_tr : ∀ x y z : List UInt8, Op.bytesLess x y = true → Op.bytesLess y z = true → Op.bytesLess x z = true
 | _, _, [], _, h => by cases ‹List UInt8› <;> simp [Op.bytesLess] at h
 | _, [], _ :: _, h, _ => by cases ‹List UInt8› <;> simp [Op.bytesLess] at h
 | [], _ :: _, _ :: _, _, _ => rfl
 | a :: x, b :: y, c :: z, h, k => by
  simp only [Op.bytesLess, Bool.or_eq_true, decide_eq_true_eq, Bool.and_eq_true, beq_iff_eq] at h k ⊢
  rcases h with h | ⟨rfl, h⟩
  ·rcases k with k | ⟨rfl, k⟩
   ·exact .inl (UInt8.lt_trans h k)
   ·exact .inl h
  ·rcases k with k | ⟨rfl, k⟩
   ·exact .inl k
   ·exact .inr ⟨rfl, bl_tr x y z h k⟩
theorem bl_tri : ∀ x y : List UInt8, Op.bytesLess x y = false → Op.bytesLess y x = false → x = y
 | [], [], _, _ => rfl
 | [], _ :: _, h, _ => by simp [Op.bytesLess] at h
 | _ :: _, [], _, h => by simp [Op.bytesLess] at h
 | a :: x, b :: y, h, k => by
  simp only [Op.bytesLess, Bool.or_eq_false_iff, decide_eq_false_iff_not, Bool.and_eq_false_iff, beq_eq_false_iff_ne] at h k;have e : a = b := UInt8.le_antisymm (UInt8.not_lt.1 k.1) (UInt8.not_lt.1 h.1);subst e;rw [bl_tri x y (h.2.resolve_left fun g => g rfl) (k.2.resolve_left fun g => g rfl)]
theorem sl_irr (a : ByteArray) : strLt a a = false := bl_irr _
theorem sl_tr {a b c : ByteArray} (h : strLt a b = true) (k : strLt b c = true) : strLt a c = true := bl_tr _ _ _ h k
theorem sl_tri {a b : ByteArray} (h : strLt a b = false) (k : strLt b a = false) : a = b := by
 have := bl_tri _ _ h k;have e := toList_inj (s := a) (s' := b);rw [this] at e
 simpa using e.symm
theorem sl_as {a b : ByteArray} (h : strLt a b = true) (k : strLt b a = true) : False := by
 have := sl_tr h k;rw [sl_irr] at this; cases this
theorem s133_eq (a b : ByteArray) : s133 a b = bif strLt a b then -1 else bif decide (a = b) then 0 else 1 := by
 have h : ∀ x, s183 x = false := fun x => by unfold s183; simp
 unfold s133;rw [h, h]
 cases h1 : strLt a b
 ·by_cases h2 : a = b <;> simp [h2]
 ·rfl
def ltR (a b : S1154) : Bool := strLt a.Name b.Name
theorem s1134_lt (a b : S1154) : decide (s1134 a b < 0) = ltR a b := by
 unfold s1134 ltR;rw [s133_eq]
 cases h : strLt a.Name b.Name
 ·by_cases h2 : a.Name = b.Name <;> simp [h2]
 ·rfl
def rowOf (y : ByteArray × S1143) : S1154 := S1154.mk y.1 (S1143.mk y.2.Count y.2.Points)
theorem b2_map : ∀ (l : List (ByteArray × S1143)) (g : List S1154), List.foldl s1073_b1 g l = g ++ l.map rowOf
 | [], g => by simp
 | y :: l, g => by rw [List.foldl_cons, b2_map l]; simp [s1073_b1, rowOf]
theorem e2_eq (g : List S1154) : s1073_e1 g = some (isort ltR g, 0) := by
 unfold s1073_e1;rw [s1133_ok (lt := ltR) (fun y _ x _ => ⟨_, rfl, s1134_lt x y⟩)]
 rfl
def RelR (a b : S1154) : Prop := strLt b.Name a.Name = false
theorem RelR.tr (a b c : S1154) (h : RelR a b) (k : RelR b c) : RelR a c := by
 unfold RelR at *
 cases hc : strLt c.Name a.Name
 ·rfl
 ·cases hb : strLt b.Name c.Name
  ·have := sl_tri hb k;rw [this] at h; rw [h] at hc; cases hc
  ·rw [sl_tr hb hc] at h; cases h
theorem isortR_sorted (g : List S1154) : (isort ltR g).Pairwise RelR :=
 isort_sorted RelR.tr (List.pairwise_of_forall fun y x => ⟨fun h => by
  unfold RelR
  cases hc : strLt y.Name x.Name
  ·rfl
  ·exact (sl_as h hc).elim, fun h => h⟩)
theorem rows_strict {m : List (ByteArray × S1143)} (hn : (m.map Prod.fst).Nodup) : ∀ x ∈ m.map rowOf, ∀ y ∈ m.map rowOf, x.Name = y.Name → x = y := by
 intro x hx y hy h;obtain ⟨p, hp, rfl⟩ := List.mem_map.1 hx;obtain ⟨q, hq, rfl⟩ := List.mem_map.1 hy
 have : p = q := by
  have h : p.1 = q.1 := h;clear hx hy
  induction m with
  | nil => cases hp
  | cons a m ih =>
   rw [List.map_cons, List.nodup_cons] at hn
   rcases List.mem_cons.1 hp with e1 | hp2
   ·rcases List.mem_cons.1 hq with e2 | hq2
    ·rw [e1, e2]
    ·have := List.mem_map_of_mem (f := Prod.fst) hq2;rw [← h, e1] at this;exact absurd this hn.1
   ·rcases List.mem_cons.1 hq with e2 | hq2
    ·have := List.mem_map_of_mem (f := Prod.fst) hp2;rw [h, e2] at this;exact absurd this hn.1
    ·exact ih hn.2 hp2 hq2
 rw [this]
theorem RelR.eq {a b : S1154} (h : RelR a b) (k : RelR b a) : a.Name = b.Name := sl_tri k h
theorem hpm73 (l m : List (ByteArray × S1143)) (hn : (m.map Prod.fst).Nodup) (hp : l.Perm m) : s1073_e1 (List.foldl s1073_b1 [] l) = s1073_e1 (List.foldl s1073_b1 [] m) := by
 rw [b2_map, b2_map, e2_eq, e2_eq];simp only [List.nil_append]
 congr 2
 have hpm : (l.map rowOf).Perm (m.map rowOf) := hp.map _;refine sorted_unique ((isort_perm _ _).trans (hpm.trans (isort_perm _ _).symm)) (isortR_sorted _) (isortR_sorted _) fun x hx y hy h k => ?_;have hx' : x ∈ m.map rowOf := hpm.mem_iff.1 ((isort_perm _ _).mem_iff.1 hx);have hy' : y ∈ m.map rowOf := hpm.mem_iff.1 ((isort_perm _ _).mem_iff.1 hy);exact rows_strict hn x hx' y hy' (RelR.eq h k)
theorem wrap_wrap (x a : Int) : IntKind.i64.wrap (IntKind.i64.wrap x + a) = IntKind.i64.wrap (x + a) := by rw [IntKind.wrap_i64, IntKind.wrap_i64, IntKind.wrap_i64]; omega
theorem b1_sum : ∀ (l : List (ByteArray × S1143)) (x y : Int), List.foldl s1071_b1 (IntKind.i64.wrap x, IntKind.i64.wrap y) l = (IntKind.i64.wrap (x + (l.map fun p => p.2.Count).sum), IntKind.i64.wrap (y + (l.map fun p => p.2.Points).sum))
 | [], x, y => by simp
 | p :: l, x, y => by
  rw [List.foldl_cons];show List.foldl s1071_b1 (IntKind.i64.wrap (IntKind.i64.wrap x + p.2.Count), IntKind.i64.wrap (IntKind.i64.wrap y + p.2.Points)) l = _;rw [wrap_wrap, wrap_wrap, b1_sum l, List.map_cons, List.map_cons, List.sum_cons, List.sum_cons, Int.add_assoc, Int.add_assoc]
theorem b1_sum0 (l : List (ByteArray × S1143)) : List.foldl s1071_b1 (0, 0) l = (IntKind.i64.wrap ((l.map fun p => p.2.Count).sum), IntKind.i64.wrap ((l.map fun p => p.2.Points).sum)) := by
 have h := b1_sum l 0 0;rw [show IntKind.i64.wrap 0 = 0 by decide, Int.zero_add, Int.zero_add] at h;exact h
theorem perm_sum {l l' : List Int} (h : l.Perm l') : l.sum = l'.sum := by
 induction h with
 | nil => rfl
 | cons _ _ ih => simp [ih]
 | swap => simp only [List.sum_cons]; omega
 | trans _ _ i1 i2 => exact i1.trans i2
theorem hpm71 (l m : List (ByteArray × S1143)) (_ : (m.map Prod.fst).Nodup) (hp : l.Perm m) : s1071_e1 (List.foldl s1071_b1 (0, 0) l) = s1071_e1 (List.foldl s1071_b1 (0, 0) m) := by
 rw [b1_sum0, b1_sum0, perm_sum (hp.map fun p => p.2.Count), perm_sum (hp.map fun p => p.2.Points)]
end Go.Sim
set_option maxRecDepth 10000
namespace Go.Sim
open Go.Proofs
def s1072 (a0 : S1089) (a1 : List S1079) : Option (S1143 × Int) :=
 bindO (s1071 a0 a1) fun r1 => (bif decide (r1.2 ≠ 0) then some ((S1143.mk 0 0), r1.2) else some ((S1143.mk (IntKind.i64.wrap (a0.Count - r1.1.Count)) (IntKind.i64.wrap (a0.Points - r1.1.Points))), 0))
theorem c1072 (a0 : S1089) (a1 : List S1079) {R : S1143 × Int}   (hR : s1072 a0 a1 = some R) : Con (EG glT) 72 [G.agg [G.int a0.Night.fFrom, G.int a0.Night.fTo, G.int a0.Season.Year, G.str a0.Season.Kind, G.int a0.Count, G.int a0.Points], G.sl 7 (List.map S1079.c a1)] (G.tup [G.agg [G.int R.1.Count, G.int R.1.Points], G.int R.2]) := by
 unfold s1072 at hR;refine con_of_aw Tryz.func72 rfl rfl fun w0 M0 => ?_;refine len_sl (f := S1079.c) (l := a1) 1 rfl fun hla1 => ?_;refine aw_seq ?_;refine aw_region [.p, .w, .p] ?_;refine st rfl rfl (eff_box rfl rfl) rfl ?_;refine st_w rfl rfl (eff_alloc 4 rfl z1144 rfl rfl) rfl ?_;refine st rfl rfl (eff_assigng rfl rfl) rfl ?_;refine st_nil ?_;refine aw_seq ?_;obtain ⟨r1, br1, hR⟩ := bindO_inv hR;refine aw_region [.p, .p, .p, .p, .p, .p, .w, .w, .p] ?_;refine st rfl rfl (eff_loadA rfl ty1090 rfl rfl rfl) rfl ?_;refine st rfl rfl (eff_moveg rfl rfl) rfl ?_;refine st rfl rfl (eff_call rfl K1071 rfl (c1071 a0 a1 hpm71 br1) (ag_cons rfl (ag_cons rfl ag_nil))) rfl ?_;refine st rfl rfl (eff_moveg rfl rfl) rfl ?_;refine st rfl rfl (eff_extract rfl rfl rfl) rfl ?_;refine st rfl rfl (eff_extract rfl rfl rfl) rfl ?_;refine st_w rfl rfl (eff_alloc 6 rfl z1144 rfl rfl) rfl ?_;refine st_wn rfl rfl (eff_store (tv := .g (G.agg [G.int r1.1.Count, G.int r1.1.Points])) rfl ty1144 rfl rfl rfl rfl rfl) ?_;refine st rfl rfl (eff_assigng rfl rfl) rfl ?_;refine st_nil ?_;refine aw_seq ?_;refine aw_seq ?_;refine aw_region [.p, .p] ?_;refine st rfl rfl (eff_moveg rfl rfl) rfl ?_;refine st rfl rfl (eff_neq rfl rfl rfl) rfl ?_;refine st_nil ?_;refine aw_cond _ rfl (fun h1 => ?_) (fun h1 => ?_)
 ·replace h1 : (decide (r1.2 ≠ 0)) = true := h1;replace hR := condT hR h1;(try simp only [Bool.or_eq_true, Bool.and_eq_true, Bool.or_eq_false_iff, Bool.and_eq_false_iff, Bool.not_eq_true', Bool.not_eq_false', decide_eq_true_eq, decide_eq_false_iff_not] at h1);refine aw_seq ?_;refine aw_region [.p, .p, .w, .p] ?_;refine st rfl rfl (eff_build rfl z1144 rfl pl1144 pb_nil rfl) rfl ?_;refine st rfl rfl (eff_moveg rfl rfl) rfl ?_;refine st_wn rfl rfl (eff_store (tv := .g (G.agg [G.int 0, G.int 0])) rfl ty1144 rfl rfl rfl rfl rfl) ?_;refine st rfl rfl (eff_assigng rfl rfl) rfl ?_;refine st_nil ?_;refine aw_ret ?_;obtain rfl := Option.some.inj hR;exact resN rfl ⟨rv_cell rfl rfl ty1144 rfl rfl, rv_g rfl, trivial⟩ (by simp)
 ·replace h1 : (decide (r1.2 ≠ 0)) = false := h1;replace hR := condF hR h1;(try simp only [Bool.or_eq_true, Bool.and_eq_true, Bool.or_eq_false_iff, Bool.and_eq_false_iff, Bool.not_eq_true', Bool.not_eq_false', decide_eq_true_eq, decide_eq_false_iff_not] at h1);refine aw_skip ?_;refine aw_seq ?_;refine aw_region [.p, .p, .p, .r, .p, .p, .p, .p, .r, .p, .p, .w, .p] ?_;refine st rfl rfl (eff_fieldAddr rfl fl1090_2 rfl) rfl ?_;refine st rfl rfl (eff_load rfl ty3 rfl) rfl ?_;refine st rfl rfl (eff_fieldO rfl fl1144_0 rfl) rfl ?_;refine st_r rfl rfl (eff_loadO rfl ty3 rfl rfl rfl) rfl ?_;refine st rfl rfl (eff_subw rfl rfl rfl) rfl ?_;refine st rfl rfl (eff_fieldAddr rfl fl1090_3 rfl) rfl ?_;refine st rfl rfl (eff_load rfl ty3 rfl) rfl ?_;refine st rfl rfl (eff_fieldO rfl fl1144_1 rfl) rfl ?_;refine st_r rfl rfl (eff_loadO rfl ty3 rfl rfl rfl) rfl ?_;refine st rfl rfl (eff_subw rfl rfl rfl) rfl ?_;refine st rfl rfl (eff_build rfl z1144 rfl pl1144 (pb_cons rfl (pb_cons rfl pb_nil)) rfl) rfl ?_;refine st_wn rfl rfl (eff_store (tv := .g (G.agg [G.int (IntKind.i64.wrap (a0.Count - r1.1.Count)), G.int (IntKind.i64.wrap (a0.Points - r1.1.Points))])) rfl ty1144 rfl rfl rfl rfl rfl) ?_;refine st rfl rfl (eff_assigng rfl rfl) rfl ?_;refine st_nil ?_;refine aw_ret ?_;obtain rfl := Option.some.inj hR;exact resN rfl ⟨rv_cell rfl rfl ty1144 rfl rfl, rv_g rfl, trivial⟩ (by simp)
theorem eff_beql {E : Env} {o : Oper} {ev : Operand → TV} {t t' : TypeId} {x y : Operand} {a b : Bool} (ho : o.op = .binOp .eql t x y t') (hu : E.P.underlying t = some .bool) (hx : ev x = .g (.lit (.bool a))) (hy : ev y = .g (.lit (.bool b))) (mem : Mem) : Eff E o mem ev (.g (.bool (a == b))) :=
 eff_bin ho hx hy (fun w => ⟨.bool (a == b), by
  have h : (Op.equal t (.bool a) (.bool b)).run E.P w = .ok (a == b) w := run_equalIn_bool' w _ t a b hu
  simp [eqGuard, binOp, h], fun _ => rfl⟩) mem
theorem decode_lo {s : ByteArray} {i : Nat} (h : (s.get! i).toNat < 128) : Utf8.decode s i = ((s.get! i).toNat, 1) := by
 unfold Utf8.decode
 simp [h]
theorem decode_hi {s : ByteArray} {i : Nat} (h : 128 ≤ (s.get! i).toNat) : 128 ≤ (Utf8.decode s i).1 := by
 unfold Utf8.decode;simp only [Nat.add_zero];rw [if_neg (by omega)]
 repeat' split
 all_goals first | assumption | (simp [Utf8.runeError]; done) | (rename_i h2; simp only [Bool.and_eq_true, decide_eq_true_eq] at h2; have h3 := h2.1; dsimp only; omega)
theorem get_toList {s : ByteArray} {i : Nat} (h : i < s.data.toList.length) : s.get! i = s.data.toList[i] := by
 have h' : i < s.data.size := by simpa using h
 show s.data[i]! = _;rw [getElem!_pos s.data i h']
 simp
theorem name_loop (s : ByteArray) : ∀ n pos, s.size ≤ pos + n → s147_l1 (runesF s n pos) = s91_l1 (s.data.toList.drop pos) pos := by
 intro n
 induction n with
 | zero =>
  intro pos h;rw [List.drop_eq_nil_of_le (by simpa using h)]; rfl
 | succ n ih =>
  intro pos h;unfold runesF
  split
  ·rename_i hp
   have hl : pos < s.data.toList.length := by simpa using hp
   rw [List.drop_eq_getElem_cons hl, s147_l1, s91_l1, ← get_toList hl]
   rcases Nat.lt_or_ge (s.get! pos).toNat 128 with hb | hb
   ·rw [decode_lo hb, ih (pos + 1) (by omega)];have e1 : (decide (((pos : Nat) : Int) = 0)) = decide ((pos : Int) = 0) := rfl;dsimp only;rw [Bool.or_comm ((decide ((65 : Int) ≤ _)) && _)]
   ·have hb2 := decode_hi hb
    have c1 : (!(((decide ((65 : Int) ≤ ((Utf8.decode s pos).1 : Int))) && (decide (((Utf8.decode s pos).1 : Int) ≤ 90))) || ((decide ((97 : Int) ≤ ((Utf8.decode s pos).1 : Int))) && (decide (((Utf8.decode s pos).1 : Int) ≤ 122))))) = true := by
     simp; omega
    have c2 : (!(((decide ((97 : Int) ≤ ((s.get! pos).toNat : Int))) && (decide (((s.get! pos).toNat : Int) ≤ 122))) || ((decide ((65 : Int) ≤ ((s.get! pos).toNat : Int))) && (decide (((s.get! pos).toNat : Int) ≤ 90))))) = true := by
     simp; omega
    dsimp only;rw [c1, c2]
    have d1 : (decide (((Utf8.decode s pos).1 : Int) ≠ 95) && (decide (((Utf8.decode s pos).1 : Int) < 48) || decide (57 < ((Utf8.decode s pos).1 : Int)))) = true := by simp; omega
    have d2 : (decide (((s.get! pos).toNat : Int) ≠ 95) && (decide (((s.get! pos).toNat : Int) < 48) || decide (57 < ((s.get! pos).toNat : Int)))) = true := by simp; omega
    rw [d1, d2]; simp
  ·rename_i hp
   rw [List.drop_eq_nil_of_le (by simpa using hp)]; rfl
theorem name_eq (s : ByteArray) : s147 s = s91 s := by
 unfold s147 s91 runes;rw [name_loop s _ 0 (by omega)]; rfl
theorem s1089_eq (s : ByteArray) : s1089 s = s1093 s := by
 unfold s1089 s1093; rw [name_eq, s1086_ite, cond_eq_ite]
theorem movs_l (a : List S1079) : ∀ t k, s1028_l1 t k = s1099_l1 a s1100 t k
 | [], k => rfl
 | y :: t, k => by
  rw [s1028_l1, s1099_l1, ← movs_l a t (k + 1)];unfold s1100 s1028_j2 s1028_j1;rw [s1085_eq, s1086_ite, s1086_ite, name_eq, s1089_eq, s1088_eq, s1088_eq, s1088_eq, s1098_eq];simp only [s89_cons, s89_nil, s1092]
  by_cases c1 : s96 y.Moment = 0 <;> by_cases c2 : y.Kind = ⟨#[65]⟩ <;> by_cases c3 : y.Kind = ⟨#[68]⟩ <;> by_cases c4 : s1093 y.Terminal = 0 <;> by_cases c5 : s90 y.Seats 0 999 = 0 <;> by_cases c6 : s90 y.Size 1 9 = 0 <;> by_cases c7 : s90 y.Noise 0 99 = 0 <;> by_cases c8 : s91 y.Name = true <;> simp [c1, c2, c3, c4, c5, c6, c7, c8]
theorem movs_eq (a : List S1079) : s1028 a = s1027 a := by
 unfold s1028 s1027 s1099;rw [movs_l a a 0]
theorem s89_zero : ∀ (l : List Int), s89 l = 0 ↔ ∀ x ∈ l, x = 0
 | [] => by simp [s89_nil]
 | x :: l => by
  rw [s89_cons]
  by_cases h : x = 0
  ·simp [h, s89_zero l]
  ·simp [h]
theorem s90_zero (a b c : Int) : s90 a b c = 0 ↔ b ≤ a ∧ a ≤ c := by rw [s90_ite]; split <;> simp_all
theorem s96_zero (a : Int) : s96 a = 0 ↔ 0 ≤ a ∧ a ≤ 143999999 := s90_zero _ _ _
theorem s1086_zero (b : Bool) (e : Int) (he : e ≠ 0) : s1086 b e = 0 ↔ b = false := by rw [s1086_ite]; cases b <;> simp [he]
structure TurnOk (t : S1124) : Prop where
 s0 : 0 ≤ t.Start
 se : t.Start ≤ t.End
 e1 : t.End ≤ 143999999
 z0 : 1 ≤ t.Size
 z1 : t.Size ≤ 9
 nm : s91 t.Name = true
structure StandOk (t : S1122) : Prop where
 z0 : 1 ≤ t.Size
 z1 : t.Size ≤ 9
 nm : s91 t.Name = true
structure MovOk (m : S1079) : Prop where
 m0 : 0 ≤ m.Moment
 m1 : m.Moment ≤ 143999999
 s0 : 0 ≤ m.Seats
 s1 : m.Seats ≤ 999
 n0 : 0 ≤ m.Noise
 n1 : m.Noise ≤ 99
 kd : m.Kind = ⟨#[65]⟩ ∨ m.Kind = ⟨#[68]⟩
 nm : s91 m.Name = true
theorem movs_all (a : List S1079) : ∀ t k, s1099_l1 a s1100 t k = 0 → ∀ y ∈ t, MovOk y
 | [], _, _, y, hy => by cases hy
 | z :: t, k, h, y, hy => by
  rw [s1099_l1] at h
  by_cases h0 : s1100 z (List.take (Int.toNat ((k : Nat) : Int)) a) = 0
  ·rw [h0] at h
   rcases List.mem_cons.1 hy with rfl | hy
   ·unfold s1100 at h0;rw [s1085_eq, s89_zero] at h0;simp only [List.mem_cons, List.not_mem_nil, or_false, forall_eq_or_imp, forall_eq] at h0;obtain ⟨g1, g2, _, g3, _, g5, g6⟩ := h0;rw [s1098_eq, s96_zero] at g1;rw [s1086_zero _ _ (by decide)] at g2;rw [s1086_zero _ _ (by decide), name_eq] at g6;rw [s1088_eq, s90_zero] at g3 g5;refine ⟨g1.1, g1.2, g3.1, g3.2, g5.1, g5.2, ?_, by simpa using g6⟩
    by_cases h1 : y.Kind = ⟨#[65]⟩
    ·exact .inl h1
    ·by_cases h2 : y.Kind = ⟨#[68]⟩
     ·exact .inr h2
     ·simp [h1, h2] at g2
   ·exact movs_all a t (k + 1) (by simpa using h) y hy
  ·rw [decide_eq_true h0, cond_true] at h; exact absurd h h0
theorem movs_ok {l : List S1079} (h : s1027 l = 0) : l.length ≤ 256 ∧ ∀ y ∈ l, MovOk y := by
 unfold s1027 s1099 at h
 cases hc : decide ((256 : Int) < (List.length l : Int))
 ·rw [hc] at h;exact ⟨by have := of_decide_eq_false hc; omega, movs_all l l 0 h⟩
 ·rw [hc] at h; simp at h
structure SeatOk (x : S1063) : Prop where
 l0 : 1 ≤ x.Length
 l1 : x.Length ≤ 1440
 s0 : 1 ≤ x.Step
 s1 : x.Step ≤ x.Length
 m0 : 0 ≤ x.Most
 m1 : x.Most ≤ 999999999
 kd : x.Kind = ⟨#[65]⟩ ∨ x.Kind = ⟨#[68]⟩ ∨ x.Kind = ⟨#[84]⟩
theorem mget_mset {K V : Type} [DecidableEq K] (m : List (K × V)) (k j : K) (v : V) : mget (mset m k v) j = if k = j then some v else mget m j := by
 induction m with
 | nil => by_cases h : k = j <;> simp [mset, mget, h]
 | cons p m ih =>
  obtain ⟨a, b⟩ := p
  by_cases ha : a = k
  ·subst ha
   by_cases h : a = j <;> simp [mset, mget, h]
  ·by_cases h : a = j
   ·subst h;have hk : ¬ k = a := fun h => ha h.symm
    simp [mset, mget, ha, hk]
   ·simp [mset, mget, ha, h, ih]
theorem mgetD_mset {K V : Type} [DecidableEq K] (m : List (K × V)) (k j : K) (v z : V) : mgetD (mset m k v) j z = if k = j then v else mgetD m j z := by
 unfold mgetD;rw [mget_mset]
 by_cases h : k = j <;> simp [h]
section
variable {K V : Type} [DecidableEq K]
theorem mset_keys : ∀ (m : List (K × V)) (k : K) (v : V), (mset m k v).map Prod.fst = if k ∈ m.map Prod.fst then m.map Prod.fst else m.map Prod.fst ++ [k]
 | [], k, v => by simp [mset]
 | (a, b) :: r, k, v => by
  rw [mset]
  by_cases hk : a = k
  ·subst hk; simp
  ·have hk' : ¬ k = a := fun e => hk e.symm;rw [decide_eq_false hk, cond_false, List.map_cons, mset_keys r k v]
   by_cases h : k ∈ r.map Prod.fst
   ·rw [if_pos h, if_pos (by simp only [List.map_cons]; exact List.mem_cons_of_mem _ h)]; rfl
   ·rw [if_neg h, if_neg (by simp only [List.map_cons, List.mem_cons]; rintro (e | e); exact hk' e; exact h e)]; rfl
theorem mset_nodup {m : List (K × V)} (h : (m.map Prod.fst).Nodup) (k : K) (v : V) : ((mset m k v).map Prod.fst).Nodup := by
 rw [mset_keys]
 by_cases hk : k ∈ m.map Prod.fst
 ·rw [if_pos hk]; exact h
 ·rw [if_neg hk, List.nodup_append];exact ⟨h, by simp, fun a ha b hb => by rw [List.mem_singleton.1 hb]; intro e; exact hk (e ▸ ha)⟩
def msum (f : V → Int) (m : List (K × V)) : Int := (m.map fun p => f p.2).sum
theorem msum_mset (f : V → Int) (z : V) (hz : f z = 0) : ∀ (m : List (K × V)) (k : K) (v : V), msum f (mset m k v) = msum f m + f v - f (mgetD m k z)
 | [], k, v => by simp [mset, msum, mgetD, mget, hz]
 | (a, b) :: r, k, v => by
  have ih := msum_mset f z hz r k v;unfold msum at ih ⊢;rw [mset]
  by_cases hk : a = k
  ·subst hk; simp [mgetD, mget]; omega
  ·have e : mgetD ((a, b) :: r) k z = mgetD r k z := by simp [mgetD, mget, hk]
   rw [decide_eq_false hk, cond_false, e, List.map_cons, List.map_cons, List.sum_cons, List.sum_cons, ih]
   omega
end
theorem mgetD_of {K V : Type} [DecidableEq K] {z : V} : ∀ {m : List (K × V)}, (m.map Prod.fst).Nodup → ∀ {p : K × V}, p ∈ m → mgetD m p.1 z = p.2
 | [], _, p, hp => by cases hp
 | (a, b) :: r, hn, p, hp => by
  rw [List.map_cons, List.nodup_cons] at hn
  by_cases h : a = p.1
  ·have : p = (a, b) := by
    rcases List.mem_cons.1 hp with e | e
    ·exact e
    ·have h2 := List.mem_map_of_mem (f := Prod.fst) e;rw [← h] at h2; exact absurd h2 hn.1
   subst this; simp [mgetD, mget]
  ·rcases List.mem_cons.1 hp with e | e
   ·subst e; exact absurd rfl h
   ·have ih := mgetD_of (z := z) hn.2 e;rw [← ih]; simp [mgetD, mget, h]
theorem s1120_eq {n : S1085} {m : Int} (h0 : 0 ≤ m) (h1 : m ≤ 143999999) : s1120 n m = if (s1052 n m).2 = true then (s1052 n m).1 else -1 := by
 have e1 : Int.tmod m 1440 = m % 1440 := Int.tmod_eq_emod_of_nonneg h0;have e2 : Int.tdiv m 1440 = m / 1440 := Int.tdiv_eq_ediv_of_nonneg h0;have w1 : IntKind.i64.wrap (m / 1440) = m / 1440 := wrap_i64 (by unfold I64; omega);have w2 : IntKind.i64.wrap (m / 1440 - 1) = m / 1440 - 1 := wrap_i64 (by unfold I64; omega);unfold s1120 s1052;rw [e1, e2, w1, w2]
 have hq : 0 ≤ m / 1440 := by omega
 generalize m / 1440 = q at *;generalize m % 1440 = r at *;simp only [cond_eq_ite, Bool.and_eq_true, Bool.or_eq_true, decide_eq_true_eq]
 by_cases c1 : n.fFrom < n.fTo <;> by_cases c2 : r < n.fFrom <;> by_cases c3 : r < n.fTo <;> by_cases c4 : 0 < q
 all_goals
  have d2 : (n.fFrom ≤ r) = ¬ (r < n.fFrom) := by rw [Int.not_lt]
  have d3 : (n.fTo ≤ r) = ¬ (r < n.fTo) := by rw [Int.not_lt]
  (try simp [c1, c2, c3, c4, d2, d3]) <;> (try omega)
def qd (a0 : S1089) (m : S1079) : Bool := ((s1052 a0.Night m.Moment).2 && decide (beg a0.Season ≤ (s1052 a0.Night m.Moment).1)) && decide ((s1052 a0.Night m.Moment).1 ≤ nxt a0.Season - 1)
theorem qd_eq {a0 : S1089} (hs : okS a0.Season) {m : S1079} (h : MovOk m) : ((decide (beg a0.Season ≤ (s1120 a0.Night m.Moment))) && (decide ((s1120 a0.Night m.Moment) ≤ nxt a0.Season - 1))) = qd a0 m := by
 have hb := beg_rng hs;rw [s1120_eq h.m0 h.m1];unfold qd
 cases (s1052 a0.Night m.Moment).2
 ·simp; omega
 ·simp
section
variable (q : S1079 → Bool)
def cU (l : List S1079) (k : ByteArray) : Int := ((l.filter fun m => q m && decide (m.Name = k)).length : Int)
def pU (l : List S1079) (k : ByteArray) : Int := ((l.filter fun m => q m && decide (m.Name = k)).map S1079.Noise).sum
def cA (l : List S1079) : Int := ((l.filter q).length : Int)
def pA (l : List S1079) : Int := ((l.filter q).map S1079.Noise).sum
theorem sum_rng {l : List S1079} (h : ∀ m ∈ l, 0 ≤ m.Noise ∧ m.Noise ≤ 99) : 0 ≤ (l.map S1079.Noise).sum ∧ (l.map S1079.Noise).sum ≤ 99 * (l.length : Int) := by
 induction l with
 | nil => simp
 | cons a l ih =>
  have h1 := h a List.mem_cons_self;have h2 := ih fun m hm => h m (List.mem_cons_of_mem _ hm);rw [List.map_cons, List.sum_cons, List.length_cons]
  omega
theorem len_filter (p : S1079 → Bool) (l : List S1079) : (l.filter p).length ≤ l.length := List.length_filter_le _ _
theorem flt_rng (p : S1079 → Bool) {l : List S1079} (h : ∀ m ∈ l, 0 ≤ m.Noise ∧ m.Noise ≤ 99) : 0 ≤ ((l.filter p).map S1079.Noise).sum ∧ ((l.filter p).map S1079.Noise).sum ≤ 99 * (l.length : Int) := by
 have h1 := sum_rng (l := l.filter p) fun m hm => h m (List.mem_filter.1 hm).1;have h2 := len_filter p l
 omega
theorem cU_snoc (l : List S1079) (y : S1079) (k : ByteArray) : cU q (l ++ [y]) k = cU q l k + if q y = true ∧ y.Name = k then 1 else 0 := by
 unfold cU;rw [List.filter_append]
 by_cases h : q y = true ∧ y.Name = k
 ·rw [if_pos h]; simp [h.1, h.2]
 ·rw [if_neg h]
  have : (q y && decide (y.Name = k)) = false := by
   cases hq : q y
   ·rfl
   ·simp; exact fun e => h ⟨hq, e⟩
  simp [this]
theorem pU_snoc (l : List S1079) (y : S1079) (k : ByteArray) : pU q (l ++ [y]) k = pU q l k + if q y = true ∧ y.Name = k then y.Noise else 0 := by
 unfold pU;rw [List.filter_append]
 by_cases h : q y = true ∧ y.Name = k
 ·rw [if_pos h]; simp [h.1, h.2]
 ·rw [if_neg h]
  have : (q y && decide (y.Name = k)) = false := by
   cases hq : q y
   ·rfl
   ·simp; exact fun e => h ⟨hq, e⟩
  simp [this]
theorem cA_snoc (l : List S1079) (y : S1079) : cA q (l ++ [y]) = cA q l + if q y = true then 1 else 0 := by
 unfold cA; rw [List.filter_append]; cases h : q y <;> simp [h]
theorem pA_snoc (l : List S1079) (y : S1079) : pA q (l ++ [y]) = pA q l + if q y = true then y.Noise else 0 := by
 unfold pA; rw [List.filter_append]; cases h : q y <;> simp [h]
abbrev Mp := List (ByteArray × S1143)
def tabU : List S1079 → Mp → Mp
 | [], m => m
 | y :: l, m => tabU l (if q y = true then mset m y.Name (S1143.mk (IntKind.i64.wrap (((mgetD m y.Name (S1143.mk 0 0)).Count) + 1)) (IntKind.i64.wrap (((mgetD m y.Name (S1143.mk 0 0)).Points) + y.Noise))) else m)
structure TabOk (pre : List S1079) (m : Mp) : Prop where
 nd : (m.map Prod.fst).Nodup
 ky : ∀ k, k ∈ m.map Prod.fst ↔ 0 < cU q pre k
 vl : ∀ k, mgetD m k (S1143.mk 0 0) = S1143.mk (cU q pre k) (pU q pre k)
 sc : msum S1143.Count m = cA q pre
 sp : msum S1143.Points m = pA q pre
theorem tabU_ok : ∀ (rest pre : List S1079) (m : Mp), (pre ++ rest).length ≤ 1000 → (∀ m ∈ pre ++ rest, 0 ≤ m.Noise ∧ m.Noise ≤ 99) → TabOk q pre m → TabOk q (pre ++ rest) (tabU q rest m)
 | [], pre, m, _, _, h => by rw [List.append_nil]; exact h
 | y :: rest, pre, m, hl, hn, h => by
  have e : pre ++ y :: rest = (pre ++ [y]) ++ rest := by simp
  rw [e, tabU];rw [e] at hl hn;refine tabU_ok rest (pre ++ [y]) _ hl hn ?_
  have hlen : pre.length ≤ 1000 := by simp only [List.length_append] at hl; omega
  have hpn : ∀ m ∈ pre, 0 ≤ m.Noise ∧ m.Noise ≤ 99 := fun m hm => hn m (by simp [hm]);have hyn := hn y (by simp)
  by_cases hq : q y = true
  ·rw [if_pos hq]
   have c1 : 0 ≤ cU q pre y.Name ∧ cU q pre y.Name ≤ pre.length := by unfold cU; have := len_filter (fun m => q m && decide (m.Name = y.Name)) pre; omega
   have c2 : 0 ≤ pU q pre y.Name ∧ pU q pre y.Name ≤ 99 * (pre.length : Int) := flt_rng _ hpn
   have hv : (S1143.mk (IntKind.i64.wrap (((mgetD m y.Name (S1143.mk 0 0)).Count) + 1)) (IntKind.i64.wrap (((mgetD m y.Name (S1143.mk 0 0)).Points) + y.Noise))) = S1143.mk (cU q pre y.Name + 1) (pU q pre y.Name + y.Noise) := by
    rw [h.vl];rw [wrap_i64 (by unfold I64; dsimp only; omega), wrap_i64 (by unfold I64; dsimp only; omega)]
   rw [hv];refine ⟨mset_nodup h.nd _ _, fun k => ?_, fun k => ?_, ?_, ?_⟩
   ·rw [mset_keys, cU_snoc]
    by_cases hk : y.Name = k
    ·subst hk;rw [show (if q y = true ∧ y.Name = y.Name then (1 : Int) else 0) = 1 from if_pos ⟨hq, rfl⟩]
     constructor
     ·intro _; omega
     ·intro _; split
      ·assumption
      ·simp
    ·rw [show (if q y = true ∧ y.Name = k then (1 : Int) else 0) = 0 from if_neg fun e => hk e.2, Int.add_zero, ← h.ky]
     split
     ·rfl
     ·simp; intro e; exact absurd e.symm hk
   ·rw [mgetD_mset, cU_snoc, pU_snoc]
    by_cases hk : y.Name = k
    ·subst hk; rw [if_pos rfl, if_pos ⟨hq, rfl⟩, if_pos ⟨hq, rfl⟩]
    ·rw [if_neg hk, if_neg fun e => hk e.2, if_neg fun e => hk e.2, Int.add_zero, Int.add_zero, h.vl]
   ·rw [msum_mset S1143.Count (S1143.mk 0 0) rfl, h.sc, cA_snoc, if_pos hq, h.vl]; dsimp only; omega
   ·rw [msum_mset S1143.Points (S1143.mk 0 0) rfl, h.sp, pA_snoc, if_pos hq, h.vl]; dsimp only; omega
  ·rw [if_neg hq];refine ⟨h.nd, fun k => ?_, fun k => ?_, ?_, ?_⟩
   ·rw [cU_snoc, if_neg fun e => hq e.1, Int.add_zero]; exact h.ky k
   ·rw [cU_snoc, pU_snoc, if_neg fun e => hq e.1, if_neg fun e => hq e.1, Int.add_zero, Int.add_zero]; exact h.vl k
   ·rw [cA_snoc, if_neg hq, Int.add_zero]; exact h.sc
   ·rw [pA_snoc, if_neg hq, Int.add_zero]; exact h.sp
theorem tabU_nil : TabOk q [] [] := ⟨List.nodup_nil, fun k => by simp [cU], fun k => rfl, rfl, rfl⟩
end
theorem s1132_run {a0 : S1089} (hs : okS a0.Season) : ∀ (l : List S1079) (k : Nat) (m : Mp), (∀ m ∈ l, MovOk m) → s1132_l1 a0 (⟨beg a0.Season, nxt a0.Season - 1, 127⟩, 0) l k m = some (tabU (qd a0) l m)
 | [], k, m, _ => rfl
 | y :: l, k, m, h => by
  rw [s1132_l1];unfold s1132_j1;have e := qd_eq hs (h y List.mem_cons_self);rw [show ((decide (beg a0.Season ≤ (s1120 a0.Night y.Moment))) && (decide ((s1120 a0.Night y.Moment) ≤ nxt a0.Season - 1))) = qd a0 y from e, tabU]
  cases hq : qd a0 y
  ·rw [cond_false, if_neg (by simp)]; dsimp only; rw [s1132_run hs l _ _ fun m hm => h m (List.mem_cons_of_mem _ hm)]
  ·rw [cond_true, if_pos rfl]; dsimp only; rw [s1132_run hs l _ _ fun m hm => h m (List.mem_cons_of_mem _ hm)]
theorem s1132_ok {a0 : S1089} (hs : okS a0.Season) {l : List S1079} (h : ∀ m ∈ l, MovOk m) (hl : l.length ≤ 12) : ∃ m, s1132 a0 l = some m ∧ TabOk (qd a0) l m := by
 refine ⟨tabU (qd a0) l [], ?_, ?_⟩
 ·unfold s1132;rw [s70_ok hs];exact s1132_run hs l 0 [] h
 ·have := tabU_ok (qd a0) l [] [] (by simp; omega) (fun m hm => by have := h m (by simpa using hm); exact ⟨this.n0, this.n1⟩) (tabU_nil _)
  simpa using this
section
variable (q : S1079 → Bool) (l : List S1079)
theorem rows_lt {m : Mp} (hn : (m.map Prod.fst).Nodup) : (isort ltR (m.map rowOf)).Pairwise (fun a b => strLt a.Name b.Name = true) := by
 have hp := isort_perm ltR (m.map rowOf)
 have h1 : ((isort ltR (m.map rowOf)).map S1154.Name).Nodup := by
  rw [(hp.map S1154.Name).nodup_iff, List.map_map];exact hn
 have h2 : (isort ltR (m.map rowOf)).Pairwise (fun a b => a.Name ≠ b.Name) := List.pairwise_map.1 h1;refine (isortR_sorted (m.map rowOf)).imp₂ (fun a b h k => ?_) h2
 cases hc : strLt a.Name b.Name
 ·exact absurd (sl_tri hc h) k
 ·rfl
theorem rows_mem {m : Mp} (h : TabOk q l m) (x : S1154) : x ∈ isort ltR (m.map rowOf) ↔ 0 < cU q l x.Name ∧ x.Sum = ⟨cU q l x.Name, pU q l x.Name⟩ := by
 rw [(isort_perm ltR (m.map rowOf)).mem_iff, List.mem_map]
 constructor
 ·rintro ⟨p, hp, rfl⟩;have h1 : p.1 ∈ m.map Prod.fst := List.mem_map_of_mem hp;have h2 := mgetD_of (z := S1143.mk 0 0) h.nd hp;rw [h.vl] at h2;refine ⟨(h.ky _).1 h1, ?_⟩;show S1143.mk p.2.Count p.2.Points = _;rw [← h2]; rfl
 ·rintro ⟨h1, h2⟩;obtain ⟨p, hp, h3⟩ := List.mem_map.1 ((h.ky _).2 h1);have h4 := mgetD_of (z := S1143.mk 0 0) h.nd hp;rw [h.vl] at h4;refine ⟨p, hp, ?_⟩;obtain ⟨xn, xs⟩ := x;simp only at h2 h3 h1 ⊢;subst h3;unfold rowOf;rw [h2, h4]
end
structure RefOk (q : S1079 → Bool) (l pre : List S1079) (out : List S1156) : Prop where
 st : out.Pairwise (fun a b => strLt a.Name b.Name = true)
 mm : ∀ x, x ∈ out ↔ (∃ m ∈ pre, m.Name = x.Name) ∧ 0 < cU q l x.Name ∧ x.Sum = ⟨cU q l x.Name, pU q l x.Name⟩
theorem cU_pos {q : S1079 → Bool} {l : List S1079} {k : ByteArray} (h : 0 < cU q l k) : ∃ m ∈ l, m.Name = k := by
 unfold cU at h
 have h1 : 0 < (l.filter fun m => q m && decide (m.Name = k)).length := by omega
 obtain ⟨m, hm⟩ := List.exists_mem_of_length_pos h1;have := List.mem_filter.1 hm;exact ⟨m, this.1, by have := this.2; simp at this; exact this.2⟩
theorem quota_in {a0 : S1089} (h : s1047 a0 = 0) : s1051 a0.Night = 0 ∧ okS a0.Season ∧ (0 ≤ a0.Count ∧ a0.Count ≤ 100000) ∧ (0 ≤ a0.Points ∧ a0.Points ≤ 100000) := by
 unfold s1047 at h;rw [s1085_eq, s89_zero] at h;refine ⟨?_, ?_, ?_, ?_⟩
 ·have := h (s1117 (S1085.mk a0.Night.fFrom a0.Night.fTo)) (by simp);rw [s1117_eq] at this; exact this
 ·have := h (s107 (S67.mk a0.Season.Year a0.Season.Kind)) (by simp);rw [s107_eq, s41_zero] at this; exact this
 ·have := h (s1088 a0.Count 0 100000) (by simp);rw [s1088_eq, s90_zero] at this; exact this
 ·have := h (s1088 a0.Points 0 100000) (by simp);rw [s1088_eq, s90_zero] at this; exact this
theorem s1051_zero (n : S1085) : s1051 n = 0 ↔ (0 ≤ n.fFrom ∧ n.fFrom ≤ 1439) ∧ (0 ≤ n.fTo ∧ n.fTo ≤ 1439) ∧ n.fFrom ≠ n.fTo := by
 unfold s1051 s1051_j1;have h1 := s90_zero n.fFrom 0 1439;have h2 := s90_zero n.fTo 0 1439;simp only [s89_cons, s89_nil]
 by_cases c1 : s90 n.fFrom 0 1439 = 0 <;> by_cases c2 : s90 n.fTo 0 1439 = 0 <;> by_cases c3 : n.fFrom = n.fTo
 all_goals (first | rw [h1] at c1 | skip)
 all_goals simp_all
theorem quota_mk {a0 : S1089} (h : s1047 a0 = 0) : s1047 (S1089.mk (S1085.mk a0.Night.fTo a0.Night.fFrom) (S67.mk a0.Season.Year a0.Season.Kind) a0.Count a0.Points) = 0 := by
 obtain ⟨h1, h2, h3, h4⟩ := quota_in h;unfold s1047;rw [s1085_eq, s89_zero];intro x hx;simp only [List.mem_cons, List.not_mem_nil, or_false] at hx
 rcases hx with rfl | rfl | rfl | rfl
 ·rw [s1117_eq];rw [s1051_zero] at h1 ⊢;exact ⟨h1.2.1, h1.1, fun e => h1.2.2 e.symm⟩
 ·rw [s107_eq]; exact (s41_zero _).2 h2
 ·rw [s1088_eq, s90_zero]; exact h3
 ·rw [s1088_eq, s90_zero]; exact h4
theorem used_ok {a0 : S1089} {l : List S1079} (hz : s89 [s1047 a0, s1027 l] = 0) (hl : l.length ≤ 12) : s1071 a0 l = some (⟨cA (qd a0) l, pA (qd a0) l⟩, 0) ∧ (0 ≤ cA (qd a0) l ∧ cA (qd a0) l ≤ l.length) ∧ (0 ≤ pA (qd a0) l ∧ pA (qd a0) l ≤ 1188) ∧
  ∃ m, TabOk (qd a0) l m ∧ s1073 a0 l = some (isort ltR (m.map rowOf), 0) := by
 have hz2 := hz;rw [s89_zero] at hz2;have hm := movs_ok (l := l) (hz2 (s1027 l) (by simp));obtain ⟨_, hs, _, _⟩ := quota_in (hz2 (s1047 a0) (by simp));obtain ⟨m, hm1, hm2⟩ := s1132_ok hs hm.2 hl;have hno : ∀ x ∈ l, 0 ≤ x.Noise ∧ x.Noise ≤ 99 := fun x hx => ⟨(hm.2 x hx).n0, (hm.2 x hx).n1⟩
 have c1 : 0 ≤ cA (qd a0) l ∧ cA (qd a0) l ≤ l.length := by unfold cA; have := len_filter (qd a0) l; omega
 have c2 : 0 ≤ pA (qd a0) l ∧ pA (qd a0) l ≤ 1188 := by have := flt_rng (qd a0) hno; unfold pA; omega
 refine ⟨?_, c1, c2, m, hm2, ?_⟩
 ·unfold s1071;rw [s1085_eq, hz, hm1];simp only [bindO, ne_eq, not_true_eq_false, decide_false, cond_false];unfold s1071_e1;rw [b1_sum0];have h1 := hm2.sc;have h2 := hm2.sp;unfold msum at h1 h2;rw [h1, h2, wrap_i64 (by unfold I64; omega), wrap_i64 (by unfold I64; omega)]
 ·unfold s1073;rw [s1085_eq, hz, hm1];simp only [bindO, ne_eq, not_true_eq_false, decide_false, cond_false];rw [b2_map, e2_eq, List.nil_append]
theorem s1052_plain (n : S1085) {m : Int} (h0 : 0 ≤ m) (h1 : m ≤ 143999999) : s1052 n m = if n.fFrom < n.fTo then (m / 1440, decide (n.fFrom ≤ m % 1440) && decide (m % 1440 < n.fTo)) else if n.fFrom ≤ m % 1440 then (m / 1440, true) else (m / 1440 - 1, decide (m % 1440 < n.fTo) && decide (0 < m / 1440)) := by
 have e1 : Int.tmod m 1440 = m % 1440 := Int.tmod_eq_emod_of_nonneg h0;have e2 : Int.tdiv m 1440 = m / 1440 := Int.tdiv_eq_ediv_of_nonneg h0;have w1 : IntKind.i64.wrap (m / 1440) = m / 1440 := wrap_i64 (by unfold I64; omega);have w2 : IntKind.i64.wrap (m / 1440 - 1) = m / 1440 - 1 := wrap_i64 (by unfold I64; omega);unfold s1052;rw [e1, e2, w1, w2];simp only [cond_eq_ite, decide_eq_true_eq]
theorem rest_not {n : S1085} (hn : s1051 n = 0) {m : Int} (h0 : 0 ≤ m) (h1 : m ≤ 143999999) (hq : 1440 ≤ m) : (s1052 (S1085.mk n.fTo n.fFrom) m).2 = !(s1052 n m).2 := by
 rw [s1051_zero] at hn;rw [s1052_plain _ h0 h1, s1052_plain _ h0 h1]
 have hr : 0 ≤ m % 1440 ∧ m % 1440 < 1440 := by omega
 have hq2 : 0 < m / 1440 := by omega
 generalize m / 1440 = q at *;generalize m % 1440 = r at *;dsimp only
 have d0 : (n.fTo < n.fFrom) = ¬ n.fFrom < n.fTo := by apply propext; omega
 by_cases c1 : n.fFrom < n.fTo <;> by_cases c2 : r < n.fFrom <;> by_cases c3 : r < n.fTo
 all_goals
  have d2 : (n.fFrom ≤ r) = ¬ (r < n.fFrom) := by rw [Int.not_lt]
  have d3 : (n.fTo ≤ r) = ¬ (r < n.fTo) := by rw [Int.not_lt]
  (try simp [c1, c2, c3, d0, d2, d3, hq2]) <;> (try omega)
theorem rest_not0 {n : S1085} (hn : s1051 n = 0) {m : Int} (h0 : 0 ≤ m) (h1 : m ≤ 143999999) (h : (s1052 n m).2 = true) : (s1052 (S1085.mk n.fTo n.fFrom) m).2 = false := by
 rw [s1051_zero] at hn;rw [s1052_plain _ h0 h1] at h ⊢
 have hr : 0 ≤ m % 1440 ∧ m % 1440 < 1440 := by omega
 generalize m / 1440 = q at *;generalize m % 1440 = r at *;dsimp only at h ⊢
 have d0 : (n.fTo < n.fFrom) = ¬ n.fFrom < n.fTo := by apply propext; omega
 by_cases c1 : n.fFrom < n.fTo <;> by_cases c2 : r < n.fFrom <;> by_cases c3 : r < n.fTo
 all_goals
  have d2 : (n.fFrom ≤ r) = ¬ (r < n.fFrom) := by rw [Int.not_lt]
  have d3 : (n.fTo ≤ r) = ¬ (r < n.fTo) := by rw [Int.not_lt]
  (try simp [c1, c2, c3, d0, d2, d3] at h ⊢) <;> (try omega)
theorem night_in {n : S1085} (hn : s1051 n = 0) {m : Int} (h0 : 0 ≤ m) (h1 : m ≤ 143999999) (h : (s1052 n m).2 = true) : 1440 * (s1052 n m).1 + n.fFrom ≤ m ∧ m < 1440 * ((s1052 n m).1 + 1) + n.fFrom ∧ m / 1440 - 1 ≤ (s1052 n m).1 ∧ (s1052 n m).1 ≤ m / 1440 := by
 rw [s1051_zero] at hn;rw [s1052_plain _ h0 h1] at h ⊢
 have hr : 0 ≤ m % 1440 ∧ m % 1440 < 1440 := by omega
 have hm : m = 1440 * (m / 1440) + m % 1440 := by omega
 generalize m / 1440 = q at *;generalize m % 1440 = r at *
 by_cases c1 : n.fFrom < n.fTo
 ·rw [if_pos c1] at h ⊢
  simp at h
  simp only
  omega
 ·rw [if_neg c1] at h ⊢
  by_cases c2 : n.fFrom ≤ r
  ·rw [if_pos c2] at h ⊢
   simp only
   omega
  ·rw [if_neg c2] at h ⊢
   simp at h
   simp only
   omega
theorem season_long {s : S67} (h : okS s) : beg s + 140 ≤ nxt s := by
 obtain ⟨y, k⟩ := s;obtain ⟨h1, h2, _⟩ := h;have h1 : 2000 ≤ y := h1;have h2 : y ≤ 2272 := h2;have c1 := sun_rng (N3 y);have c2 := sun_rng (N10 y);have c3 := sun_rng (N3 (y + 1))
 have e0 : (y + 1 - 2000).toNat = (y - 2000).toNat + 1 := by omega
 have e1 : (2000 + ((y - 2000).toNat : Int)) = y := by omega
 have d1 := Dy_next (y - 2000).toNat;rw [e1] at d1;have l1 := lp_rng y;have l2 := lp_rng (y + 1);unfold beg nxt
 by_cases hk : k = kS
 ·rw [if_pos hk, if_pos hk]
  have : N10 y = N3 y + 214 := by unfold N10 N3; omega
  simp only; omega
 ·rw [if_neg hk, if_neg hk]
  have : N3 (y + 1) = N10 y + 151 + lp (y + 1) := by unfold N10 N3; rw [e0, d1]; omega
  simp only; omega
def midL (b : Int) : Nat → List S1079 → List S1079
 | _, [] => []
 | k, y :: t => (S1079.mk (1440 * (b + 30 + (k : Int)) + y.Moment % 1440) y.Kind y.Terminal y.Seats y.Size y.Noise y.Name) :: midL b (k + 1) t
theorem midL_len (b : Int) : ∀ (l : List S1079) (k : Nat), (midL b k l).length = l.length
 | [], k => rfl
 | y :: t, k => by rw [midL, List.length_cons, midL_len b t]; rfl
theorem midL_noise (b : Int) : ∀ (l : List S1079) (k : Nat), (midL b k l).map S1079.Noise = l.map S1079.Noise
 | [], k => rfl
 | y :: t, k => by rw [midL, List.map_cons, midL_noise b t]; rfl
theorem midL_mem {b : Int} : ∀ {l : List S1079} {k : Nat} {z : S1079}, z ∈ midL b k l → ∃ (y : S1079) (i : Nat), y ∈ l ∧ k ≤ i ∧ i < k + l.length ∧ z = S1079.mk (1440 * (b + 30 + (i : Int)) + y.Moment % 1440) y.Kind y.Terminal y.Seats y.Size y.Noise y.Name
 | [], k, z, h => by cases h
 | y :: t, k, z, h => by
  rw [midL] at h
  rcases List.mem_cons.1 h with e | h
  ·exact ⟨y, k, List.mem_cons_self, Nat.le_refl _, by simp, e⟩
  ·obtain ⟨w, i, h1, h2, h3, h4⟩ := midL_mem h;exact ⟨w, i, List.mem_cons_of_mem _ h1, by omega, by rw [List.length_cons]; omega, h4⟩
theorem movs_zero (a : List S1079) : ∀ (t : List S1079) (k : Nat), s1099_l1 a s1100 t k = 0 ↔ ∀ y ∈ t, s1100 y [] = 0
 | [], k => by simp [s1099_l1]
 | y :: t, k => by
  rw [s1099_l1];have e : s1100 y (List.take (Int.toNat ((k : Nat) : Int)) a) = s1100 y [] := rfl;rw [e]
  by_cases h : s1100 y [] = 0
  ·rw [decide_eq_false (fun hn => hn h), cond_false, movs_zero a t]; simp [h]
  ·rw [decide_eq_true h, cond_true]
   constructor
   ·intro h2; exact absurd h2 h
   ·intro h2; exact absurd (h2 y List.mem_cons_self) h
theorem movs_iff (l : List S1079) : s1027 l = 0 ↔ l.length ≤ 256 ∧ ∀ y ∈ l, s1100 y [] = 0 := by
 unfold s1027 s1099
 by_cases h : (256 : Int) < (List.length l : Int)
 ·rw [decide_eq_true h, cond_true]
  constructor
  ·intro e; exact absurd e (by decide)
  ·intro e; exact absurd e.1 (by omega)
 ·rw [decide_eq_false h, cond_false, movs_zero]
  constructor
  ·intro e; exact ⟨by omega, e⟩
  ·intro e; exact e.2
theorem s1100_move {y : S1079} {m : Int} (h : s1100 y [] = 0) (h0 : 0 ≤ m) (h1 : m ≤ 143999999) : s1100 (S1079.mk m y.Kind y.Terminal y.Seats y.Size y.Noise y.Name) [] = 0 := by
 unfold s1100 at *;rw [s1085_eq, s89_zero] at *;intro x hx
 rcases List.mem_cons.1 hx with e | hx
 ·rw [e, s1098_eq, s96_zero]; exact ⟨h0, h1⟩
 ·exact h x (List.mem_cons_of_mem _ hx)
theorem part_sum {q1 q2 : S1079 → Bool} : ∀ {l : List S1079}, (∀ z ∈ l, q2 z = !q1 z) → cA q1 l + cA q2 l = l.length ∧ pA q1 l + pA q2 l = (l.map S1079.Noise).sum
 | [], _ => by simp [cA, pA]
 | z :: l, h => by
  have ih := part_sum fun x hx => h x (List.mem_cons_of_mem _ hx);have hz := h z List.mem_cons_self;unfold cA pA at *
  cases h1 : q1 z
  ·rw [h1] at hz;rw [List.filter_cons_of_neg (by simp [h1]), List.filter_cons_of_pos (by simp [hz])];simp only [List.map_cons, List.sum_cons, List.length_cons]
   push_cast
   omega
  ·rw [h1] at hz;rw [List.filter_cons_of_pos (by simp [h1]), List.filter_cons_of_neg (by simp [hz])];simp only [List.map_cons, List.sum_cons, List.length_cons]
   push_cast
   omega
theorem tile14 {a0 : S1089} {a1 : List S1079} {P Q R S T : Prop} (h : (((((P ∧ Q) ∧ ¬ s1048 (s1049 a0) ≠ 0) ∧ ¬ (8 : Int) < (a1.length : Int)) ∧ R) ∧ S) ∧ T) : a1.length ≤ 8 ∧ 2000 ≤ a0.Season.Year ∧ a0.Season.Year ≤ 2999 := by
 have h2 := Decidable.not_not.1 h.1.1.1.1.2;rw [← s1047_eq] at h2;unfold s1047 at h2;rw [s1085_eq, s89_zero] at h2;have h3 := h2 (s107 a0.Season) (by simp);rw [s107_eq, s41_zero] at h3;exact ⟨by have := h.1.1.1.2; omega, h3.1, by have := h3.2.1; omega⟩
end Go.Sim
