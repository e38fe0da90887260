/-
  What is proved: lemmas and contracts of functions on the way to the law topChockLots (part 11).
-/
import Derived.Test.YtnknncfgbefpeaaGreatVrB1
import Derived.Test.YtnknncfgbefpeaaGreatVrA9
import Derived.Test.YtnknncfgbefpeaaGreatVrA5
import Derived.Test.YtnknncfgbefpeaaGreatVrA3
import Derived.Test.YtnknncfgbefpeaaGreatVrA8
import Derived.RangeFuncBound
set_option linter.unusedSectionVars false
set_option linter.unusedSimpArgs false
set_option linter.unusedVariables false
set_option linter.unnecessarySimpa false
set_option linter.deprecated false
namespace Go.Ex
open Go.Proofs
def isInt (n : Int) : Re (V × H × Nat) → Bool
 | .ok (.lit (.int .i64 m), _, _) => m == n
 | _ => false
theorem vd {n : Int} {r : Re (V × H × Nat)} (h : isInt n r = true) : ∃ h' c', r = .ok (.lit (.int .i64 n), h', c') := by
 unfold isInt at h
 split at h
 ·rename_i m h' c'; exact ⟨h', c', by rw [of_decide_eq_true (by simpa using h) |> fun (e : m = n) => e]⟩
 ·cases h
def lenT (n : Int) : Int := bif decide (n ≤ 0) then 0 else bif decide (n ≤ 1) then 1 else bif decide (n ≤ 3) then 2 else bif decide (n ≤ 7) then 3 else 4
theorem qv2 : isInt 0 (call Tryz.prog gl (fun _ _ _ _ _ => none) 40 (.fn 63) [.lit (.int .u64 0)] h0 1000 1000) = true := by kernel_rfl
theorem qv3 : Sim.Con (Sim.EG Sim.glT) 63 [Sim.G.lit (.int .u64 0)] (Sim.G.int 0) := by
 obtain ⟨h', c', h⟩ := vd qv2;exact jr (vs := [.int .u64 0]) ve kl (by decide) (qco (by decide)) h
theorem qv4 : isInt 1 (call Tryz.prog gl (fun _ _ _ _ _ => none) 40 (.fn 63) [.lit (.int .u64 1)] h0 1000 1000) = true := by kernel_rfl
theorem qv5 : Sim.Con (Sim.EG Sim.glT) 63 [Sim.G.lit (.int .u64 1)] (Sim.G.int 1) := by
 obtain ⟨h', c', h⟩ := vd qv4;exact jr (vs := [.int .u64 1]) ve kl (by decide) (qco (by decide)) h
theorem qv6 : isInt 2 (call Tryz.prog gl (fun _ _ _ _ _ => none) 40 (.fn 63) [.lit (.int .u64 2)] h0 1000 1000) = true := by kernel_rfl
theorem qv7 : Sim.Con (Sim.EG Sim.glT) 63 [Sim.G.lit (.int .u64 2)] (Sim.G.int 2) := by
 obtain ⟨h', c', h⟩ := vd qv6;exact jr (vs := [.int .u64 2]) ve kl (by decide) (qco (by decide)) h
theorem qv8 : isInt 2 (call Tryz.prog gl (fun _ _ _ _ _ => none) 40 (.fn 63) [.lit (.int .u64 3)] h0 1000 1000) = true := by kernel_rfl
theorem qv9 : Sim.Con (Sim.EG Sim.glT) 63 [Sim.G.lit (.int .u64 3)] (Sim.G.int 2) := by
 obtain ⟨h', c', h⟩ := vd qv8;exact jr (vs := [.int .u64 3]) ve kl (by decide) (qco (by decide)) h
theorem qwa : isInt 3 (call Tryz.prog gl (fun _ _ _ _ _ => none) 40 (.fn 63) [.lit (.int .u64 4)] h0 1000 1000) = true := by kernel_rfl
theorem qwb : Sim.Con (Sim.EG Sim.glT) 63 [Sim.G.lit (.int .u64 4)] (Sim.G.int 3) := by
 obtain ⟨h', c', h⟩ := vd qwa;exact jr (vs := [.int .u64 4]) ve kl (by decide) (qco (by decide)) h
theorem qwc : isInt 3 (call Tryz.prog gl (fun _ _ _ _ _ => none) 40 (.fn 63) [.lit (.int .u64 5)] h0 1000 1000) = true := by kernel_rfl
theorem qwd : Sim.Con (Sim.EG Sim.glT) 63 [Sim.G.lit (.int .u64 5)] (Sim.G.int 3) := by
 obtain ⟨h', c', h⟩ := vd qwc;exact jr (vs := [.int .u64 5]) ve kl (by decide) (qco (by decide)) h
theorem qwe : isInt 3 (call Tryz.prog gl (fun _ _ _ _ _ => none) 40 (.fn 63) [.lit (.int .u64 6)] h0 1000 1000) = true := by kernel_rfl
theorem qwf : Sim.Con (Sim.EG Sim.glT) 63 [Sim.G.lit (.int .u64 6)] (Sim.G.int 3) := by
 obtain ⟨h', c', h⟩ := vd qwe;exact jr (vs := [.int .u64 6]) ve kl (by decide) (qco (by decide)) h
theorem qwg : isInt 3 (call Tryz.prog gl (fun _ _ _ _ _ => none) 40 (.fn 63) [.lit (.int .u64 7)] h0 1000 1000) = true := by kernel_rfl
theorem qwh : Sim.Con (Sim.EG Sim.glT) 63 [Sim.G.lit (.int .u64 7)] (Sim.G.int 3) := by
 obtain ⟨h', c', h⟩ := vd qwg;exact jr (vs := [.int .u64 7]) ve kl (by decide) (qco (by decide)) h
theorem qwi : isInt 4 (call Tryz.prog gl (fun _ _ _ _ _ => none) 40 (.fn 63) [.lit (.int .u64 8)] h0 1000 1000) = true := by kernel_rfl
theorem qwj : Sim.Con (Sim.EG Sim.glT) 63 [Sim.G.lit (.int .u64 8)] (Sim.G.int 4) := by
 obtain ⟨h', c', h⟩ := vd qwi;exact jr (vs := [.int .u64 8]) ve kl (by decide) (qco (by decide)) h
theorem qwk : isInt 4 (call Tryz.prog gl (fun _ _ _ _ _ => none) 40 (.fn 63) [.lit (.int .u64 9)] h0 1000 1000) = true := by kernel_rfl
theorem qwl : Sim.Con (Sim.EG Sim.glT) 63 [Sim.G.lit (.int .u64 9)] (Sim.G.int 4) := by
 obtain ⟨h', c', h⟩ := vd qwk;exact jr (vs := [.int .u64 9]) ve kl (by decide) (qco (by decide)) h
theorem qtl : isInt 4 (call Tryz.prog gl (fun _ _ _ _ _ => none) 40 (.fn 63) [.lit (.int .u64 10)] h0 1000 1000) = true := by kernel_rfl
theorem qtm : Sim.Con (Sim.EG Sim.glT) 63 [Sim.G.lit (.int .u64 10)] (Sim.G.int 4) := by
 obtain ⟨h', c', h⟩ := vd qtl;exact jr (vs := [.int .u64 10]) ve kl (by decide) (qco (by decide)) h
theorem qtn : isInt 4 (call Tryz.prog gl (fun _ _ _ _ _ => none) 40 (.fn 63) [.lit (.int .u64 11)] h0 1000 1000) = true := by kernel_rfl
theorem qto : Sim.Con (Sim.EG Sim.glT) 63 [Sim.G.lit (.int .u64 11)] (Sim.G.int 4) := by
 obtain ⟨h', c', h⟩ := vd qtn;exact jr (vs := [.int .u64 11]) ve kl (by decide) (qco (by decide)) h
theorem qtp : isInt 4 (call Tryz.prog gl (fun _ _ _ _ _ => none) 40 (.fn 63) [.lit (.int .u64 12)] h0 1000 1000) = true := by kernel_rfl
theorem qtq : Sim.Con (Sim.EG Sim.glT) 63 [Sim.G.lit (.int .u64 12)] (Sim.G.int 4) := by
 obtain ⟨h', c', h⟩ := vd qtp;exact jr (vs := [.int .u64 12]) ve kl (by decide) (qco (by decide)) h
end Go.Ex
namespace Go.Sim
open Go.Proofs Go.Ex
def lenU (n : Int) : Int := lenT n
theorem c182 (n : Int) (h : 0 ≤ n ∧ n ≤ 12) : Con (EG glT) 63 [G.lit (.int .u64 n)] (G.int (lenU n)) := by
 have : n = 0 ∨ n = 1 ∨ n = 2 ∨ n = 3 ∨ n = 4 ∨ n = 5 ∨ n = 6 ∨ n = 7 ∨ n = 8 ∨ n = 9 ∨ n = 10 ∨ n = 11 ∨ n = 12 := by omega
 rcases this with rfl | rfl | rfl | rfl | rfl | rfl | rfl | rfl | rfl | rfl | rfl | rfl | rfl
 ·exact qv3
 ·exact qv5
 ·exact qv7
 ·exact qv9
 ·exact qwb
 ·exact qwd
 ·exact qwf
 ·exact qwh
 ·exact qwj
 ·exact qwl
 ·exact qtm
 ·exact qto
 ·exact qtq
theorem q0i (n : Int) (h : 0 ≤ n ∧ n ≤ 12) : Con (EG glT) 63 [G.lit (.int .u64 (IntKind.u64.wrap n))] (G.int (lenU n)) := by
 have : IntKind.u64.wrap n = n := by
  have : n = 0 ∨ n = 1 ∨ n = 2 ∨ n = 3 ∨ n = 4 ∨ n = 5 ∨ n = 6 ∨ n = 7 ∨ n = 8 ∨ n = 9 ∨ n = 10 ∨ n = 11 ∨ n = 12 := by omega
  rcases this with rfl | rfl | rfl | rfl | rfl | rfl | rfl | rfl | rfl | rfl | rfl | rfl | rfl <;> decide
 rw [this]; exact c182 n h
end Go.Sim
set_option maxRecDepth 10000
namespace Go.Sim
open Go.Proofs
def s4062_l1 (a0 : List Int) (a4 : Int → Int → Option Int) : Nat → Int → Int → Int → Bool → Bool → Option (List Int)
 | 0, _, _, _, _, _ => none
 | k6 + 1, x1, x2, x3, x4, x5 => bindO (s252 a0 x1 x2 a4) fun r7 => some r7
def s4062 (a0 : List Int) (a1 : Int) (a2 : Int) (a3 : Int) (a4 : Int → Int → Option Int) : Option (List Int) :=
 s4062_l1 a0 a4 ((0) + 1) a1 a2 a3 true true
theorem q0j {g : List (Nat × List Value)} (a0 : List Int) (a1 : Int) (a2 : Int) (a3 : Int) (a4 : Int → Int → Option Int) {R : List Int} {N0 : Nat} (hN0 : List.length a0 = N0) {ca4 : G} {ia4 : FuncId} {ka4 : List G} (ha4 : FnIs ca4 ia4 ka4) (Ka4 : Known Tryz.prog ia4) (Ha4 : ∀ (x0 : Int) (x1 : Int) (r : Int), a4 x0 x1 = some r → Con (EG g) ia4 ([G.int x0, G.int x1] ++ ka4) (G.int r)) (hA : 0 ≤ a1) (hA2 : a1 ≤ 12) (hB0 : 0 ≤ a2) (hB : a2 ≤ 12) (hR : s4062 a0 a1 a2 a3 a4 = some R) : ConB (EG g) 62 [.osl 0 1 0 N0, .g (G.int a1), .g (G.int a2), .g (G.int a3), .g (ca4)] [(0, .arr 3 1 (List.map cInt a0))] (G.tup []) [(0, .arr 3 1 (List.map cInt R))] := by
 unfold s4062 at hR;refine qcr Tryz.func62 rfl rfl rfl fun w0 M0 x => ?_;refine qje (f := cInt) (l := a0) 0 rfl fun hla0 => ?_;refine qd ?_;refine qb [.p] ?_;refine st rfl rfl (qc rfl rfl) rfl ?_;refine qe ?_;refine qd ?_;refine qb [.p] ?_;refine st rfl rfl (qc rfl rfl) rfl ?_;refine qe ?_;refine qt ?_;refine zc (γ := Nat × Int × Int × Int × Bool × Bool) (fun g => ([(0, .osl 0 1 0 (N0)), (1, .g (G.int g.2.1)), (2, .g (G.int g.2.2.1)), (3, .g (G.int g.2.2.2.1)), (4, .g (ca4)), (10, .g (G.bool g.2.2.2.2.1)), (11, .g (G.bool g.2.2.2.2.2))], [(0, .arr 3 1 (List.map cInt a0))])) (fun g => 0 < g.1 ∧ 0 ≤ g.2.1 ∧ g.2.1 ≤ 12 ∧ 0 ≤ g.2.2.1 ∧ g.2.2.1 ≤ 12 ∧ s4062_l1 a0 a4 g.1 g.2.1 g.2.2.1 g.2.2.2.1 g.2.2.2.2.1 g.2.2.2.2.2 = some R) (fun g => g.1) ⟨rfl, ((0) + 1, a1, a2, a3, true, true), ⟨rfl, rfl, rfl, rfl, rfl, rfl, rfl, trivial⟩, ⟨rfl, trivial⟩, rfl, ⟨Nat.lt_succ_self _, (by first | omega | (dsimp only; omega) | simp), (by first | omega | (dsimp only; omega) | simp), (by first | omega | (dsimp only; omega) | simp), (by first | omega | (dsimp only; omega) | simp), (by exact hR)⟩, trivial⟩ ?_
 ·rintro ⟨k6, x1, x2, x3, x4, x5⟩ ⟨hk1, iv1_0, iv1_1, iv1_2, iv1_3, hR⟩;replace hk1 : 0 < k6 := hk1;replace hR : s4062_l1 a0 a4 k6 x1 x2 x3 x4 x5 = some R := hR;replace iv1_0 : 0 ≤ x1 := iv1_0;replace iv1_1 : x1 ≤ 12 := iv1_1;replace iv1_2 : 0 ≤ x2 := iv1_2;replace iv1_3 : x2 ≤ 12 := iv1_3;obtain ⟨k6, rfl⟩ : ∃ m, k6 = m + 1 := ⟨k6 - 1, by omega⟩;rw [s4062_l1] at hR;(try dsimp only at hR);refine qt ?_;refine qd ?_;refine qb [.p, .p, .p, .p] ?_;refine st rfl rfl (qa rfl rfl) rfl ?_;refine st rfl rfl (qa rfl rfl) rfl ?_;refine st rfl rfl (w7 rfl rfl rfl (by unfold I64; (try dsimp only); omega)) rfl ?_;refine st rfl rfl (qc rfl rfl) rfl ?_;refine qe ?_;refine qd ?_;refine qd ?_;refine qb [.p, .p] ?_;refine st rfl rfl (qa rfl rfl) rfl ?_;refine st rfl rfl (xt rfl rfl rfl) rfl ?_;refine qe ?_;refine qp _ rfl (fun h1 => ?_) (fun h1 => ?_)
  ·replace h1 : (decide (x2 - x1 ≤ 12)) = true := h1;(try simp only [Bool.or_eq_true, Bool.and_eq_true, Bool.or_eq_false_iff, Bool.and_eq_false_iff, Bool.not_eq_true', Bool.not_eq_false', decide_eq_true_eq, decide_eq_false_iff_not] at h1);refine qd ?_;obtain ⟨r7, br7, hR⟩ := qm hR;refine qb [.p, .p, .p, .p, .w] ?_;refine st rfl rfl (q9 rfl rfl) rfl ?_;refine st rfl rfl (qa rfl rfl) rfl ?_;refine st rfl rfl (qa rfl rfl) rfl ?_;refine st rfl rfl (qa rfl rfl) rfl ?_;refine st_w rfl rfl (qaw 0 0 rfl K252 rfl (ConB.lend (c252 a0 x1 x2 a4 hN0 ha4 Ka4 Ha4 (by first | assumption | omega | (simp [qv]; done) | (simp [qv]; omega)) (by first | assumption | omega | (simp [qv]; done) | (simp [qv]; omega)) (by first | assumption | omega | (simp [qv]; done) | (simp [qv]; omega)) br7)) (xb rfl rfl (xb rfl rfl (xb rfl rfl (xb rfl rfl qj9)))) rfl rfl rfl) rfl ?_;refine qe ?_;refine qn ?_;obtain rfl := Option.some.inj hR;show ResOk _ _ _ _ ∧ MemL _ _;exact ⟨res0 rfl, ⟨rfl, trivial⟩⟩
  ·(try simp only [Bool.or_eq_true, Bool.and_eq_true, Bool.or_eq_false_iff, Bool.and_eq_false_iff, Bool.not_eq_true', Bool.not_eq_false', decide_eq_true_eq, decide_eq_false_iff_not] at h1)
   exfalso; omega
theorem qtr {a0 : List Int} {a1 a2 a3 : Int} {a4 : Int → Int → Option Int} {R : List Int} (h : s4062 a0 a1 a2 a3 a4 = some R) : R.length = a0.length := by
 unfold s4062 at h;rw [s4062_l1] at h;obtain ⟨y1, h1, h⟩ := qm h
 cases h
 exact qwm h1
end Go.Sim
set_option maxRecDepth 10000
namespace Go.Sim
open Go.Proofs
def s4042 (a0 : List Int) (a1 : Int → Int → Option Int) : Option (List Int) :=
 bindO (s4062 a0 0 (List.length a0 : Int) (lenU (List.length a0 : Int)) a1) fun r1 => some r1
theorem qu9 (a0 : List Int) (a1 : Int → Int → Option Int) {R : List Int} {N0 : Nat} (hN0 : List.length a0 = N0) {ca1 : G} {ia1 : FuncId} {ka1 : List G} (ha1 : FnIs ca1 ia1 ka1) (Ka1 : Known Tryz.prog ia1) (Ha1 : ∀ (x0 : Int) (x1 : Int) (r : Int), a1 x0 x1 = some r → Con (EG glT) ia1 ([G.int x0, G.int x1] ++ ka1) (G.int r)) (hB : (List.length a0 : Int) ≤ 12) (hR : s4042 a0 a1 = some R) : ConB (EG glT) 42 [.osl 0 1 0 N0, .g (ca1)] [(0, .arr 3 1 (List.map cInt a0))] (G.tup []) [(0, .arr 3 1 (List.map cInt R))] := by
 unfold s4042 at hR;refine qcr Tryz.func42 rfl rfl rfl fun w0 M0 x => ?_;refine qje (f := cInt) (l := a0) 0 rfl fun hla0 => ?_;refine qd ?_;refine qb [.p, .p, .p] ?_;refine st rfl rfl (q9 rfl rfl) rfl ?_;refine st rfl rfl (qoj hN0 rfl Tryz.underlying34 rfl) rfl ?_;refine st rfl rfl (qc rfl rfl) rfl ?_;refine qe ?_;obtain ⟨r1, br1, hR⟩ := qm hR;refine qb [.p, .p, .p, .p, .p, .p, .w] ?_;refine st rfl rfl (q9 rfl rfl) rfl ?_;refine st rfl rfl (qa rfl rfl) rfl ?_;refine st rfl rfl (qa rfl rfl) rfl ?_;refine st rfl rfl (qgd rfl Tryz.underlying3 Tryz.underlying112 rfl) rfl ?_;refine st rfl rfl (qh rfl K182 rfl (Con.lend (q0i (List.length a0 : Int) (by omega))) (qg rfl ql)) rfl ?_;refine st rfl rfl (qa rfl rfl) rfl ?_;refine st_w rfl rfl (qaw 0 0 rfl qxq rfl (ConB.lend (q0j a0 0 (List.length a0 : Int) (lenU (List.length a0 : Int)) a1 hN0 ha1 Ka1 Ha1 (by first | assumption | omega | (simp [qv]; done) | (simp [qv]; omega)) (by first | assumption | omega | (simp [qv]; done) | (simp [qv]; omega)) (by first | assumption | omega | (simp [qv]; done) | (simp [qv]; omega)) (by first | assumption | omega | (simp [qv]; done) | (simp [qv]; omega)) br1)) (xb rfl rfl (xb rfl rfl (xb rfl rfl (xb rfl rfl (xb rfl rfl qj9))))) rfl rfl rfl) rfl ?_;refine qe ?_;obtain rfl := Option.some.inj hR;show ResOk _ _ _ _ ∧ MemL _ _;exact ⟨res0 rfl, ⟨rfl, trivial⟩⟩
theorem qaa {a0 : List Int} {a1 : Int → Int → Option Int} {R : List Int} (h : s4042 a0 a1 = some R) : R.length = a0.length := by
 unfold s4042 at h;obtain ⟨y1, h1, h⟩ := qm h
 cases h
 exact qtr h1
section
variable {E : Env} {w0 : World} {M0 : Nat → Prop}
def ConT (E : Env) (f : FuncId) (args : List TV) (e : TypeId) (k : Nat) (xs xs' : List (List G)) (n : Nat) : Prop :=
 ∀ w M ρ (vs : List Value), (∀ b, M b → b < w.heap.size) → GlOk E w (owned M ρ) → (∀ id x, ρ id = some x → ∃ blk, lookO [(0, Blk.arr e k xs)] id = some blk) →
  (∀ id ow, ρ id = some (some ow) → ow.b < w.heap.size ∧ ¬ M ow.b) → (∀ id id' ow ow', ρ id = some (some ow) → ρ id' = some (some ow') → ow.b = ow'.b → id = id') →
  (∀ id blk, lookO [(0, Blk.arr e k xs)] id = some blk → BRel w (owned M ρ) ρ id blk) → ArgsT w (owned M ρ) ρ args vs →
  Calls E.P f vs.toArray w fun ex w' => ∃ v, ex = .returned v ∧ BelowX (fun b => ∃ id ow, ρ id = some (some ow) ∧ ow.b = b) w w' ∧ BRel w' (owned M ρ) ρ 0 (.arr e k xs') ∧ TRel w' (owned M ρ) ρ (.osl 0 k 0 n) v
theorem ConT.lend {f : FuncId} {args : List TV} {e : TypeId} {k n : Nat} {xs xs' : List (List G)} {mem : Mem} {x : Nat → Option Own} (h : ConT E f args e k xs xs' n) : ConT (E.lend mem x) f args e k xs xs' n := h
end
section
variable {E : Env} {w0 : World} {M0 : Nat → Prop}
instance (pre : List G) (id k hi : Nat) : PartT (.agl pre id k hi) (pre.map TV.g ++ [.osl id k 0 hi]) := ⟨fun {w M ρ v} h => by
 obtain ⟨vs, ow, p, rfl, h1, h2, h3, h4⟩ := h;show TFits w M ρ _ (vs ++ [_]).toArray.toList;have h5 := xn (ρ := ρ) h1
 have h6 : ∀ {cs : List TV} {us : List Value}, TFits w M ρ cs us → TFits w M ρ (cs ++ [.osl id k 0 hi]) (us ++ [Value.slice (some ⟨ow.b, p, none⟩) hi ow.cap]) := by
  intro cs
  induction cs with
  | nil =>
   intro us hu
   cases us with
   | nil => exact ⟨⟨.inr ⟨ow, h2, Nat.zero_le _, h3, p, by simp, fun h => by simpa using h4 h⟩, rfl⟩, trivial⟩
   | cons _ _ => exact hu.elim
  | cons c cs ih =>
   intro us hu
   cases us with
   | nil => exact hu.elim
   | cons u us => exact ⟨hu.1, ih hu.2⟩
 simpa using h6 h5⟩
end
section
variable {E : Env} {w0 : World} {M0 : Nat → Prop}
def G.ifP (P : Prop) : G := ⟨fun _ _ v => ∃ b : Bool, v = .bool b ∧ (b = true → P), fun h _ _ => h⟩
theorem qok {α : Type} {f : α → List G} {l : List α} {o : Oper} {ev : Operand → TV} {t t' el : TypeId} {x y : Operand} {k : Nat} (ho : o.op = .binOp .eql t x y t') (ht : E.P.underlying t = some (.slice el)) (hx : ev x = .g (.sl k (l.map f))) (hy : ev y = .g (.lit (.slice none 0 0))) (mem : Mem) : Eff E o mem ev (.g (.ifP (l = []))) :=
 jh (fun w M ρ e he => by
  have h1 := he x (by rw [ho]; simp [Op.operands]);rw [hx] at h1;have h2 := he y (by rw [ho]; simp [Op.operands]);rw [hy] at h2;have h2 : e y = .slice none 0 0 := h2;obtain ⟨a, cap, h3, h4, h5, h6, h7⟩ := h1;rw [List.length_map] at h3 h4;have hq := Go.Ex.run_eqNil (P := E.P) w 9999 t el a l.length cap 0 0 ht;refine ⟨.bool a.isNone, ?_, a.isNone, rfl, fun ha => ?_⟩
  ·simp [execOp, ho, h3, h2, eqGuard, binOp, Op.equal, Op.maxDepth, hq]
  ·have ha : a = none := by cases a <;> simp_all
   rcases h7 with ⟨_, h8⟩ | ⟨b, oo, h8, _⟩
   ·have := h8 ha;exact List.eq_nil_of_length_eq_zero (by omega)
   ·rw [ha] at h8; cases h8) mem
theorem qqv {c : Operand} {x y : Code} {P : Prop} {Q : Exit → ASt → Prop} {s : ASt} (hb : s.eval E c = .g (.ifP P)) (ht : P → AWp E w0 M0 x Q s) (hf : AWp E w0 M0 y Q s) : AWp E w0 M0 (.cond c x y) Q s := by
 intro a w ha;obtain ⟨ρ, _, hx⟩ := ha.rel;have hc := hx c;rw [hb] at hc;obtain ⟨b, hc, hP⟩ := hc;have hc' : a.eval c = .bool b := hc
 cases b with
 | true => exact wpIn_cond_true hc' (ht (hP rfl) a w ha)
 | false => exact wpIn_cond_false hc' (hf a w ha)
end
end Go.Sim
set_option maxRecDepth 10000
namespace Go.Sim
open Go.Proofs
theorem qy1 {g : List (Nat × List Value)} (a0 : List Int) (hb : a0.length ≤ 1000) : ConN (EG g) 51 [G.sl 1 (List.map cInt a0)] 3 1 (List.map cInt a0) := by
 refine qfl Tryz.func51 rfl rfl fun w0 M0 => ?_;refine qd ?_;refine qb [.p] ?_;refine st rfl rfl (qc rfl rfl) rfl ?_;refine qe ?_;refine qd ?_;refine qd ?_;refine qb [.p, .p] ?_;refine st rfl rfl (qa rfl rfl) rfl ?_;refine st rfl rfl (qok (f := cInt) (l := a0) rfl Tryz.underlying34 rfl rfl) rfl ?_;refine qe ?_;refine qqv rfl (fun h => ?_) ?_
 ·refine qd ?_;refine qb [.p] ?_;refine st rfl rfl (qc rfl rfl) rfl ?_;refine qe ?_;refine qn ?_;exact qol (E := EG g) rfl rfl (by rw [h]; rfl)
 ·refine qq ?_;refine qd ?_;refine qb [.w, .p, .k, .p] ?_;refine st_w rfl rfl (qbb (xs := List.map cInt []) 5 rfl Tryz.underlying34 ty3 z3 rfl jg rfl (by simp) (by decide) rfl) rfl ?_;refine st rfl rfl (qa rfl rfl) rfl ?_;refine st_k rfl rfl (vj (f := cInt) (out := []) (new := a0) rfl qe1 rfl rfl (xx rfl (wh (by decide) (by simp [cInt]))) (qe3 rfl) (by simp; omega)) rfl ?_;refine st rfl rfl (zq rfl rfl) rfl ?_;refine qe ?_;refine qn ?_;exact qh2 (E := EG g) rfl rfl rfl (List.length_map ..)
theorem qqa {ev : Operand → TV} {mem : Mem} {x : Operand} {xs : List Operand} {ys : List G} {id k N a : Nat} {e : TypeId} {α : Type} {f : α → List G} {l : List α} (hN : l.length = N) (h : ev x = .osl id k a N) (hb : lookO mem id = some (.arr e k (l.map f))) (ha : a ≤ N) (kk : List.map (fun x => viewG mem (ev x)) xs = List.map some ys) :
  List.map (fun x => viewG mem (ev x)) (x :: xs) = List.map some (.sl k ((l.drop a).map f) :: ys) := by
 subst hN;simp only [List.map_cons];rw [h, kk]
 congr 1
 simp [viewG, hb, ha]
 rw [List.take_of_length_le (by simp)]
theorem qh3 : ∀ (k : Nat) (x : List Int) (n : Int), (s4041_l1 k x n).length = x.length + k
 | 0, x, n => by rw [s4041_l1]; rfl
 | k + 1, x, n => by rw [s4041_l1, qh3 k]; simp; omega
theorem qnj (n : Int) : (s4041 n).length = n.toNat := by
 unfold s4041;rw [qh3]; simp
end Go.Sim
set_option maxRecDepth 10000
namespace Go.Sim
open Go.Proofs
def s4022_l1 (r2 : (List Int) × Int) : List Int → Nat → (List Int) → Option (List Int)
 | [], k6, x4 => some x4
 | y7 :: t8, k6, x4 => bindO (ixO r2.1 ((k6 : Nat) : Int)) fun y9 => bindO (ixO x4 y7) fun y10 => s4022_l1 r2 t8 (k6 + 1) (List.set x4 (Int.toNat y7) y9)
def s4022 (a0 : Int) (a1 : List S4026) : Option (List Int) :=
 bindO (s4042 (s4041 (List.length a1 : Int)) (fun x0 x1 => s4043 x0 x1 a1)) fun r1 => bindO (s4010 a0 (List.length a1 : Int)) fun r2 => s4022_l1 r2 r1 0 (List.replicate (List.length a1) 0)
theorem qts (a0 : Int) (a1 : List S4026) {R : List Int}  (hb : a1.length ≤ 12) (hR : s4022 a0 a1 = some R) : Con (EG glT) 22 [G.int a0, G.sl 18 (List.map S4026.c a1)] (G.sl 1 (List.map cInt R)) := by
 unfold s4022 at hR;refine qk Tryz.func22 rfl rfl fun w0 M0 => ?_;refine zl (f := S4026.c) (l := a1) 1 rfl fun hla1 => ?_;refine qd ?_;refine qb [.p, .w] ?_;refine st rfl rfl (zj rfl rfl) rfl ?_;refine st_w rfl rfl (xf 4 3 1 rfl rfl rfl) rfl ?_;refine qe ?_;refine qd ?_;have hl41 := qnj (a1.length : Int);refine qb [.p, .p, .w, .p] ?_;refine st rfl rfl (qj rfl w6 rfl) rfl ?_;refine st rfl rfl (qx (f := S4026.c) (l := a1) rfl Tryz.underlying31 rfl) rfl ?_;refine st_w rfl rfl (qma (f0 := cInt) (l := s4041 (List.length a1 : Int)) 13 rfl qus rfl (qwn (List.length a1 : Int) (by first | assumption | omega | (simp [qv]; done) | (simp [qv]; omega))) (qg rfl ql) rfl) rfl ?_;refine st rfl rfl (zq rfl rfl) rfl ?_;refine qe ?_;refine qd ?_;obtain ⟨r1, br1, hR⟩ := qm hR;refine qb [.p, .p, .w] ?_;refine st rfl rfl (q9 rfl rfl) rfl ?_;refine st rfl rfl (xh rfl rfl rfl) rfl ?_;refine st_w rfl rfl (qaw 0 13 rfl qut rfl (qu9 (s4041 (List.length a1 : Int)) (fun x0 x1 => s4043 x0 x1 a1) rfl qcm qxi (fun x0 x1 r_ h_ => q0k x0 x1 a1 h_) (by first | assumption | omega | (simp [qv]; done) | (simp [qv]; omega)) br1) (xb rfl rfl (xb rfl rfl qj9)) rfl rfl rfl) rfl ?_;refine qe ?_;refine qd ?_;obtain ⟨r2, br2, hR⟩ := qm hR;refine qb [.p, .p, .p, .p, .p, .p, .p, .p, .p] ?_;refine st rfl rfl (qa rfl rfl) rfl ?_;refine st rfl rfl (qj rfl w6 rfl) rfl ?_;refine st rfl rfl (qx (f := S4026.c) (l := a1) rfl Tryz.underlying31 rfl) rfl ?_;refine st rfl rfl (qh rfl qul rfl (qvp a0 (List.length a1 : Int) br2) (qg rfl (qg rfl ql))) rfl ?_;refine st rfl rfl (qa rfl rfl) rfl ?_;refine st rfl rfl (za rfl rfl rfl) rfl ?_;refine st rfl rfl (za rfl rfl rfl) rfl ?_;refine st rfl rfl (qc rfl rfl) rfl ?_;refine st rfl rfl (qc rfl rfl) rfl ?_;refine qe ?_;refine qd ?_;refine qb [.p, .p, .w, .p] ?_;refine st rfl rfl (qj rfl w6 rfl) rfl ?_;refine st rfl rfl (qx (f := S4026.c) (l := a1) rfl Tryz.underlying31 rfl) rfl ?_;refine st_w rfl rfl (qej (f := cInt) (z := 0) 26 rfl mk82 rfl rfl rfl (by first | exact Int.le_refl _ | omega) (by first | decide | omega) rfl rfl rfl) rfl ?_;refine st rfl rfl (zq rfl rfl) rfl ?_;refine qe ?_;refine qd ?_;refine qd ?_;refine qby (l := [(5, .g (G.sl 1 (List.map cInt r1))), (6, .g (G.sl 1 (List.map cInt r2.1))), (8, .osl 26 1 0 (List.length a1))]) (m := [(26, .arr 3 1 (List.map cInt (List.replicate (List.length a1) 0)))]) 13 rfl ⟨.inr (qi5 ((qaa br1).trans rfl)), .inl ⟨rfl, rfl⟩, .inl ⟨rfl, rfl⟩, trivial⟩ ⟨rfl, trivial⟩ rfl rfl ?_;refine qb [.p, .p, .p] ?_;refine st rfl rfl (qa rfl rfl) rfl ?_;refine st rfl rfl (qx (f := cInt) (l := r1) rfl Tryz.underlying34 rfl) rfl ?_;refine st rfl rfl (qa rfl rfl) rfl ?_;refine qe ?_;refine qt ?_;refine zc (γ := Nat × (List Int) × (List Int)) (fun g => ([(6, .g (G.sl 1 (List.map cInt r2.1))), (8, .osl 26 1 0 (List.length a1)), (27, .g (G.sl 1 (List.map cInt r1))), (28, .g (G.int (List.length r1 : Int))), (29, .g (G.int ((g.1 : Nat) : Int)))], [(26, .arr 3 1 (List.map cInt g.2.2))])) (fun g => List.length g.2.2 = List.length a1 ∧ r1.drop g.1 = g.2.1 ∧ s4022_l1 r2 g.2.1 g.1 g.2.2 = some R) (fun g => List.length g.2.1) ⟨rfl, (0, r1, List.replicate (List.length a1) 0), ⟨rfl, rfl, rfl, rfl, rfl, trivial⟩, ⟨rfl, trivial⟩, rfl, ⟨List.length_replicate, rfl, (by exact hR)⟩, trivial⟩ ?_
 ·rintro ⟨k6, t8, x4⟩ ⟨ln5, hd, hR⟩;replace hd : r1.drop k6 = t8 := hd;replace hR : s4022_l1 r2 t8 k6 x4 = some R := hR;replace ln5 : List.length x4 = List.length a1 := ln5;refine qd ?_;refine qb [.p] ?_;refine st rfl rfl (zi rfl rfl rfl) rfl ?_;refine qe ?_;refine zl (f := cInt) (l := r1) 27 rfl fun hlz1 => ?_;refine qd ?_;refine qp _ rfl (fun h1 => ?_) (fun h1 => ?_)
  ·replace h1 : (decide (((k6 : Nat) : Int) < (List.length r1 : Int))) = true := h1;obtain ⟨y7, t8, rfl, hx1, hd⟩ := zp hd (decT h1);replace h1 := decT h1;rw [s4022_l1] at hR;(try dsimp only at hR);refine qq ?_;refine qd ?_;refine qt ?_;refine qd ?_;refine qb [.p, .p, .p, .p, .p] ?_;refine st rfl rfl (qa rfl rfl) rfl ?_;refine st rfl rfl (zt (f := cInt) (l := r1) (a := y7) rfl Tryz.underlying34 ty3 rfl rfl (Int.natCast_nonneg _) hx1) rfl ?_;refine st rfl rfl (qj rfl ty3 rfl) rfl ?_;refine st rfl rfl (qc rfl rfl) rfl ?_;refine st rfl rfl (qc rfl rfl) rfl ?_;refine qe ?_;obtain ⟨y9, by9, hR⟩ := qm hR;obtain ⟨y10, by10, hR⟩ := qm hR;refine qb [.p, .p, .p, .p, .p, .p, .p, .w] ?_;refine st rfl rfl (q9 rfl rfl) rfl ?_;refine st rfl rfl (qa rfl rfl) rfl ?_;refine st rfl rfl (qa rfl rfl) rfl ?_;refine st rfl rfl (qa rfl rfl) rfl ?_;refine st rfl rfl (zt (f := cInt) (l := r2.1) (a := y9) rfl Tryz.underlying34 ty3 rfl rfl (jn by9) (zd by9)) rfl ?_;refine st rfl rfl (qj rfl ty3 rfl) rfl ?_;refine st rfl rfl (vh rfl Tryz.underlying34 ty3 rfl rfl (jn by10) (Nat.lt_of_lt_of_eq (ku (zd by10)) ln5)) rfl ?_;refine kc rfl rfl (xy (f := cInt) (l := x4) (a' := y9) rfl ty3 rfl rfl rfl (Nat.lt_of_lt_of_eq (Nat.lt_of_lt_of_eq (ku (zd by10)) ln5) (Eq.symm ln5)) rfl (fun _ => rfl)) ?_;refine qe ?_;refine qb [.p, .p] ?_;refine st rfl rfl (z0 rfl rfl rfl (by unfold I64; omega)) rfl ?_;refine st rfl rfl (qa rfl rfl) rfl ?_;refine qe ?_;exact ⟨rfl, (k6 + 1, t8, List.set x4 (Int.toNat y7) y9), ⟨rfl, rfl, rfl, rfl, rfl, trivial⟩, ⟨rfl, trivial⟩, rfl, ⟨((List.length_set ..).trans ln5), hd, hR⟩, by simp⟩
  ·replace h1 : (decide (((k6 : Nat) : Int) < (List.length r1 : Int))) = false := h1;obtain rfl := je hd (decF h1);rw [s4022_l1] at hR;refine zy ?_;refine qd ?_;refine qb [.p, .p] ?_;refine st rfl rfl (q9 rfl rfl) rfl ?_;refine st rfl rfl (zq rfl rfl) rfl ?_;refine qe ?_;refine qn ?_;obtain rfl := Option.some.inj hR;exact qy rfl (qbx ln5 rfl rfl)
def s4007 (a0 : Int) (a1 : List S4026) : Option ((List Int) × Int) :=
 (bif decide ((s4019 [(s4020 a0), (s4021 a1)]) ≠ 0) then some ([], (s4019 [(s4020 a0), (s4021 a1)])) else bindO (s4022 a0 a1) fun r1 => some (r1, 0))
theorem qzr (a0 : Int) (a1 : List S4026) {R : (List Int) × Int}  (hb : a1.length ≤ 12) (hR : s4007 a0 a1 = some R) : Con (EG glT) 7 [G.int a0, G.sl 18 (List.map S4026.c a1)] (G.tup [G.sl 1 (List.map cInt R.1), G.int R.2]) := by
 unfold s4007 at hR;refine qk Tryz.func7 rfl rfl fun w0 M0 => ?_;refine zl (f := S4026.c) (l := a1) 1 rfl fun hla1 => ?_;refine qd ?_;refine qb [.p, .p] ?_;refine st rfl rfl (qc rfl rfl) rfl ?_;refine st rfl rfl (qc rfl rfl) rfl ?_;refine qe ?_;refine qd ?_;refine qd ?_;refine qb [.p, .p, .p, .p, .p, .p, .p] ?_;refine st rfl rfl (qa rfl rfl) rfl ?_;refine st rfl rfl (qh rfl qr6 rfl (qsz a0) (qg rfl ql)) rfl ?_;refine st rfl rfl (qa rfl rfl) rfl ?_;refine st rfl rfl (qh rfl qr7 rfl (qtb a1) (qg rfl ql)) rfl ?_;refine st rfl rfl (qo rfl Tryz.underlying83 ty37 z37 rfl (qr rfl (qr rfl jg)) rfl (by simp []) (by decide)) rfl ?_;refine st rfl rfl (qh rfl qbl rfl (qbz [(s4020 a0), (s4021 a1)]) (qg rfl ql)) rfl ?_;refine st rfl rfl (qc rfl rfl) rfl ?_;refine qe ?_;refine qd ?_;refine qb [.p, .p] ?_;refine st rfl rfl (qa rfl rfl) rfl ?_;refine st rfl rfl (zo rfl rfl rfl) rfl ?_;refine qe ?_;refine qp _ rfl (fun h1 => ?_) (fun h1 => ?_)
 ·replace h1 : (decide ((s4019 [(s4020 a0), (s4021 a1)]) ≠ 0)) = true := h1;replace hR := jc hR h1;(try simp only [Bool.or_eq_true, Bool.and_eq_true, Bool.or_eq_false_iff, Bool.and_eq_false_iff, Bool.not_eq_true', Bool.not_eq_false', decide_eq_true_eq, decide_eq_false_iff_not] at h1);refine qd ?_;refine qb [.p, .p, .p] ?_;refine st rfl rfl (qa rfl rfl) rfl ?_;refine st rfl rfl (qc rfl rfl) rfl ?_;refine st rfl rfl (qc rfl rfl) rfl ?_;refine qe ?_;refine qn ?_;obtain rfl := Option.some.inj hR;exact resN rfl ⟨qgj rfl (qkb _), rv_g rfl, trivial⟩ (by simp)
 ·replace h1 : (decide ((s4019 [(s4020 a0), (s4021 a1)]) ≠ 0)) = false := h1;replace hR := jd hR h1;(try simp only [Bool.or_eq_true, Bool.and_eq_true, Bool.or_eq_false_iff, Bool.and_eq_false_iff, Bool.not_eq_true', Bool.not_eq_false', decide_eq_true_eq, decide_eq_false_iff_not] at h1);refine qq ?_;refine qd ?_;obtain ⟨r1, br1, hR⟩ := qm hR;refine qb [.p, .p, .p, .p, .p] ?_;refine st rfl rfl (qa rfl rfl) rfl ?_;refine st rfl rfl (qa rfl rfl) rfl ?_;refine st rfl rfl (qh rfl qr8 rfl (qts a0 a1 (by first | assumption | omega | (simp [qv]; done) | (simp [qv]; omega)) br1) (qg rfl (qg rfl ql))) rfl ?_;refine st rfl rfl (qc rfl rfl) rfl ?_;refine st rfl rfl (qc rfl rfl) rfl ?_;refine qe ?_;refine qn ?_;obtain rfl := Option.some.inj hR;exact resN rfl ⟨rv_g rfl, rv_g rfl, trivial⟩ (by simp)
def s4012 (a0 : Int) (a1 : List S4026) (a2 : List Int) : Option Int :=
 (bif decide ((s4019 [(s4020 a0), (s4021 a1), (s4028 (decide ((List.length a2 : Int) ≠ (List.length a1 : Int))) 2)]) ≠ 0) then some (s4019 [(s4020 a0), (s4021 a1), (s4028 (decide ((List.length a2 : Int) ≠ (List.length a1 : Int))) 2)]) else bindO (s4022 a0 a1) fun r1 => bindO (s4029 a2 r1) fun r2 => some (s4028 (!r2) 21))
theorem qvr (a0 : Int) (a1 : List S4026) (a2 : List Int) {R : Int}  (hb : a1.length ≤ 12) (hR : s4012 a0 a1 a2 = some R) : Con (EG glT) 12 [G.int a0, G.sl 18 (List.map S4026.c a1), G.sl 1 (List.map cInt a2)] (G.int R) := by
 unfold s4012 at hR;refine qk Tryz.func12 rfl rfl fun w0 M0 => ?_;refine zl (f := S4026.c) (l := a1) 1 rfl fun hla1 => ?_;refine zl (f := cInt) (l := a2) 2 rfl fun hla2 => ?_;refine qd ?_;refine qb [.p] ?_;refine st rfl rfl (qc rfl rfl) rfl ?_;refine qe ?_;refine qd ?_;refine qd ?_;refine qb [.p, .p, .p, .p, .p, .p, .p, .p, .p, .p, .p, .p, .p] ?_;refine st rfl rfl (qa rfl rfl) rfl ?_;refine st rfl rfl (qh rfl qr6 rfl (qsz a0) (qg rfl ql)) rfl ?_;refine st rfl rfl (qa rfl rfl) rfl ?_;refine st rfl rfl (qh rfl qr7 rfl (qtb a1) (qg rfl ql)) rfl ?_;refine st rfl rfl (qa rfl rfl) rfl ?_;refine st rfl rfl (qx (f := cInt) (l := a2) rfl Tryz.underlying34 rfl) rfl ?_;refine st rfl rfl (qa rfl rfl) rfl ?_;refine st rfl rfl (qx (f := S4026.c) (l := a1) rfl Tryz.underlying31 rfl) rfl ?_;refine st rfl rfl (zo rfl rfl rfl) rfl ?_;refine st rfl rfl (qh rfl qa7 rfl (qba (decide ((List.length a2 : Int) ≠ (List.length a1 : Int))) 2) (qg rfl (qg rfl ql))) rfl ?_;refine st rfl rfl (qo rfl Tryz.underlying83 ty37 z37 rfl (qr rfl (qr rfl (qr rfl jg))) rfl (by simp []) (by decide)) rfl ?_;refine st rfl rfl (qh rfl qbl rfl (qbz [(s4020 a0), (s4021 a1), (s4028 (decide ((List.length a2 : Int) ≠ (List.length a1 : Int))) 2)]) (qg rfl ql)) rfl ?_;refine st rfl rfl (qc rfl rfl) rfl ?_;refine qe ?_;refine qd ?_;refine qb [.p, .p] ?_;refine st rfl rfl (qa rfl rfl) rfl ?_;refine st rfl rfl (zo rfl rfl rfl) rfl ?_;refine qe ?_;refine qp _ rfl (fun h1 => ?_) (fun h1 => ?_)
 ·replace h1 : (decide ((s4019 [(s4020 a0), (s4021 a1), (s4028 (decide ((List.length a2 : Int) ≠ (List.length a1 : Int))) 2)]) ≠ 0)) = true := h1;replace hR := jc hR h1;(try simp only [Bool.or_eq_true, Bool.and_eq_true, Bool.or_eq_false_iff, Bool.and_eq_false_iff, Bool.not_eq_true', Bool.not_eq_false', decide_eq_true_eq, decide_eq_false_iff_not] at h1);refine qd ?_;refine qb [.p, .p] ?_;refine st rfl rfl (qa rfl rfl) rfl ?_;refine st rfl rfl (qc rfl rfl) rfl ?_;refine qe ?_;refine qn ?_;obtain rfl := Option.some.inj hR;exact qy rfl (rv_g rfl)
 ·replace h1 : (decide ((s4019 [(s4020 a0), (s4021 a1), (s4028 (decide ((List.length a2 : Int) ≠ (List.length a1 : Int))) 2)]) ≠ 0)) = false := h1;replace hR := jd hR h1;(try simp only [Bool.or_eq_true, Bool.and_eq_true, Bool.or_eq_false_iff, Bool.and_eq_false_iff, Bool.not_eq_true', Bool.not_eq_false', decide_eq_true_eq, decide_eq_false_iff_not] at h1);refine qq ?_;refine qd ?_;obtain ⟨r1, br1, hR⟩ := qm hR;obtain ⟨r2, br2, hR⟩ := qm hR;refine qb [.p, .p, .p, .p, .p, .p, .p, .p] ?_;refine st rfl rfl (qa rfl rfl) rfl ?_;refine st rfl rfl (qa rfl rfl) rfl ?_;refine st rfl rfl (qa rfl rfl) rfl ?_;refine st rfl rfl (qh rfl qr8 rfl (qts a0 a1 (by first | assumption | omega | (simp [qv]; done) | (simp [qv]; omega)) br1) (qg rfl (qg rfl ql))) rfl ?_;refine st rfl rfl (qh rfl qxd rfl (qz6 a2 r1 br2) (qg rfl (qg rfl ql))) rfl ?_;refine st rfl rfl (jz rfl rfl) rfl ?_;refine st rfl rfl (qh rfl qa7 rfl (qba (!r2) 21) (qg rfl (qg rfl ql))) rfl ?_;refine st rfl rfl (qc rfl rfl) rfl ?_;refine qe ?_;refine qn ?_;obtain rfl := Option.some.inj hR;exact qy rfl (rv_g rfl)
def s4024 (a0 : S4040) (a1 : Int) (a2 : List S4026) : Option S4059 :=
 bindO (s4022 a1 a2) fun r1 => some (S4059.mk (S4040.mk a0.Classes a0.Pool a0.Of a0.For) a2 r1)
theorem qy3 (a0 : S4040) (a1 : Int) (a2 : List S4026) {R : S4059}  (hb : a2.length ≤ 12) (hR : s4024 a0 a1 a2 = some R) : Con (EG glT) 24 [G.agg [G.sl 3 (List.map S4069.c a0.Classes), G.int a0.Pool, G.int a0.Of, G.int a0.For], G.int a1, G.sl 18 (List.map S4026.c a2)] (G.agg [G.sl 3 (List.map S4069.c R.program.Classes), G.int R.program.Pool, G.int R.program.Of, G.int R.program.For, G.sl 18 (List.map S4026.c R.claims), G.sl 1 (List.map cInt R.lots)]) := by
 unfold s4024 at hR;refine qk Tryz.func24 rfl rfl fun w0 M0 => ?_;refine zl (f := S4026.c) (l := a2) 2 rfl fun hla2 => ?_;refine qd ?_;refine qb [.p, .w] ?_;refine st rfl rfl (zj rfl rfl) rfl ?_;refine st_w rfl rfl (zw 6 rfl qu2 rfl rfl) rfl ?_;refine qe ?_;refine qd ?_;obtain ⟨r1, br1, hR⟩ := qm hR;refine zz [.p, .p, .p, .p, .p, .p, .w] (by kernel_rfl) ?_;refine st rfl rfl (qw rfl wz rfl rfl rfl) rfl ?_;refine st rfl rfl (qa rfl rfl) rfl ?_;refine st rfl rfl (qa rfl rfl) rfl ?_;refine st rfl rfl (qa rfl rfl) rfl ?_;refine st rfl rfl (qh rfl qr8 rfl (qts a1 a2 (by first | assumption | omega | (simp [qv]; done) | (simp [qv]; omega)) br1) (qg rfl (qg rfl ql))) rfl ?_;refine st rfl rfl (zr rfl qu2 rfl qu0 (qz rfl (qz rfl (qz rfl ko))) rfl) rfl ?_;refine kc rfl rfl (q8 (tv := .g (G.agg [G.sl 3 (List.map S4069.c a0.Classes), G.int a0.Pool, G.int a0.Of, G.int a0.For, G.sl 18 (List.map S4026.c a2), G.sl 1 (List.map cInt r1)])) rfl qm4 rfl rfl rfl rfl rfl) ?_;refine qe ?_;refine qn ?_;obtain rfl := Option.some.inj hR;exact qy rfl (qoa rfl rfl qm4 rfl rfl)
section
variable {E : Env} {w0 : World} {M0 : Nat → Prop}
def RoundC {γ : Type} (E : Env) (w0 : World) (M0 : Nat → Prop) (Q : Exit → ASt → Prop) (n : Nat) (t : Nat → TV) (m : γ → Mem) (K : γ → Prop) (m0 : Mem) : Exit → ASt → Prop
 | .normal, s => ∃ g, K g ∧ MemL s (m g)
 | .ret, s => ∃ mx, AWp E w0 M0 .ret Q ⟨n, t, mx⟩ ∧ sameIds m0 mx ∧ goodM mx = true ∧ MemL s mx
 | .exit id, s => ∃ mx, AWp E w0 M0 (.exit id) Q ⟨n, t, mx⟩ ∧ sameIds m0 mx ∧ goodM mx = true ∧ MemL s mx
 | _, _ => False
end
section
variable {E : Env}
theorem xw {s : ASt} {t : Nat} {ty : TypeId} {k id : Nat} {tv : TV} {g : G} (hp : s.get t = .ptr id 0) (hb : lookO s.mem id = some (.box [tv])) (ht : tyK E.P ty = some (k, false)) (hv : viewG s.mem tv = some g) (hbw : viewB E tv = true := by rfl) : RVal E s (.cell t ty) g := by
 intro w0 M0 ρ w tmps hm hx;have h1 := hx t;rw [hp] at h1;obtain ⟨ow, h2, h3⟩ := h1;obtain ⟨ow', e, vs, g1, g2, g3, g4⟩ := hm.blk id _ hb
 have : ow' = ow := by rw [h2] at g1; simpa using g1.symm
 subst this;obtain ⟨v, h4, h5, _⟩ := TFits.get 0 g4 rfl
 have hc : w.cell? ⟨ow'.b, ow'.o + 0, none⟩ = some v := by rw [cell_of_row w _ _ _ _ _ g3, g2]; simpa using h4
 refine ⟨v, ?_, qds hm h5 hv (qdr hm hbw), ?_⟩
 ·simp only [rvSem, h3, asAddr, Sem.run_bind, Sem.run_pure, Result.andThen_ok];exact zb ht hc
 ·intro w' hw;simp only [rvSem, h3, asAddr, Sem.run_bind, Sem.run_pure, Result.andThen_ok];exact zb ht (hw _ _ hc)
end
section
def SeqN (E : Env) (g : FuncId) (caps : List G) {α : Type} (enc : α → Value) (xs : List α) : Prop :=
 ∀ (w : World) (M : Nat → Prop) (cs : List Value) (l : Nat) (J : (Nat → Prop) → List α → Bool → World → Prop), (∀ b, M b → b < w.heap.size) → GlOk E w M → FitsT w M caps cs →
  (∀ N pre st W W', J N pre st W → BelowX N W W' → J N pre st W') → (∀ N N' pre st W, J N pre st W → (∀ b, N' b → N b ∨ W.heap.size ≤ b) → J N' pre st W) →
  (∀ N pre x post W1, xs = pre ++ x :: post → BelowX M w W1 → (∀ b, N b → w.heap.size ≤ b ∧ b < W1.heap.size) → J N pre false W1 → YieldAt Fence.wide 0 E.P l #[enc x] W1 fun e W' =>
   BelowX M W1 W' ∧ ∃ b, e = .returned (.bool b) ∧ J N (pre ++ [x]) (!b) W') →
  J (fun _ => False) [] false w → CallsIn Fence.wide 0 E.P g (#[.func (.yield l) #[] #[]] ++ cs.toArray) w fun e W' => (∃ v, e = .returned v) ∧ (J (fun _ => False) xs false W' ∨ ∃ pre, J (fun _ => False) pre true W')
theorem BelowX.none {L : Nat → Prop} {a b : World} (h : Grow a b) : BelowX L a b := BelowX.of_grow h
structure ItC (P : Program) {α : Type} (l : Nat) (enc : α → Value) (xs : List α) where
 w : World
 lo : Nat
 M : Nat → Prop
 J : (Nat → Prop) → List α → Bool → World → Prop
 N0 : Nat → Prop
 hM : ∀ b, M b → b < lo
 hlo : lo ≤ w.heap.size
 turn : ∀ N pre st W W', J N pre st W → BelowX N W W' → J N pre st W'
 take : ∀ N N' pre st W, J N pre st W → (∀ b, N' b → N b ∨ W.heap.size ≤ b) → J N' pre st W
 yield : ∀ N pre x post W1, xs = pre ++ x :: post → BelowX M w W1 → (∀ b, N b → lo ≤ b ∧ b < W1.heap.size) → J N pre false W1 → YieldAt Fence.wide 0 P l #[enc x] W1 fun e W' =>
   BelowX M W1 W' ∧ ∃ b, e = .returned (.bool b) ∧ J N (pre ++ [x]) (!b) W'
def ItC.at {P : Program} {α : Type} {l : Nat} {enc : α → Value} {xs : List α} (C : ItC P l enc xs) (w' : World) (h : BelowX C.M C.w w') (N0 : Nat → Prop) : ItC P l enc xs :=
 ⟨w', C.lo, C.M, C.J, N0, C.hM, Nat.le_trans C.hlo h.size, C.turn, C.take, fun N pre x post W1 hx hB hN hJ => C.yield N pre x post W1 hx (h.trans hB) hN hJ⟩
def MarksN (N : Nat → Prop) (ds : List Deferred) (W : World) : Prop := ds.Nodup ∧ ∀ d ∈ ds, ∃ D, d = { target := .collected D, args := #[] } ∧ N D ∧ W.heap[D]? = some (.deferred (some []))
variable {α : Type} {E : Env} {l : Nat} {enc : α → Value} {xs : List α}
def IRel (E : Env) {l : Nat} {enc : α → Value} {xs : List α} (C : ItC E.P l enc xs) (s : ASt) (p : List α × Bool) (a : Act) (W : World) : Prop :=
 ∃ N W1, C.J N p.1 p.2 W1 ∧ (∀ b, N b → C.lo ≤ b ∧ b < W1.heap.size) ∧ BelowX C.M C.w W1 ∧ MarksN N a.defers W1 ∧ ARel E W1 (fun b => C.M b ∨ N b) s ⟨a.tmps, []⟩ W ∧ ∀ b, C.N0 b → N b
def IWp (E : Env) {l : Nat} {enc : α → Value} {xs : List α} (C : ItC E.P l enc xs) (c : Code) (Q : Exit → ASt → List α × Bool → Prop) (s : ASt) (p : List α × Bool) : Prop :=
 ∀ a W, IRel E C s p a W → c.wpIn E.F 0 E.P (fun e a' W' => ∃ s' p', IRel E C s' p' a' W' ∧ Q e s' p') a W
def ithen (K : ASt → List α × Bool → Prop) (Q : Exit → ASt → List α × Bool → Prop) : Exit → ASt → List α × Bool → Prop
 | .normal, s, p => K s p
 | e, s, p => Q e s p
def iblock (id : Nat) (Q : Exit → ASt → List α × Bool → Prop) : Exit → ASt → List α × Bool → Prop
 | .exit id', s, p => if id' = id then Q .normal s p else Q (.exit id') s p
 | e, s, p => Q e s p
variable {C : ItC E.P l enc xs} {Q : Exit → ASt → List α × Bool → Prop} {s : ASt} {p : List α × Bool}
theorem iw_seq {x y : Code} (h : IWp E C x (ithen (IWp E C y Q) Q) s p) : IWp E C (.seq x y) Q s p :=
 fun a w ha => wpIn_seq (wpIn_mono (h a w ha) fun e a' w' ⟨s', p', h1, h2⟩ => by
  cases e <;> first | exact h2 a' w' h1 | exact ⟨s', p', h1, h2⟩)
theorem iw_skip (h : Q .normal s p) : IWp E C .skip Q s p := fun _ _ ha => wpIn_skip ⟨s, p, ha, h⟩
theorem iw_ret (h : Q .ret s p) : IWp E C .ret Q s p := fun _ _ ha => wpIn_ret ⟨s, p, ha, h⟩
theorem iw_exit {id : Nat} (h : Q (.exit id) s p) : IWp E C (.exit id) Q s p := fun _ _ ha => wpIn_exit ⟨s, p, ha, h⟩
theorem iw_block {id : Nat} {c : Code} (h : IWp E C c (iblock id Q) s p) : IWp E C (.block id c) Q s p :=
 fun a w ha => wpIn_block (wpIn_mono (h a w ha) fun e a' w' ⟨s', p', h1, h2⟩ => by
  cases e with
  | exit id' =>
   unfold iblock at h2;unfold Exit.inBlock;dsimp only at h2 ⊢
   split
   ·rename_i he; rw [if_pos he] at h2; exact ⟨s', p', h1, h2⟩
   ·rename_i he; rw [if_neg he] at h2; exact ⟨s', p', h1, h2⟩
  | _ => exact ⟨s', p', h1, h2⟩)
theorem iw_cond {c : Operand} {x y : Code} (b : Bool) (hb : s.eval E c = .g (.lit (.bool b))) (ht : b = true → IWp E C x Q s p) (hf : b = false → IWp E C y Q s p) : IWp E C (.cond c x y) Q s p := by
 intro a w ha;obtain ⟨N, W1, h1, h2, h3, h4, h5, h6⟩ := id ha;obtain ⟨ρ, _, hx⟩ := h5.rel;have hc := hx c;rw [hb] at hc;have hc' : a.eval c = .bool b := hc
 cases b with
 | true => exact wpIn_cond_true hc' (ht rfl a w ha)
 | false => exact wpIn_cond_false hc' (hf rfl a w ha)
theorem IRel.weak {l1 : List (Nat × TV)} {m : Mem} {a : Act} {w : World} (h1 : WeakL s l1) (h2 : MemL s m) (h3 : closedB l1 m = true) (hbw : E.bow = []) (h : IRel E C s p a w) : IRel E C (stt s.n l1 m) p a w := by
 obtain ⟨N, W1, k1, k2, k3, k4, k5, k6⟩ := h;exact ⟨N, W1, k1, k2, k3, k4, k5.weak h1 h2 h3 (by unfold bowIn; rw [hbw]; rfl), k6⟩
def IGoes {γ : Type} (S : γ → List (Nat × TV)) (Pp : γ → List α × Bool) (P : γ → Prop) (n : Nat) (ok : γ → Prop) (s : ASt) (p : List α × Bool) : Prop := s.n = n ∧ ∃ g, WeakL s (S g) ∧ closedB (S g) [] = true ∧ p = Pp g ∧ P g ∧ ok g
theorem iw_loop_g {γ : Type} {c : Code} (S : γ → List (Nat × TV)) (Pp : γ → List α × Bool) (P : γ → Prop) (μ : γ → Nat) (h0 : IGoes S Pp P s.n (fun _ => True) s p)
  (round : ∀ g, P g → IWp E C c (ithen (IGoes S Pp P s.n (fun g' => μ g' < μ g)) Q) (stt s.n (S g) []) (Pp g)) (hbw : E.bow = [] := by rfl) : IWp E C (.loop c) Q s p := by
 intro a w ha;obtain ⟨_, g0, h1, h3, rfl, h4, _⟩ := h0;have ha' := ha.weak h1 (m := []) trivial h3 hbw;refine wpIn_loop_ghost (fun n a w => ∃ g, μ g = n ∧ P g ∧ IRel E C (stt s.n (S g) []) (Pp g) a w) (μ g0) ⟨g0, rfl, h4, ha'⟩ ?_;rintro n a w ⟨g, rfl, hP, hg⟩;refine wpIn_mono (round g hP a w hg) ?_;rintro e a' w' ⟨s', p', hs', hq⟩
 cases e with
 | normal =>
  obtain ⟨k0, g', k1, k3, rfl, k4, k5⟩ := hq;refine ⟨μ g', k5, g', rfl, k4, ?_⟩;have := hs'.weak k1 (m := []) trivial k3 hbw;rw [k0] at this;exact this
 | _ => exact ⟨s', p', hs', hq⟩
theorem qfm {F : Fence} {n : Nat} {P : Program} {o : Oper} {a : Act} {w : World} {K : Act → World → Prop} {Q' : Exit → Act → World → Prop}
  (h : o.wpIn F n P ⟨a.tmps, []⟩ w (fun a' w' => a'.defers = [] ∧ K ⟨a'.tmps, a.defers⟩ w') (fun _ _ _ => False)) : o.wpIn F n P a w K Q' := by
 obtain ⟨h1, h2⟩ := h;refine ⟨h1, ?_⟩;have h2 : o.uponIn F n P ⟨a.tmps, []⟩ (fun a' w' => a'.defers = [] ∧ K ⟨a'.tmps, a.defers⟩ w') (fun _ _ _ => False) ((o.semAt F.round a.eval).run P w) := h2
 have hput : ∀ v, (⟨((⟨a.tmps, []⟩ : Act).put o.dst v).tmps, a.defers⟩ : Act) = a.put o.dst v := fun v => by cases o.dst <;> rfl
 have hp : ∀ v w', (fun (a' : Act) (w' : World) => a'.defers = [] ∧ K ⟨a'.tmps, a.defers⟩ w') ((⟨a.tmps, []⟩ : Act).put o.dst v) w' → K (a.put o.dst v) w' := fun v w' h => by
  have := h.2;rw [hput] at this;exact this
 generalize (o.semAt F.round a.eval).run P w = res at *
 cases res with
 | halt x w' =>
  cases x <;> exact h2.elim
 | ok n w' =>
  cases n with
  | value v => exact hp _ _ h2
  | skip => exact hp _ _ h2
  | defer d =>
   have := h2.1
   exfalso
   cases hd : o.dst <;> simp [Act.put, hd] at this
  | enter f args =>
   obtain ⟨h3, h4⟩ := h2;refine ⟨h3, h4.mono ?_⟩;intro e w'' h
   cases e with
   | returned v => exact hp _ _ h
   | panicked c => exact h.elim
   | outgrown => obtain ⟨_, _, h⟩ := h; exact h.elim
  | row r args =>
   obtain ⟨h3, h4⟩ := h2;exact ⟨h3, RowsIn.mono h4 (fun v w'' h => hp _ _ h)⟩
  | round l' f tmps assign body =>
   obtain ⟨h3, h4⟩ := h2;refine ⟨h3, h4.mono ?_⟩;intro e w'' h
   cases e with
   | returned v => exact hp _ _ h
   | panicked c => exact h.elim
   | outgrown => obtain ⟨_, _, h⟩ := h; exact h.elim
  | _ => exact h2.elim
theorem IRel.step {ops : Array Oper} {o : Oper} {c : Cls} {s' : ASt} (h : AStep E ops o c s s') (hmk : E.mks = false) {a : Act} {w : World} (ha : IRel E C s p a w) {K : Act → World → Prop} {Q' : Exit → Act → World → Prop}
  (hK : ∀ a' w', IRel E C s' p a' w' → K a' w') :
  if Region.wanted o (yielded ops a.tmps) then o.wpIn E.F 0 E.P a w K Q' else (∀ f, o.about E.P w a.eval = some f → E.F.fn f) ∧ K (a.put o.dst undef) w := by
 obtain ⟨N, W1, k1, k2, k3, k4, k5, k6⟩ := ha
 have hs := h.sound (w0 := W1) (M0 := fun b => C.M b ∨ N b) k5 (K := fun a' w' => a'.defers = [] ∧ K ⟨a'.tmps, a.defers⟩ w') (Q := fun _ _ _ => False) (fun a' w' h' => by
  have hd := h'.defers hmk;refine ⟨hd, hK _ _ ⟨N, W1, k1, k2, k3, k4, ?_, k6⟩⟩;obtain ⟨t, d⟩ := a';simp only at hd;subst hd
  exact h')
 have hput : ∀ v, (⟨((⟨a.tmps, []⟩ : Act).put o.dst v).tmps, a.defers⟩ : Act) = a.put o.dst v := fun v => by cases o.dst <;> rfl
 have hs : if Region.wanted o (yielded ops a.tmps) then o.wpIn E.F 0 E.P ⟨a.tmps, []⟩ w (fun a' w' => a'.defers = [] ∧ K ⟨a'.tmps, a.defers⟩ w') (fun _ _ _ => False) else (∀ f, o.about E.P w a.eval = some f → E.F.fn f) ∧
  (fun (a' : Act) (w' : World) => a'.defers = [] ∧ K ⟨a'.tmps, a.defers⟩ w') ((⟨a.tmps, []⟩ : Act).put o.dst undef) w := hs
 split
 ·rename_i hw
  rw [if_pos hw] at hs;exact qfm hs
 ·rename_i hw
  rw [if_neg hw] at hs;have := hs.2.2;rw [hput] at this;exact ⟨hs.1, this⟩
theorem qes {E : Env} {f : FuncId} {tmps : Array Value} {assign body : Code} {w : World} {R : Ending → World → Prop} {l : Nat} (h : RoundIn Fence.wide 0 E.P l f tmps assign body w R) : RoundIn E.F 0 E.P l f tmps assign body w R := by
 obtain ⟨P, gl, ord, bow, rnd, mk⟩ := E
 cases rnd with
 | none => exact h
 | some l => exact h
theorem IRel.yield {o : Oper} {f arg : Operand} {ts : Array TypeId} {x : α} {post : List α} (hd : ∀ d, o.dst = some d → d < s.n) (ho : o.op = .call ⟨.value f, #[arg], ts⟩) (hp : p.2 = false) (hm0 : s.mem = [])
  (hf : s.eval E f = .g (G.lit (.func (.yield l) #[] #[]))) (harg : ∀ w M ρ v, TRel w M ρ (s.eval E arg) v → v = enc x) (hx : xs = p.1 ++ x :: post) (hbw : E.bow = []) {a : Act} {W : World} (ha : IRel E C s p a W)
  {K : Act → World → Prop} {Q' : Exit → Act → World → Prop} (hK : ∀ b a' W', IRel E C (s.put o.dst (.g (G.bool b))) (p.1 ++ [x], !b) a' W' → K a' W') : o.wpIn E.F 0 E.P a W K Q' := by
 obtain ⟨N, W1, k1, k2, k3, k4, k5, k6⟩ := ha;obtain ⟨ρ, hm, _, ht⟩ := k5.ex;have hg : Grow W1 W := hm.below.grow (fun _ => kp hbw);have hev := fun y => qat hm ht y
 have e1 : a.eval f = .func (.yield l) #[] #[] := by
  have := hev f;rw [hf] at this;exact this
 have e2 : a.eval arg = enc x := harg _ _ _ _ (hev arg);have hB : BelowX C.M C.w W := k3.trans (BelowX.of_grow hg)
 have hJ : C.J N p.1 false W := by
  rw [← hp];exact C.turn _ _ _ _ _ k1 (BelowX.of_grow hg)
 obtain ⟨fn, tmps, assign, body, y1, y2⟩ := C.yield N p.1 x post W hx hB (fun b hb => ⟨(k2 b hb).1, Nat.lt_of_lt_of_le (k2 b hb).2 hg.size⟩) hJ;refine ⟨fun _ _ => trivial, ?_⟩
 have hsem : o.semAt E.F.round a.eval = execOp a.eval o := by
  cases E.F.round with
  | none => rfl
  | some l' => exact Oper.semAt_some _ _ _ fun c hc => by rw [ho] at hc; cases hc
 have hrun : (execOp a.eval o).run E.P W = .ok (.round l fn tmps assign body) W := by
  simp [execOp, ho, resolve, e1, e2, Deferred.ofValue, invoke, y1]
 rw [hsem, hrun];refine ⟨qbp, (qes y2).mono ?_⟩;rintro e W' ⟨hB', b, rfl, hJ'⟩;refine hK b _ _ ⟨N, W', hJ', fun b hb => ⟨(k2 b hb).1, Nat.lt_of_lt_of_le (k2 b hb).2 (Nat.le_trans hg.size hB'.size)⟩, hB.trans hB', ?_, ?_, k6⟩
 ·rw [defers_put];refine ⟨k4.1, fun d hd => ?_⟩;obtain ⟨D, q1, q2, q3⟩ := k4.2 d hd;have hlt := (k2 D q2).2;exact ⟨D, q1, q2, (hB'.block D (Nat.lt_of_lt_of_le hlt hg.size) (fun h => by have := C.hM D h; have := (k2 D q2).1; omega)).trans ((hg.block D hlt).trans q3)⟩
 ·have hρ : ρ = fun _ => none := by
   funext id
   cases hq : ρ id with
   | none => rfl
   | some x =>
    obtain ⟨blk, hb⟩ := hm.dom id x hq;rw [hm0] at hb
    cases hb
  subst hρ;have hh : ∀ b, b < W.heap.size → ¬ owned (fun b => C.M b ∨ N b) (fun _ => none) b → W'.heap[b]? = W.heap[b]? := fun b hb hno => hB'.block b hb fun h => hno (.inl (.inl h));refine ⟨fun _ => rfl, by rw [size_put]; cases o.dst <;> exact k5.size, fun _ => none, ⟨BelowX.refl _ W', fun b hb => hb.elim (fun hb => Nat.lt_of_lt_of_le (C.hM b hb) (Nat.le_trans C.hlo (hB.trans hB').size)) (fun hb => Nat.lt_of_lt_of_le (k2 b hb).2 (Nat.le_trans hg.size hB'.size)), hm.glob.grow hB'.size hh, (fun _ _ h => by cases h), (fun _ _ h => by cases h), (fun _ _ _ _ h => by cases h), ?_, ?_, ?_⟩, Marks.nil, fun i => ?_⟩
  ·intro id x h; rw [hbw] at h; cases h
  ·intro b h; exact absurd h (kp hbw)
  ·intro id blk hb;have hb : lookO (s.put o.dst (.g (G.bool b))).mem id = some blk := hb;have : (s.put o.dst (.g (G.bool b))).mem = s.mem := rfl;rw [this, hm0] at hb
   cases hb
  ·show TRel _ _ _ ((s.put o.dst (.g (G.bool b))).get i) ((a.put o.dst (.bool b)).tmps.getD i undef);rw [qi0, getD_put _ _ _ (fun d h => by have := hd d h; rw [← k5.size] at this; exact this)]
   split
   ·exact rfl
   ·exact (ht i).mono none (by cases s.get i <;> rfl) hh (fun _ _ h => h) (fun _ _ _ => rfl)
def IStep (E : Env) (l : Nat) (enc : α → Value) (xs : List α) (ops : Array Oper) (o : Oper) (K : ASt → List α × Bool → Prop) (s : ASt) (p : List α × Bool) : Option Cls → Prop
 | some c => ∃ s', AStep E ops o c s s' ∧ K s' p
 | none => (∀ d, o.dst = some d → d < s.n) ∧ ∃ gb, Wanted ops o s gb ∧ (gb = false → K (s.put o.dst undefT) p) ∧ (gb = true → p.2 = false ∧ s.mem = [] ∧ ∃ f arg ts x post, o.op = .call ⟨.value f, #[arg], ts⟩ ∧ s.eval E f = .g (G.lit (.func (.yield l) #[] #[])) ∧
   (∀ w M ρ v, TRel w M ρ (s.eval E arg) v → v = enc x) ∧ xs = p.1 ++ x :: post ∧ ∀ b, K (s.put o.dst (.g (G.bool b))) (p.1 ++ [x], !b))
theorem IStep.sound {ops : Array Oper} {o : Oper} {c : Option Cls} {K' : ASt → List α × Bool → Prop} (h : IStep E l enc xs ops o K' s p c) (hmk : E.mks = false) (hbw : E.bow = []) {a : Act} {w : World} (ha : IRel E C s p a w) {K : Act → World → Prop} {Q' : Exit → Act → World → Prop}
  (hK : ∀ s' p' a' w', K' s' p' → IRel E C s' p' a' w' → K a' w') :
  if Region.wanted o (yielded ops a.tmps) then o.wpIn E.F 0 E.P a w K Q' else (∀ f, o.about E.P w a.eval = some f → E.F.fn f) ∧ K (a.put o.dst undef) w := by
 cases c with
 | some c =>
  obtain ⟨s', h1, h2⟩ := h;exact IRel.step h1 hmk ha fun a' w' h' => hK _ _ _ _ h2 h'
 | none =>
  obtain ⟨hd, gb, hw, hf, ht⟩ := h;obtain ⟨N, W1, k1, k2, k3, k4, k5, k6⟩ := id ha;obtain ⟨ρ, hm, _, hts⟩ := k5.ex;have hwt : Region.wanted o (yielded ops a.tmps) = gb := qee hw hts;rw [hwt]
  cases gb with
  | false =>
   simp only [Bool.false_eq_true, if_false];refine ⟨fun _ _ => trivial, hK _ _ _ _ (hf rfl) ⟨N, W1, k1, k2, k3, by rw [defers_put]; exact k4, ?_, k6⟩⟩;have := ARel.put (r := undefT) (v := undef) (kill := none) (mem' := s.mem) (dst := o.dst) k5.defers k5.size Marks.nil hts hd hm (fun _ _ _ h => h) rfl
   have e : (⟨(a.put o.dst undef).tmps, []⟩ : Act) = (⟨a.tmps, []⟩ : Act).put o.dst undef := by cases o.dst <;> rfl
   rw [e];exact this
  | true =>
   simp only [if_true];obtain ⟨hp, hm0, f, arg, ts, x, post, ho, e1, e2, hx, hk⟩ := ht rfl;exact IRel.yield hd ho hp hm0 e1 e2 hx hbw ha fun b a' W' h' => hK _ _ _ _ (hk b) h'
def IOps (E : Env) (l : Nat) (enc : α → Value) (xs : List α) (ops : Array Oper) (K : ASt → List α × Bool → Prop) : List Oper → List (Option Cls) → ASt → List α × Bool → Prop
 | [], [], s, p => K s p
 | o :: os, c :: cs, s, p => IStep E l enc xs ops o (IOps E l enc xs ops K os cs) s p c
 | _, _, _, _ => False
theorem aops_isound {ops : Array Oper} (hmk : E.mks = false) : ∀ (lo : List Oper) (cs : List Cls) (s : ASt), AOps E ops lo cs s (fun s' => Q .normal s' p) → ∀ a w, IRel E C s p a w →
  wpListIn E.F 0 E.P ops (fun e a' w' => ∃ s' p', IRel E C s' p' a' w' ∧ Q e s' p') lo a w
 | [], [], s, h, a, w, ha => ⟨s, p, ha, h⟩
 | o :: os, c :: cs, s, h, a, w, ha => by
  obtain ⟨s', h1, h2⟩ := h;exact IRel.step h1 hmk ha fun a' w' ha' => aops_isound hmk os cs s' h2 a' w' ha'
 | [], _ :: _, _, h, _, _, _ => h.elim
 | _ :: _, [], _, h, _, _, _ => h.elim
theorem iw_region {id : Nat} {ops : Array Oper} (cs : List Cls) (h : AOps E ops ops.toList cs s (fun s' => Q .normal s' p)) (hmk : E.mks = false := by rfl) : IWp E C (.region id ops false) Q s p :=
 fun a w ha => wpIn_region_list (aops_isound hmk _ cs s h a w ha)
theorem ist {ops : Array Oper} {K : ASt → List α × Bool → Prop} {o : Oper} {os : List Oper} {c : Cls} {cs : List (Option Cls)} (h : AOps E ops [o] [c] s (fun s' => IOps E l enc xs ops K os cs s' p)) : IOps E l enc xs ops K (o :: os) (some c :: cs) s p := by
 obtain ⟨s', h1, h2⟩ := h;exact ⟨s', h1, h2⟩
theorem ist_nil {ops : Array Oper} {K : ASt → List α × Bool → Prop} (h : K s p) : IOps E l enc xs ops K [] [] s p := h
theorem iy {ops : Array Oper} {K : ASt → List α × Bool → Prop} {o : Oper} {os : List Oper} {cs : List (Option Cls)} {d : Nat} {f arg : Operand} {ts : Array TypeId} {pre post : List α} (x : α) (hd : o.dst = some d) (hg : o.guard = none) (hn : Nat.blt d s.n = true)
  (ho : o.op = .call ⟨.value f, #[arg], ts⟩) (hm : s.mem = []) (hf : s.eval E f = .g (G.lit (.func (.yield l) #[] #[]))) (ha : ∀ w M ρ v, TRel w M ρ (s.eval E arg) v → v = enc x) (hx : xs = pre ++ x :: post)
  (h : ∀ b, IOps E l enc xs ops K os cs (s.put (some d) (.g (G.bool b))) (pre ++ [x], !b)) : IOps E l enc xs ops K (o :: os) (none :: cs) s (pre, false) :=
 ⟨fun d' h => by rw [hd] at h; cases h; exact Nat.le_of_ble_eq_true hn, true, (by unfold Wanted; rw [hg]), (fun h => by cases h), fun _ => ⟨rfl, hm, f, arg, ts, x, post, ho, hf, ha, hx, fun b => by rw [hd]; exact h b⟩⟩
end
section
variable {E : Env} {w0 : World} {M0 : Nat → Prop}
theorem ARel.freeze {s : ASt} {a : Act} {w : World} (id : Nat) {blk : Blk} {l : List (Nat × TV)} {m : Mem} (hb : lookO s.mem id = some blk) (h1 : FrzL s id blk l) (h2 : MemL s m) (h3 : closedB l m = true) (hid : lookO m id = none)
  (hbw : bowIn E m = true) (ha : ARel E w0 M0 s a w) : ARel E w0 M0 (stt s.n l m) a w := by
 obtain ⟨ρ, hm, hmk, ht⟩ := ha.ex
 let ρ' : Rho := fun id => if (lookO m id).isSome = true then ρ id else none
 have hρ : ∀ id, (lookO m id).isSome = true → ρ' id = ρ id := fun id hi => by simp only [ρ', if_pos hi]
 have hρ' : ∀ id x, ρ' id = some x → ρ id = some x ∧ (lookO m id).isSome = true := by
  intro id x hx;simp only [ρ'] at hx
  split at hx
  ·rename_i hi; exact ⟨hx, hi⟩
  ·cases hx
 have hM : ∀ b, owned M0 ρ' b → owned M0 ρ b := by
  rintro b (hb | ⟨id, o, ho, rfl⟩)
  ·exact .inl hb
  ·exact .inr ⟨id, o, (hρ' id _ ho).1, rfl⟩
 have hlent : lookO E.bow id = none := by
  cases hq : lookO E.bow id with
  | none => rfl
  | some x =>
   have := List.all_eq_true.1 hbw (id, x) (zn _ hq);simp only [hid] at this
   cases this
 have hno : ∀ ow, ρ id = some (some ow) → ¬ owned M0 ρ' ow.b := by
  rintro ow ho (hM0 | ⟨i, o, hi, he⟩)
  ·exact wy hm ho hlent (.inl hM0)
  ·have := hm.inj i id o ow (hρ' i _ hi).1 ho he;subst this;have := (hρ' i _ hi).2;rw [hid] at this; cases this
 simp only [closedB, Bool.and_eq_true, List.all_eq_true] at h3;refine ⟨ha.defers, ha.size, ρ', ⟨hm.below, hm.m0, ?_, ?_, ?_, ?_, ?_, hm.lentM, ?_⟩, hmk.sub hM, ?_⟩
 ·intro g vs hg;have := hm.glob g vs hg;exact ⟨⟨fun hb => this.1.1 (hM _ hb), this.1.2⟩, this.2.mono (fun _ _ _ => rfl) (fun b _ => hM b) this.1.1⟩
 ·intro id x hx;have := (hρ' id x hx).2
  cases hl : lookO m id with
  | none => rw [hl] at this; cases this
  | some b => exact ⟨b, hl⟩
 ·exact fun id ow ho => hm.fresh id ow (hρ' id _ ho).1
 ·exact fun id id' ow ow' ho ho' => hm.inj id id' ow ow' (hρ' id _ ho).1 (hρ' id' _ ho').1
 ·intro id x hx;rw [hρ id (List.all_eq_true.1 hbw (id, x) (zn _ hx))];exact hm.keep id x hx
 ·intro i blk' hb0;have hb0 : lookO m i = some blk' := hb0
  have hi : (lookO m i).isSome = true := by rw [hb0]; rfl
  have := hm.blk i blk' (wg h2 i blk' hb0)
  cases blk' with
  | box cs =>
   obtain ⟨ow, e, vs, g1, g2, g3, g4⟩ := this;have hcl := h3.2 (i, .box cs) (zn _ hb0);exact ⟨ow, e, vs, by rw [hρ i hi]; exact g1, g2, g3, g4.sub hM hρ (by simpa [blkIn] using hcl)⟩
  | arr e k xs =>
   rcases this with ⟨g1, g2⟩ | ⟨ow, vs, g1, g2, g3, g4, g5, g6, g7⟩
   ·exact .inl ⟨by rw [hρ i hi]; exact g1, g2⟩
   ·exact .inr ⟨ow, vs, by rw [hρ i hi]; exact g1, g2, g3, g4, g5, g6, g7.mono (fun _ _ _ => rfl) (fun b _ => hM b)⟩
  | mp es =>
   obtain ⟨ow, en, cl, g1, g2, g3, g4⟩ := this;exact ⟨ow, en, cl, by rw [hρ i hi]; exact g1, g2, g3.mono (fun _ _ _ => rfl) (fun b _ => hM b), g4⟩
  | obj o =>
   obtain ⟨ow, g1, g2, g3⟩ := this;exact ⟨ow, by rw [hρ i hi]; exact g1, g2, g3⟩
  | mit es seen =>
   obtain ⟨ow, g1, g2, g3⟩ := this;exact ⟨ow, by rw [hρ i hi]; exact g1, g2, g3.mono rfl (fun _ _ _ => rfl) (fun b _ => hM b)⟩
  | gone => trivial
 ·intro i;show TRel _ _ _ (lookT l i) _
  rcases qgn h1 i with h4 | ⟨⟨v, h5, h6⟩, h7⟩
  ·rw [h4]; trivial
  ·rcases h7 with ⟨h8, h9⟩ | h8
   ·have := ht i;rw [h8] at this;exact this.sub (m := m) (by rw [h6]; exact h3.1 (i, v) h5) hM hρ
   ·have hv := ht i
    rcases h8 with ⟨k, xs, e, N, rfl, hN, ha1, hb1, hk⟩ | ⟨cs, gs, off, rfl, hu, hne, ha1, hb1⟩ | ⟨es, rfl, ha1, hb1⟩
    ·rw [ha1] at hv;rw [hb1];subst hN;have hview := qa0 hm hb hv (Nat.zero_le _) (Nat.le_refl _);obtain ⟨a', cap, e1, g1, g2, g3, g4, g5, g6⟩ := hview;simp only [Nat.sub_zero, List.drop_zero, List.take_length] at e1 g1 g4 g5 g6;refine ⟨a', cap, e1, g1, g2, g5, ?_⟩
     rcases g6 with g6 | ⟨b, o, cur, news, rfl, ⟨ow, k0, rfl⟩, k1, k2, k3⟩
     ·have : xs = [] := List.eq_nil_of_length_eq_zero g6;subst this;exact .inl ⟨rfl, fun ha => (g3 ha).1⟩
     ·exact .inr ⟨ow.b, o, rfl, hno ow k0, jl k1 (k2.mono (fun _ _ _ => rfl) (fun b _ => hM b)) k3⟩
    ·rw [ha1] at hv;rw [hb1];obtain ⟨ow, g1, g2⟩ := hv;obtain ⟨ow', e, vs, g3, g4, g5, g6⟩ := hm.blk id _ hb
     have : ow' = ow := by rw [g1] at g3; simpa using g3.symm
     subst this;refine ⟨ow'.b, ow'.o + off, g2, .inr (hno ow' g1), ?_⟩;have g7 := g6;rw [qcl hu] at g7;have g8 := (xo g7).mono (w' := w) (M' := owned M0 ρ') (fun _ _ _ => rfl) (fun b _ => hM b);have hcells : Cells w (owned M0 ρ') ow'.b 0 gs := jl g5 g8 (fun j v hj => by simpa using hj);rw [g4];exact hcells.drop off
    ·rw [ha1] at hv;rw [hb1];obtain ⟨ow, g1, g2⟩ := hv;obtain ⟨ow', en, cl, g3, g4, g5, g6⟩ := hm.blk id _ hb
     have : ow' = ow := by rw [g1] at g3; simpa using g3.symm
     subst this;exact ⟨ow'.b, en, cl, g2, hno ow' g1, g4, g5.mono (fun _ _ _ => rfl) (fun b _ => hM b), g6⟩
end
section
variable {α : Type} {E : Env} {l : Nat} {enc : α → Value} {xs : List α} {C : ItC E.P l enc xs} {Q : Exit → ASt → List α × Bool → Prop} {s : ASt} {p : List α × Bool}
theorem iw_freeze {c : Code} (id : Nat) {blk : Blk} {l1 : List (Nat × TV)} {m : Mem} (hb : lookO s.mem id = some blk) (h1 : FrzL s id blk l1) (h2 : MemL s m) (h3 : closedB l1 m = true) (hid : lookO m id = none)
  (h : IWp E C c Q (stt s.n l1 m) p) (hbw : E.bow = [] := by rfl) : IWp E C c Q s p := by
 rintro a w ⟨N, W1, k1, k2, k3, k4, k5, k6⟩;exact h a w ⟨N, W1, k1, k2, k3, k4, k5.freeze id hb h1 h2 h3 hid (by unfold bowIn; rw [hbw]; rfl), k6⟩
def IEnd (xs : List α) : Exit → ASt → List α × Bool → Prop
 | .normal, _, p => p.2 = true ∨ p.1 = xs
 | .ret, _, p => p.2 = true ∨ p.1 = xs
 | _, _, _ => False
theorem leavesN {P : Program} {fn : Func} {tmps : Array Value} {N : Nat → Prop} {J J' : World → Prop} (hJJ : ∀ W, J W → J' W) (hr : ∀ w, (results fn tmps).run P w = .ok (.tuple #[]) w) (hJ : ∀ W D o, N D → J W → J (W.putObj D o)) : ∀ (ds : List Deferred) (w1 : World), MarksN N ds w1 → J w1 →
  LeavesInM Fence.wide 0 P fn tmps (fun e w'' => (∃ v, e = .returned v) ∧ J' w'') ds .returning w1
 | [], w1, _, hj => ⟨_, hr w1, ⟨_, rfl⟩, hJJ _ hj⟩
 | d :: ds, w1, ⟨hn, hd⟩, hj => by
  obtain ⟨D, rfl, hN, hD⟩ := hd _ List.mem_cons_self;obtain ⟨hn1, hn2⟩ := List.nodup_cons.1 hn;refine ⟨by simp, .inl ⟨D, _, rfl, run_takeDeferred hD, ?_⟩⟩;refine leavesN hJJ hr hJ ds _ ⟨hn2, fun d' hd' => ?_⟩ (hJ _ _ _ hN hj);obtain ⟨D', rfl, hN', hD'⟩ := hd d' (List.mem_cons_of_mem _ hd');exact ⟨D', rfl, hN', (World.putObj_heap_other (fun e => hn1 (by rw [← e]; exact hd'))).trans hD'⟩
theorem seqN_of_iw {g : FuncId} {fn : Func} {c : Code} {caps : List G} (hf : E.P.funcs[g]? = some fn) (hb : fn.body = some c) (hn0 : Nat.ble (caps.length + 1) fn.ntmps = true) (hres : fn.results = #[])
  (h : ∀ (l : Nat) (C : ItC E.P l enc xs), IWp E C c (IEnd xs) ⟨fn.ntmps, initT (G.lit (.func (.yield l) #[] #[]) :: caps), []⟩ ([], false)) (hbw : E.bow = [] := by rfl) (hrn : E.rnd = none := by rfl) : SeqN E g caps enc xs := by
 intro w M vs l J hM hgl hv hturn htake hy h0;have hn := Nat.le_of_ble_eq_true hn0;have hlen := hv.length
 have hF : E.F = Fence.wide := by unfold Env.F; rw [hrn]; rfl
 let C : ItC E.P l enc xs := ⟨w, w.heap.size, M, J, fun _ => False, hM, Nat.le_refl _, hturn, htake, hy⟩
 refine callsIn_of_wp_marks hf hb trivial ?_ rfl
 have hv' : FitsT w (owned (fun b => M b ∨ False) (fun _ => none)) (G.lit (.func (.yield l) #[] #[]) :: caps) ((Value.func (.yield l) #[] #[]) :: vs) :=
  ⟨rfl, hv.mono (fun _ _ _ => rfl) (by rintro b _ (h | ⟨_, _, h, _⟩); exact h.resolve_right id; cases h)⟩
 have ha : IRel E C ⟨fn.ntmps, initT (G.lit (.func (.yield l) #[] #[]) :: caps), []⟩ ([], false) { tmps := (#[Value.func (.yield l) #[] #[]] ++ vs.toArray) ++ Array.replicate (fn.ntmps - (#[Value.func (.yield l) #[] #[]] ++ vs.toArray).size) undef, defers := [] } w := by
  refine ⟨fun _ => False, w, h0, (fun _ h => h.elim), BelowX.refl _ w, ⟨.nil, fun _ h => by cases h⟩, ⟨fun _ => rfl, ?_, fun _ => none, ⟨BelowX.refl _ w, (fun b h => hM b (h.resolve_right id)), ?_, ?_, ?_, ?_, (fun id x h => by rw [hbw] at h; cases h), (fun b h => absurd h (kp hbw)), ?_⟩, Marks.nil, ?_⟩, fun _ h => h⟩
  ·simp; omega
  ·intro g vs hg;have := hgl g vs hg
   have hiff : ∀ b, owned (fun b => M b ∨ False) (fun _ => none) b → M b := by rintro b (h | ⟨_, _, h, _⟩); exact h.resolve_right id; cases h
   exact ⟨⟨fun h => this.1.1 (hiff _ h), this.1.2⟩, this.2.mono (fun _ _ _ => rfl) (fun b _ h => hiff b h) this.1.1⟩
  ·intro _ _ h; cases h
  ·intro _ _ h; cases h
  ·intro _ _ _ _ h; cases h
  ·intro _ _ h; cases h
  ·intro i;have := we (ρ := fun _ => none) (fn.ntmps - (vs.length + 1)) hv' i;show TRel _ _ _ (initT _ i) _;rw [Array.getD_eq_getD_getElem?];rw [show ((#[Value.func (.yield l) #[] #[]] ++ vs.toArray) ++ Array.replicate (fn.ntmps - (#[Value.func (.yield l) #[] #[]] ++ vs.toArray).size) undef) = ((Value.func (.yield l) #[] #[] :: vs) ++ List.replicate (fn.ntmps - (vs.length + 1)) undef).toArray by simp [Nat.add_comm]];rw [List.getElem?_toArray];exact this
 have hw := h l C _ w ha;rw [hF] at hw;refine wpIn_mono hw ?_;rintro e a' w' ⟨s', p', ⟨N, W1, k1, k2, k3, k4, k5, k6⟩, hq⟩;obtain ⟨ρ, hm, _, _⟩ := k5.ex;have hg : Grow W1 w' := hm.below.grow (fun _ => kp hbw)
 have hk : MarksN N a'.defers w' := ⟨k4.1, fun d hd => by
  obtain ⟨D, q1, q2, q3⟩ := k4.2 d hd
  exact ⟨D, q1, q2, (hg.block D (k2 D q2).2).trans q3⟩⟩
 have fin : (p'.2 = true ∨ p'.1 = xs) → LeavesInM Fence.wide 0 E.P fn a'.tmps (fun e w'' => (∃ v, e = .returned v) ∧ (J (fun _ => False) xs false w'' ∨ ∃ pre, J (fun _ => False) pre true w'')) a'.defers .returning w' := by
  intro hq;have hJ : J N p'.1 p'.2 w' := hturn _ _ _ _ _ k1 (BelowX.of_grow hg);refine leavesN (P := E.P) (fn := fn) (tmps := a'.tmps) (N := N) (J := fun W => J N p'.1 p'.2 W) (fun W hj => ?_) (fun w => results_none hres _ _ w) (fun W D o hN hj => hturn _ _ _ _ _ hj (xr _ _ _ hN)) a'.defers w' hk hJ;have hj := htake _ (fun _ => False) _ _ _ hj (fun _ h => h.elim);obtain ⟨pre, st⟩ := p'
  cases st with
  | true => exact .inr ⟨pre, hj⟩
  | false =>
   rcases hq with h | h
   ·cases h
   ·rw [show pre = xs from h] at hj; exact .inl hj
 cases e with
 | ret => exact fin hq
 | normal => exact fin hq
 | _ => exact hq.elim
end
section
variable {E : Env} {w0 : World} {M0 : Nat → Prop}
def JmN (ρ : Rho) (Mo N : Nat → Prop) (lp D : Nat) (w : World) (st : Obj) (m : Mem) (W : World) : Prop :=
 BelowX (fun b => b = lp ∨ ∃ id ow, ρ id = some (some ow) ∧ ow.b = b) w W ∧ (∀ id blk, lookO m id = some blk → BRel W (fun b => Mo b ∨ N b) ρ id blk) ∧ W.heap[lp]? = some st ∧ W.heap[D]? = some (.deferred (some [])) ∧ ∀ b, N b → w.heap.size ≤ b
theorem JmN.turn {ρ : Rho} {Mo N : Nat → Prop} {lp D : Nat} {w W W' : World} {st : Obj} {m : Mem} (hsub : ∀ id ow, ρ id = some (some ow) → ow.b < w.heap.size) (hlp : lp < w.heap.size ∧ D < w.heap.size) (h : JmN ρ Mo N lp D w st m W) (hB : BelowX N W W') : JmN ρ Mo N lp D w st m W' := by
 obtain ⟨h1, h2, h3, h4, h5⟩ := h;refine ⟨⟨hB.os.trans h1.os, hB.tape.trans h1.tape, hB.output.trans h1.output, Nat.le_trans h1.size hB.size, fun k hk hl => ?_⟩, fun id blk hb => ?_, ?_, ?_, h5⟩
 ·exact (hB.block k (Nat.lt_of_lt_of_le hk h1.size) (fun h => by have := h5 k h; omega)).trans (h1.block k hk hl)
 ·exact (h2 id blk hb).mono none (by simp) (ze _) (fun ow ho => hB.block _ (Nat.lt_of_lt_of_le (hsub id ow ho) h1.size) fun h => by have := h5 _ h; have := hsub id ow ho; omega) (fun b hb hno => hB.block b hb fun h => hno (.inr h)) (fun _ _ h => h) (fun _ _ _ => rfl)
 ·exact (hB.block lp (Array.getElem?_eq_some_iff.1 h3).1 (fun h => by have := h5 _ h; omega)).trans h3
 ·exact (hB.block D (Array.getElem?_eq_some_iff.1 h4).1 (fun h => by have := h5 _ h; omega)).trans h4
theorem JmN.take {ρ : Rho} {Mo N N' : Nat → Prop} {lp D : Nat} {w W : World} {st : Obj} {m : Mem} (hN : ∀ b, N' b → N b ∨ W.heap.size ≤ b) (h : JmN ρ Mo N lp D w st m W) : JmN ρ Mo N' lp D w st m W := by
 obtain ⟨h1, h2, h3, h4, h5⟩ := h;refine ⟨h1, fun id blk hb => ?_, h3, h4, fun b hb => ?_⟩
 ·exact (h2 id blk hb).mono none (by simp) (ze _) (fun _ _ => rfl) (fun _ _ _ => rfl) (fun b hb h => h.imp (fun h => h) fun h => (hN b h).resolve_right (by omega)) (fun _ _ _ => rfl)
 ·rcases hN b hb with h | h
  ·exact h5 b h
  ·exact Nat.le_trans h1.size h
theorem aw_rangeFuncN {α γ : Type} {gop : Operand} {p : Tmp} {assign body : Code} {Q : Exit → ASt → Prop} {n : Nat} {t : Nat → TV} {gf : FuncId} {caps : List G} {enc : α → Value} {xs : List α}
  (m : γ → Mem) (I : List α → γ → Prop) (g0 : γ) (S1 : γ → α → ASt) (Px : Code → List α → Mem → Prop)
  (hmk : E.mks = true) (hrn : E.rnd = none) (hk : Known E.P gf) (hp : p < n)
  (hg : ASt.eval E ⟨n, t, m g0⟩ gop = .g (.fn (.func gf) [] caps)) (hseq : SeqN E gf caps enc xs) (gx : α → G) (hgx : ∀ x w M, (gx x).p w M (enc x))
  (hg0 : I [] g0) (hids : ∀ g, sameIds (m g0) (m g)) (hgood : ∀ g, goodM (m g) = true)
  (hassign : ∀ pre x post g, xs = pre ++ x :: post → I pre g → ∀ lp w1 M1 x1, AWp (E.turn lp (m g) x1) w1 M1 assign (fun e s' => e = .normal ∧ s' = S1 g x) ⟨n, upd p (.g (gx x)) t, m g⟩)
  (hlive1 : ∀ g x, liveM (S1 g x).mem = true)
  (hbody : ∀ pre x post g, xs = pre ++ x :: post → I pre g → ∀ lp w1 M1 x1, AWp (E.turn lp (S1 g x).mem x1) w1 M1 body (RoundQ m I Px (m g0) (pre ++ [x])) (S1 g x))
  (hdone : ∀ g, I xs g → Q .normal ⟨n, t, m g⟩)
  (hstop : ∀ c pre mx, Px c pre mx → AWp E w0 M0 c Q ⟨n, t, mx⟩) : AWp E w0 M0 (.rangeFunc gop #[p] assign body) Q ⟨n, t, m g0⟩ := by
 intro a w ha;obtain ⟨ρ, hm, hmks, ht⟩ := ha.ex
 have hF : E.F = Fence.wide := by unfold Env.F; rw [hrn]; rfl
 obtain ⟨fs, cs, hge, hfs, hcs⟩ : (G.fn (.func gf) [] caps).p w (owned M0 ρ) (a.eval gop) := by
  have := qat hm ht gop;rw [hg] at this;exact this
 obtain rfl : fs = [] := by cases fs with
  | nil => rfl
  | cons => exact hfs.elim
 obtain ⟨fng, k1, k2, k3⟩ := hk;refine wpIn_rangeFunc ?_;intro fn _;obtain ⟨rec, hrec⟩ : ∃ rec : LoopState → Option Code → Loop, rec = fun st pe => { state := st, pending := pe, fn, tmps := a.tmps, params := #[p], assign, body, defers := w.heap.size } := ⟨_, rfl⟩;obtain ⟨w2, hw2⟩ : ∃ w2, (w.alloc (.deferred (some []))).alloc (.loop (rec .ready none)) = w2 := ⟨_, rfl⟩
 have hgr : Grow w w2 := by rw [← hw2]; exact (Grow.alloc w _).trans (Grow.alloc _ _)
 have hsz : w2.heap.size = w.heap.size + 2 := by rw [← hw2]; simp
 have hL : w2.heap[w.heap.size + 1]? = some (.loop (rec .ready none)) := by
  rw [← hw2]; have := World.alloc_heap_new (w.alloc (.deferred (some []))) (.loop (rec .ready none)); rwa [World.size_alloc] at this
 have hD : w2.heap[w.heap.size]? = some (.deferred (some [])) := by
  rw [← hw2]; exact (RowKit.Below.heap_alloc _ _ _ (by simp)).trans (World.alloc_heap_new w _)
 have hρlt : ∀ id ow, ρ id = some (some ow) → ow.b < w.heap.size := fun id ow h => (hm.fresh id ow h).2
 have hrun : (Instr.enterLoop fn a.tmps #[p] assign body E.F.round).run E.P w = .ok (w.heap.size + 1, [{ target := .collected w.heap.size, args := #[] }]) w2 := by
  rw [← hw2, hrec, hF]; exact run_enterLoop_outer _ _ _ _ _
 clear hw2;generalize hDD : w.heap.size = D at *;generalize hlpp : D + 1 = lp at *
 let Mo : Nat → Prop := fun b => owned M0 ρ b ∨ b = D ∨ b = lp
 let L : Nat → Prop := fun b => b = lp ∨ ∃ id ow, ρ id = some (some ow) ∧ ow.b = b
 have hLMo : ∀ b, L b → Mo b := by
  rintro b (h | ⟨id, ow, h, rfl⟩)
  ·exact .inr (.inr h)
  ·exact .inl (.inr ⟨id, ow, h, rfl⟩)
 have hsubMo : ∀ id ow, ρ id = some (some ow) → Mo ow.b := fun id ow h => .inl (.inr ⟨id, ow, h, rfl⟩)
 have hMow : ∀ b, Mo b → b < w2.heap.size := by
  rintro b (h | h | h)
  ·have := hm.lt b h; omega
  ·omega
  ·omega
 have hMoSub : ∀ b, b < w.heap.size → Mo b → owned M0 ρ b := by
  rintro b hb (h | h | h)
  ·exact h
  ·omega
  ·omega
 have hgl2 : GlOk E w2 Mo := fun g vs hgv => by
  obtain ⟨⟨g1, g2⟩, g3⟩ := hm.glob g vs hgv;refine ⟨⟨?_, by omega⟩, g3.mono hgr.hh hMoSub g1⟩;rintro (h | h | h)
  ·exact g1 h
  ·omega
  ·omega
 have hdom : ∀ gg id y, ρ id = some y → ∃ blk, lookO (m gg) id = some blk := fun gg id y h => by
  rw [vn, hids gg, ← vn]; exact hm.dom id y h
 let x0 : Nat → Option Own := fun id => (ρ id).getD none
 have hx00 : ∀ id blk, lookO (m g0) id = some blk → ρ id = some (x0 id) := fun id blk h => by
  have h1 := List.all_eq_true.1 (hgood g0) _ (zn _ h);simp only [Bool.and_eq_true] at h1;obtain ⟨y, hy⟩ := (hm.blk id blk h).has h1.1;simp only [x0, hy, Option.getD_some]
 have hx0 : ∀ mx, sameIds (m g0) mx → ∀ id blk, lookO mx id = some blk → ρ id = some (x0 id) := fun mx hs id blk h => by
  obtain ⟨b0, hb0⟩ : ∃ b0, lookO (m g0) id = some b0 := by rw [vn, ← hs, ← vn]; exact ⟨_, h⟩
  exact hx00 id b0 hb0
 have hhW : ∀ W, BelowX L w2 W → ∀ b, b < w2.heap.size → ¬ Mo b → W.heap[b]? = w2.heap[b]? := fun W h b hb hno => h.block b hb fun hl => hno (hLMo b hl)
 have htW : ∀ W, BelowX L w2 W → ∀ i, TRel W Mo ρ (t i) (a.tmps.getD i undef) := fun W h i =>
  ((ht i).mono none (by cases ASt.get ⟨n, t, m g0⟩ i <;> rfl) hgr.hh hMoSub (fun _ _ _ => rfl)).mono none (by cases ASt.get ⟨n, t, m g0⟩ i <;> rfl) (hhW W h) (fun _ _ h => h) (fun _ _ _ => rfl)
 have hglN : ∀ W (N : Nat → Prop), BelowX L w2 W → (∀ b, N b → w2.heap.size ≤ b) → GlOk E W (fun b => Mo b ∨ N b) := fun W N h hN g vs hgv => by
  obtain ⟨⟨g1, g2⟩, g3⟩ := hgl2 g vs hgv
  have hs : ∀ b, b < w2.heap.size → (Mo b ∨ N b) → Mo b := fun b hb hx => hx.resolve_right fun k => by have := hN b k; omega
  exact ⟨⟨fun k => g1 (hs g g2 k), by have := h.size; omega⟩, g3.mono (fun b hb hno => hhW W h b hb hno) hs g1⟩
 have htWN : ∀ W (N : Nat → Prop), BelowX L w2 W → (∀ b, N b → w2.heap.size ≤ b) → ∀ i, TRel W (fun b => Mo b ∨ N b) ρ (t i) (a.tmps.getD i undef) := fun W N h hN i =>
  (((ht i).mono none (by cases ASt.get ⟨n, t, m g0⟩ i <;> rfl) hgr.hh hMoSub (fun _ _ _ => rfl) : TRel w2 Mo ρ (t i) (a.tmps.getD i undef))).mono none (by cases ASt.get ⟨n, t, m g0⟩ i <;> rfl) (hhW W h) (fun b hb hx => hx.resolve_right fun k => by have := hN b k; omega) (fun _ _ _ => rfl)
 -- behind the loop
 have back : ∀ mx W' st pe N, sameIds (m g0) mx → JmN ρ Mo N lp D w2 (.loop (rec st pe)) mx W' →
   ARel E w0 M0 ⟨n, t, mx⟩ { a with defers := { target := .collected D, args := #[] } :: a.defers } (W'.putObj lp (.loop { rec st pe with state := .exhausted })) := by
  rintro mx W' st pe N hs ⟨j1, j2, j3, j4, j5⟩;have hfull : BelowX L w2 (W'.putObj lp (.loop { rec st pe with state := .exhausted })) := j1.trans (xr _ _ _ (.inl rfl))
  have hhw : ∀ b, b < w.heap.size → ¬ owned M0 ρ b → (W'.putObj lp (.loop { rec st pe with state := .exhausted })).heap[b]? = w.heap[b]? := fun b hb hno =>
   (hhW _ hfull b (by omega) fun h => hno (hMoSub b hb h)).trans (hgr.block b hb)
  have hsize : w.heap.size ≤ (W'.putObj lp (.loop { rec st pe with state := .exhausted })).heap.size := by have := hfull.size; omega
  refine ⟨(fun h => by rw [hmk] at h; cases h), ha.size, ρ, ⟨?_, hm.m0, ?_, ?_, ?_, hm.inj, hm.keep, hm.lentM, ?_⟩, ?_, fun i => ?_⟩
  ·refine ⟨hfull.os.trans (hgr.os.trans hm.below.os), hfull.tape.trans (hgr.tape.trans hm.below.tape), hfull.output.trans (hgr.output.trans hm.below.output), Nat.le_trans hm.below.size hsize, fun k hk' hl => ?_⟩;have hkw := Nat.lt_of_lt_of_le hk' hm.below.size;refine (hfull.block k (by omega) ?_).trans ((hgr.block k hkw).trans (hm.below.block k hk' hl));rintro (h | ⟨id, ow, h, rfl⟩)
   ·omega
   ·rcases (hm.fresh id ow h).1 with g | g
    ·omega
    ·exact hl g
  ·exact hm.glob.grow hsize hhw
  ·intro id y h;rw [vn, hs, ← vn]; exact hm.dom id y h
  ·exact fun id ow h => ⟨(hm.fresh id ow h).1, Nat.lt_of_lt_of_le (hm.fresh id ow h).2 hsize⟩
  ·intro id blk hb;refine (j2 id blk hb).mono none (by simp) (ze _) (fun ow ho => World.putObj_heap_other ?_) (fun b _ hno => World.putObj_heap_other ?_) (fun b _ h => .inl (.inl h)) (fun _ _ _ => rfl)
   ·have := hρlt id ow ho; omega
   ·intro e; exact hno (.inl (.inr (.inr e)))
  ·refine ⟨List.nodup_cons.2 ⟨fun hd => ?_, hmks.1⟩, fun d hd => ?_⟩
   ·obtain ⟨D', q1, q2, q3⟩ := hmks.2 _ hd;have hq := (Array.getElem?_eq_some_iff.1 q3.2).1;simp only [Deferred.mk.injEq, Target.collected.injEq, and_true] at q1
    omega
   rcases List.mem_cons.1 hd with rfl | hd
   ·refine ⟨D, rfl, by have := hm.below.size; omega, ?_, (World.putObj_heap_other (by omega)).trans j4⟩;rintro (h | ⟨id, ow, h, e⟩)
    ·have := hm.m0 D h; have := hm.below.size; omega
    ·have := hρlt id ow h; omega
   ·obtain ⟨D', q1, q2, q3⟩ := hmks.2 d hd;exact ⟨D', q1, q2, (G.mark D').mono q3 hhw (fun _ _ h => h)⟩
  ·exact (ht i).mono none (by cases ASt.get ⟨n, t, m g0⟩ i <;> rfl) hhw (fun _ _ h => h) (fun _ _ _ => rfl)
 refine ⟨lp, [{ target := .collected D, args := #[] }], w2, { target := .fn (.func gf) cs.toArray, args := #[.func (.yield lp) #[] #[]] }, w2, gf,
  #[.func (.yield lp) #[] #[]] ++ cs.toArray, w2, hrun, ?_, fun _ _ => trivial, ?_, qbp, ?_⟩
 ·simp only [resolve, hge]
  simp [go_sem]
 ·simp [invoke, go_sem, run_callFunc k1 k2 k3]
 rw [hF]
 refine (hseq w2 Mo cs lp (fun N pre st W => (st = false → ∃ gg, I pre gg ∧ JmN ρ Mo N lp D w2 (.loop (rec .ready none)) (m gg) W) ∧
  (st = true → ∃ c mx, Px c pre mx ∧ sameIds (m g0) mx ∧ JmN ρ Mo N lp D w2 (.loop (rec .done (some c))) mx W)) hMow hgl2 (hcs.mono hgr.hh hMoSub) ?_ ?_ ?_ ?_).mono ?_
 ·rintro N pre st W W' ⟨h1, h2⟩ hB;exact ⟨fun h => by obtain ⟨gg, hI, hj⟩ := h1 h; exact ⟨gg, hI, hj.turn (fun id ow ho => by have := hρlt id ow ho; omega) ⟨by omega, by omega⟩ hB⟩, fun h => by obtain ⟨c, mx, q1, q2, hj⟩ := h2 h; exact ⟨c, mx, q1, q2, hj.turn (fun id ow ho => by have := hρlt id ow ho; omega) ⟨by omega, by omega⟩ hB⟩⟩
 ·rintro N N' pre st W ⟨h1, h2⟩ hN;exact ⟨fun h => by obtain ⟨gg, hI, hj⟩ := h1 h; exact ⟨gg, hI, hj.take hN⟩, fun h => by obtain ⟨c, mx, q1, q2, hj⟩ := h2 h; exact ⟨c, mx, q1, q2, hj.take hN⟩⟩
 ·-- ONE ROUND
  rintro N pre x post W1 hxs _ hN ⟨hst, _⟩;obtain ⟨gg, hI, j1, j2, j3, j4, j5⟩ := hst rfl;have hlpW1 : lp < W1.heap.size := (Array.getElem?_eq_some_iff.1 j3).1;have hy := run_yield (P := E.P) (args := #[enc x]) j3 (by rw [hrec]; rfl);refine ⟨_, _, _, _, hy, roundIn_of_wpIn trivial ?_⟩;clear hy
  have hfold : (((rec .ready none).params.zip #[enc x]).foldl (fun tmps (t, a) => tmps.setIfInBounds t a) (rec .ready none).tmps) = (a.put (some p) (enc x)).tmps := by rw [hrec]; simp [Act.put]
  have has : (rec .ready none).assign = assign := by rw [hrec]
  have hbo : (rec .ready none).body = body := by rw [hrec]
  rw [hfold, has, hbo];obtain ⟨o1, l1, mr1⟩ := qb5 (E := E) (x := x0) lp (mem := m gg) (W := W1) (Mo := fun b => Mo b ∨ N b) (fun b h => h.elim (fun h => Nat.lt_of_lt_of_le (hMow b h) j1.size) (fun h => (hN b h).2)) (hglN W1 N j1 j5) (hdom gg) (hx0 _ (hids gg)) (fun id ow h => .inl (hsubMo id ow h)) hm.inj j2;generalize hM1 : (fun b => (Mo b ∨ N b) ∧ ¬ ∃ id ow, ρ id = some (some ow) ∧ ow.b = b) = M1 at *
  have ha1 : ARel (E.turn lp (m gg) x0) W1 M1 ⟨n, upd p (.g (gx x)) t, m gg⟩ { tmps := (a.put (some p) (enc x)).tmps, defers := [] } W1 := by
   refine ⟨fun _ => rfl, by rw [size_put]; exact ha.size, ρ, mr1, Marks.nil, fun i => ?_⟩;rw [o1];show TRel W1 (fun b => Mo b ∨ N b) ρ (upd p (.g (gx x)) t i) ((a.put (some p) (enc x)).tmps.getD i undef);rw [getD_put a (some p) (enc x) (fun d h => by cases h; rw [ha.size]; exact hp), qj1]
   by_cases hpi : p = i
   ·rw [if_pos hpi, if_pos (by rw [hpi])]; exact hgx x _ _
   ·rw [if_neg hpi, if_neg (fun h => hpi (by cases h; rfl))]; exact htWN W1 N j1 j5 i
  refine wpIn_mono (hassign pre x post gg hxs hI lp W1 M1 x0 _ W1 ha1) ?_;rintro e a1 W2 ⟨s', ha2, rfl, rfl⟩;obtain ⟨ρ2, hm2, _, ht2⟩ := ha2.ex
  have hnl : ¬ (E.turn lp (m gg) x0).lent lp := fun h => by obtain ⟨id, ow, h1, h2⟩ := (l1 _).1 h; have := hρlt id ow h1; omega
  have hnD : ¬ (E.turn lp (m gg) x0).lent D := fun h => by obtain ⟨id, ow, h1, h2⟩ := (l1 _).1 h; have := hρlt id ow h1; omega
  have e3 : W2.heap[lp]? = some (.loop (rec .ready none)) := (hm2.below.block lp hlpW1 hnl).trans j3;have e4 : W2.heap[D]? = some (.deferred (some [])) := (hm2.below.block D (by omega) hnD).trans j4;refine ⟨_, run_beginRound e3 (by rw [hrec]), ?_⟩;have hlpW2 : lp < W2.heap.size := Nat.lt_of_lt_of_le hlpW1 hm2.below.size;have hρ2 : ∀ id y, ρ id = some y → ρ2 id = some y := fun id y h => hm2.keep id y ((vc x0).2 ⟨hdom gg id y h, by simp only [x0, h, Option.getD_some]⟩)
  have hne2 : ∀ id ow, ρ2 id = some (some ow) → ow.b ≠ lp := fun id ow h e => by
   rcases (hm2.fresh id ow h).1 with g | g
   ·omega
   ·exact hnl (e ▸ g)
  have hne2D : ∀ id ow, ρ2 id = some (some ow) → ow.b ≠ D := fun id ow h e => by
   rcases (hm2.fresh id ow h).1 with g | g
   ·omega
   ·exact hnD (e ▸ g)
  have hMM : ∀ b, (Mo b ∨ N b) → owned M1 ρ2 b := fun b h => by
   have h : (fun b => Mo b ∨ N b) b := h;rw [← o1] at h
   rcases h with h | ⟨id, ow, ho, rfl⟩
   ·exact .inl h
   ·exact .inr ⟨id, ow, hρ2 id _ ho, rfl⟩
  have hh2 : ∀ b, b < W2.heap.size → ¬ owned M1 ρ2 b → (W2.putObj lp (.loop { rec .ready none with state := .busy })).heap[b]? = W2.heap[b]? := fun b _ hno =>
   World.putObj_heap_other fun e => hno (by rw [e]; exact hMM lp (.inl (.inr (.inr rfl))))
  have hx2 : ∀ id blk, lookO (S1 gg x).mem id = some blk → ρ2 id = some ((ρ2 id).getD none) := fun id blk h => by
   obtain ⟨y, hy⟩ := (hm2.blk id blk h).has (List.all_eq_true.1 (hlive1 gg x) _ (zn _ h));rw [hy]; rfl
  obtain ⟨o2, l2, mr2⟩ := qb5 (E := E) (x := fun id => (ρ2 id).getD none) lp (mem := (S1 gg x).mem) (W := W2.putObj lp (.loop { rec .ready none with state := .busy })) (Mo := owned M1 ρ2) (fun b h => by rw [kx]; exact hm2.lt b h)
   (GlOk.grow (E := E) hm2.glob (by rw [kx]; exact Nat.le_refl _) hh2) hm2.dom hx2 (fun id ow h => .inr ⟨id, ow, h, rfl⟩) hm2.inj
   (fun id blk hb => (hm2.blk id blk hb).mono none (by simp) (ze _) (fun ow ho => World.putObj_heap_other (hne2 id ow ho)) hh2 (fun _ _ h => h) (fun _ _ _ => rfl))
  generalize hM2 : (fun b => owned M1 ρ2 b ∧ ¬ ∃ id ow, ρ2 id = some (some ow) ∧ ow.b = b) = M2 at *;have had : a1.defers = [] := ha2.defers rfl
  have ha3 : ARel (E.turn lp (S1 gg x).mem fun id => (ρ2 id).getD none) (W2.putObj lp (.loop { rec .ready none with state := .busy })) M2 (S1 gg x) a1 (W2.putObj lp (.loop { rec .ready none with state := .busy })) := by
   refine ⟨fun _ => had, ha2.size, ρ2, mr2, by rw [had]; exact Marks.nil, fun i => ?_⟩;rw [o2];exact (ht2 i).mono none (by cases (S1 gg x).get i <;> rfl) hh2 (fun _ _ h => h) (fun _ _ _ => rfl)
  refine wpIn_mono (hbody pre x post gg hxs hI lp _ M2 _ a1 _ ha3) ?_;rintro e2 a2 W3 ⟨s3, ha4, hq⟩;obtain ⟨ρ3, hm3, _, _⟩ := ha4.ex
  have hnl2 : ¬ (E.turn lp (S1 gg x).mem fun id => (ρ2 id).getD none).lent lp := fun h => by obtain ⟨id, ow, h1, h2⟩ := (l2 _).1 h; exact hne2 id ow h1 h2
  have hnD2 : ¬ (E.turn lp (S1 gg x).mem fun id => (ρ2 id).getD none).lent D := fun h => by obtain ⟨id, ow, h1, h2⟩ := (l2 _).1 h; exact hne2D id ow h1 h2
  have f3 : W3.heap[lp]? = some (.loop { rec .ready none with state := .busy }) := (hm3.below.block lp (by rw [kx]; exact hlpW2) hnl2).trans (World.putObj_heap_same hlpW2);have f4 : W3.heap[D]? = some (.deferred (some [])) := (hm3.below.block D (by rw [kx]; omega) hnD2).trans ((World.putObj_heap_other (by omega)).trans e4)
  have b13 : BelowX L W1 W3 := by
   have hb := hm3.below;have hb2 := hm2.below;refine ⟨hb.os.trans hb2.os, hb.tape.trans hb2.tape, hb.output.trans hb2.output, by have := hb.size; rw [kx] at this; exact Nat.le_trans hb2.size this, fun k hk hl => ?_⟩;refine (hb.block k (by rw [kx]; exact Nat.lt_of_lt_of_le hk hb2.size) ?_).trans ((World.putObj_heap_other fun e => hl (.inl e)).trans (hb2.block k hk fun h => hl (.inr ((l1 k).1 h))));intro h;obtain ⟨id, ow, h1, rfl⟩ := (l2 _).1 h
   rcases (hm2.fresh id ow h1).1 with g | g
   ·omega
   ·exact hl (.inr ((l1 _).1 g))
  have fin : ∀ (mx : Mem) (jump : Option Code), sameIds (m g0) mx → goodM mx = true → MemL s3 mx →
    ∃ W4, (Instr.endRound lp jump).run E.P W3 = .ok (.bool jump.isNone) W4 ∧ BelowX Mo W1 W4 ∧ JmN ρ Mo N lp D w2 (.loop (rec (if jump.isNone then .ready else .done) jump)) mx W4 := by
   intro mx jump hs hgd hml;have hr := run_endRound (P := E.P) jump f3
   have hrr : ({ ({ rec .ready none with state := .busy } : Loop) with state := if jump.isNone then .ready else .done, pending := jump } : Loop) = rec (if jump.isNone then .ready else .done) jump := by rw [hrec]
   rw [hrr] at hr;have b14 : BelowX L W1 (W3.putObj lp (.loop (rec (if jump.isNone then .ready else .done) jump))) := b13.trans (xr _ _ _ (.inl rfl));refine ⟨_, hr, b14.mono hLMo, j1.trans b14, fun id blk hb => ?_, World.putObj_heap_same (Array.getElem?_eq_some_iff.1 f3).1, (World.putObj_heap_other (by omega)).trans f4, j5⟩;have hρid := hx0 mx hs id blk hb;have hρ2id := hρ2 id _ hρid;have hρ3 : ∀ id y, ρ2 id = some y → ρ3 id = some y := fun id y h => hm3.keep id y ((vc (fun id => (ρ2 id).getD none)).2 ⟨hm2.dom id y h, by simp only [h, Option.getD_some]⟩)
   have hsub3 : ∀ b, (Mo b ∨ N b) → owned M2 ρ3 b := fun b h => by
    have h1 := hMM b h;rw [← o2] at h1
    rcases h1 with h1 | ⟨id, ow, h1, rfl⟩
    ·exact .inl h1
    ·exact .inr ⟨id, ow, hρ3 id _ h1, rfl⟩
   have hgr2 := List.all_eq_true.1 hgd _ (zn _ hb);simp only [Bool.and_eq_true] at hgr2;have h5 : BRel W3 (fun b => Mo b ∨ N b) ρ id blk := BRel.ground hgr2.2 (hρid.trans (hρ3 id _ hρ2id).symm) ((hm3.blk id blk (wg hml id blk hb)).sub hsub3);exact h5.mono none (by simp) (ze _) (fun ow ho => World.putObj_heap_other (by have := hρlt id ow ho; omega)) (fun b _ hno => World.putObj_heap_other fun e => hno (.inl (.inr (.inr e)))) (fun _ _ h => h) (fun _ _ _ => rfl)
  cases e2 with
  | normal =>
   obtain ⟨g', hI', hq⟩ := hq;obtain ⟨W4, g1, g2, g3⟩ := fin (m g') none (hids _) (hgood _) hq;exact ⟨_, W4, g1, g2, _, rfl, ⟨(fun _ => ⟨g', hI', g3⟩), (fun h => by cases h)⟩⟩
  | ret =>
   obtain ⟨mx, q1, q2, q3, q4⟩ := hq;obtain ⟨W4, g1, g2, g3⟩ := fin mx (some .ret) q2 q3 q4;exact ⟨_, W4, g1, g2, _, rfl, ⟨(fun h => by cases h), fun _ => ⟨_, mx, q1, q2, g3⟩⟩⟩
  | exit id =>
   obtain ⟨mx, q1, q2, q3, q4⟩ := hq;obtain ⟨W4, g1, g2, g3⟩ := fin mx (some (.exit id)) q2 q3 q4;exact ⟨_, W4, g1, g2, _, rfl, ⟨(fun h => by cases h), fun _ => ⟨_, mx, q1, q2, g3⟩⟩⟩
  | _ => exact hq.elim
 ·-- AT THE START
  refine ⟨fun _ => ⟨g0, hg0, BelowX.refl _ w2, fun id blk hb => ?_, hL, hD, fun _ h => h.elim⟩, fun h => by cases h⟩;exact (hm.blk id blk hb).mono none (by simp) (ze _) (fun ow ho => hgr.block _ (by have := hρlt id ow ho; omega)) hgr.hh (fun b hb h => hMoSub b hb (h.resolve_right (fun h => h))) (fun _ _ _ => rfl)
 ·-- BEHIND THE ITERATOR
  rintro e W' ⟨⟨v, rfl⟩, ⟨hJ, _⟩ | ⟨pre, _, hJ⟩⟩
  ·obtain ⟨gg, hI, hJ⟩ := hJ rfl;refine ⟨none, _, ?_, _, back _ _ _ _ _ (hids gg) hJ, hdone gg hI⟩;have := run_endLoop (P := E.P) hJ.2.2.1 (by rw [hrec]; simp);rw [this, hrec]
  ·obtain ⟨c, mx, q1, q2, hJ⟩ := hJ rfl;have hl := run_endLoop (P := E.P) hJ.2.2.1 (by rw [hrec]; simp);have hb := hstop c pre mx q1 _ _ (back _ _ _ _ _ q2 hJ);rw [hF] at hb
   have hpe : (rec .done (some c)).pending = some c := by rw [hrec]
   refine ⟨some c, _, ?_, hb⟩;rw [hl];subst hrec
   rfl
theorem aw_rangeCN {α γ : Type} {gop : Operand} {p : Tmp} {assign body : Code} {Q : Exit → ASt → Prop} {n : Nat} {l : List (Nat × TV)} {gf : FuncId} {caps : List G} {enc : α → Value} {s : ASt}
  (xs : List α) (m : γ → Mem) (K : List α → γ → Prop) (g0 : γ) (S1 : γ → α → (Nat → TV) × Mem)
  (hn : s.n = n) (hwk : WeakL s l) (hwm : MemL s (m g0)) (hcl : closedB l (m g0) = true)
  (hg : ASt.eval E ⟨n, lookT l, m g0⟩ gop = .g (.fn (.func gf) [] caps)) (hk : Known E.P gf) (hseq : SeqN E gf caps enc xs) (gx : α → G) (hgx : ∀ x w M, (gx x).p w M (enc x))
  (hK0 : K xs g0) (hp : Nat.blt p n = true) (hids : ∀ g, sameIds (m g0) (m g)) (hgood : ∀ g, goodM (m g) = true)
  (hassign : ∀ x g lp w1 M1 x1, AWp (E.turn lp (m g) x1) w1 M1 assign (fun e s' => e = .normal ∧ s' = ⟨n, (S1 g x).1, (S1 g x).2⟩) ⟨n, upd p (.g (gx x)) (lookT l), m g⟩)
  (hlive1 : ∀ g x, liveM (S1 g x).2 = true)
  (hbody : ∀ x post g, (∃ pre, xs = pre ++ x :: post) → K (x :: post) g → ∀ lp w1 M1 x1, AWp (E.turn lp (S1 g x).2 x1) w1 M1 body (RoundC E w0 M0 Q n (lookT l) m (K post) (m g0)) ⟨n, (S1 g x).1, (S1 g x).2⟩)
  (hdone : ∀ g, K [] g → Q .normal ⟨n, lookT l, m g⟩)
  (hbw : bowIn E (m g0) = true := by rfl) (hmk : E.mks = true := by rfl) (hrn : E.rnd = none := by rfl) : AWp E w0 M0 (.rangeFunc gop #[p] assign body) Q s := by
 refine qi3 (l := l) hwk hwm hcl ?_ hbw;show AWp E w0 M0 _ Q ⟨s.n, lookT l, m g0⟩;rw [hn];refine aw_rangeFuncN m (fun pre g => ∃ tl, xs = pre ++ tl ∧ K tl g) g0 (fun g x => ⟨n, (S1 g x).1, (S1 g x).2⟩) (fun c _ mx => AWp E w0 M0 c Q ⟨n, lookT l, mx⟩) hmk hrn hk (Nat.le_of_ble_eq_true hp) hg hseq gx hgx ⟨xs, rfl, hK0⟩ hids hgood
  (fun pre x post g _ _ lp w1 M1 x1 => hassign x g lp w1 M1 x1) hlive1 ?_ ?_ (fun _ _ _ h => h)
 ·rintro pre x post g hxs ⟨tl, htl, hK⟩ lp w1 M1 x1;obtain rfl : tl = x :: post := List.append_cancel_left (htl.symm.trans hxs);refine (hbody x post g ⟨pre, hxs⟩ hK lp w1 M1 x1).mono ?_;rintro e s' h
  cases e with
  | normal =>
   obtain ⟨g', h1, h2⟩ := h;exact ⟨g', ⟨post, by rw [hxs]; simp, h1⟩, h2⟩
  | ret => exact h
  | exit id => exact h
  | _ => exact h
 ·rintro g ⟨tl, htl, hK⟩
  obtain rfl : tl = [] := by
   have := congrArg List.length htl
   simp at this
   exact this
  exact hdone g hK
end
section
variable {α : Type} {E : Env} {l : Nat} {enc : α → Value} {xs : List α} {C : ItC E.P l enc xs} {Q : Exit → ASt → List α × Bool → Prop} {s : ASt} {p : List α × Bool}
def okY (oi oj : Oper) : Option Cls → Option Cls → Bool
 | some a, some b => okC oi oj a b
 | some .p, none => true
 | _, _ => false
theorem IStep.mono {ops : Array Oper} {o : Oper} {K K' : ASt → List α × Bool → Prop} {c : Option Cls} (hk : ∀ s p, K s p → K' s p) (h : IStep E l enc xs ops o K s p c) : IStep E l enc xs ops o K' s p c := by
 cases c with
 | some c =>
  obtain ⟨s', h1, h2⟩ := h;exact ⟨s', h1, hk _ _ h2⟩
 | none =>
  obtain ⟨hd, gb, hw, hf, ht⟩ := h;refine ⟨hd, gb, hw, fun e => hk _ _ (hf e), fun e => ?_⟩;obtain ⟨q1, q2, f, arg, ts, x, post, q3, q4, q5, q6, q7⟩ := ht e;exact ⟨q1, q2, f, arg, ts, x, post, q3, q4, q5, q6, fun b => hk _ _ (q7 b)⟩
variable {ops : Array Oper} {md : Region.Mode} {cl : Nat → Option Cls}
def iOp (E : Env) (l : Nat) (enc : α → Value) (xs : List α) (ops : Array Oper) (cl : Nat → Option Cls) (i : Nat) (K : ASt → List α × Bool → Prop) (s : ASt) (p : List α × Bool) : Prop :=
 match ops[i]? with
 | none => K s p
 | some o => IStep E l enc xs ops o K s p (cl i)
def anyI (E : Env) (l : Nat) (enc : α → Value) (xs : List α) (md : Region.Mode) (ops : Array Oper) (cl : Nat → Option Cls) (K : ASt → List α × Bool → Prop) : Nat → Array Bool → ASt → List α × Bool → Prop
 | 0, listed, s, p => Region.ready md ops listed = [] ∧ K s p
 | fuel + 1, listed, s, p => (Region.ready md ops listed = [] → K s p) ∧ ∀ i ∈ Region.ready md ops listed, iOp E l enc xs ops cl i (anyI E l enc xs md ops cl K fuel (listed.setIfInBounds i true)) s p
theorem anyI.sound (hmk : E.mks = false) (hbw : E.bow = []) : ∀ (fuel : Nat) (listed : Array Bool) (s : ASt) (p : List α × Bool), anyI E l enc xs md ops cl (Q .normal) fuel listed s p → ∀ a w, IRel E C s p a w →
  wpAnyIn E.F 0 E.P md ops (fun e a' w' => ∃ s' p', IRel E C s' p' a' w' ∧ Q e s' p') fuel listed a w
 | 0, _, s, p, h, a, w, ha => ⟨h.1, s, p, ha, h.2⟩
 | fuel + 1, _, s, p, h, a, w, ha => by
  refine ⟨fun h0 => ⟨s, p, ha, h.1 h0⟩, fun i hi => ?_⟩;have h1 := h.2 i hi;unfold iOp at h1;unfold wpOpIn
  split
  ·rename_i ho; simp only [ho] at h1; exact anyI.sound hmk hbw fuel _ s p h1 a w ha
  ·rename_i o ho
   simp only [ho] at h1;exact IStep.sound h1 hmk hbw ha fun s' p' a' w' h3 ha' => anyI.sound hmk hbw fuel _ s' p' h3 a' w' ha'
theorem anyI_first {K : ASt → List α × Bool → Prop} {i : Nat} {oi : Oper} (hi : ops[i]? = some oi) : ∀ (fuel : Nat) (listed : Array Bool) (s : ASt) (p : List α × Bool),
  (∀ j oj, ops[j]? = some oj → j ≠ i → listed.getD j true = false → (∀ e ∈ oj.after, Region.binds md e = true → e.on ≠ i) → oi.apart ops oj = true ∧ okY oi oj (cl i) (cl j) = true) →
  i ∈ Region.ready md ops listed → IStep E l enc xs ops oi (anyI E l enc xs md ops cl K fuel (listed.setIfInBounds i true)) s p (cl i) → anyI E l enc xs md ops cl K (fuel + 1) listed s p := by
 intro fuel
 induction fuel with
 | zero =>
  intro listed s p hfree hr hy;refine ⟨fun h => (by rw [h] at hr; cases hr), fun j hj => ?_⟩
  by_cases hji : j = i
  ·subst hji; unfold iOp; simp only [hi]; exact hy
  ·exfalso
   have hj' := ready_mono hj hji
   -- at once another is ready: what follows would have to be empty
   cases hc : cl i with
   | none =>
    obtain ⟨hjun, oj, hoj, hall⟩ := mem_ready.1 hj
    have hnot : ∀ e ∈ oj.after, Region.binds md e = true → e.on ≠ i := fun e he hb heq => by
     have h1 := hall e he hb;have h0 := (mem_ready.1 hr).1;rw [heq] at h1
     rcases Nat.lt_or_ge i listed.size with h' | h'
     ·simp [h'] at h0 h1; rw [h0] at h1; cases h1
     ·simp [Array.getElem?_eq_none h'] at h1
    have := (hfree j oj hoj hji hjun hnot).2;rw [hc] at this
    cases hcj : cl j <;> rw [hcj] at this <;> simp [okY] at this
   | some ci =>
    rw [hc] at hy;obtain ⟨u, _, hu⟩ := hy;rw [hu.1] at hj'
    cases hj'
 | succ fuel ih =>
  intro listed s p hfree hr hy;refine ⟨fun h => (by rw [h] at hr; cases hr), fun j hj => ?_⟩
  by_cases hji : j = i
  ·subst hji; unfold iOp; simp only [hi]; exact hy
  ·obtain ⟨hjun, oj, hoj, hall⟩ := mem_ready.1 hj
   have hnot : ∀ e ∈ oj.after, Region.binds md e = true → e.on ≠ i := fun e he hb heq => by
    have h1 := hall e he hb;have h0 := (mem_ready.1 hr).1;rw [heq] at h1
    rcases Nat.lt_or_ge i listed.size with h' | h'
    ·simp [h'] at h0 h1; rw [h0] at h1; cases h1
    ·simp [Array.getElem?_eq_none h'] at h1
   obtain ⟨hap, hok⟩ := hfree j oj hoj hji hjun hnot
   have hfree' : ∀ k ok, ops[k]? = some ok → k ≠ i → (listed.setIfInBounds j true).getD k true = false → (∀ e ∈ ok.after, Region.binds md e = true → e.on ≠ i) → oi.apart ops ok = true ∧ okY oi ok (cl i) (cl k) = true := fun k ok hk hki hun hno => by
    refine hfree k ok hk hki ?_ hno
    by_cases hjk : j = k
    ·subst hjk; exact hjun
    ·rw [getD_set_ne true hjk] at hun; exact hun
   cases hc : cl i with
   | none =>
    rw [hc] at hok
    cases hcj : cl j <;> rw [hcj] at hok <;> simp [okY] at hok
   | some ci =>
    rw [hc] at hy hok;obtain ⟨u, hy1, hy2⟩ := hy;have h1 := hy2.2 j (ready_mono hj hji);unfold iOp at h1 ⊢;simp only [hoj] at h1 ⊢;rw [Array.setIfInBounds_comm _ _ (Ne.symm hji)] at h1
    cases hcj : cl j with
    | some cj =>
     rw [hcj] at h1 hok;obtain ⟨t, h2, h3⟩ := h1;obtain ⟨s2, h4, h5⟩ := AStep.swap hap hok hy1 h2;refine ⟨s2, h4, ih (listed.setIfInBounds j true) s2 p hfree' (ready_mono hr (Ne.symm hji)) ?_⟩;rw [hc];exact ⟨t, h5, h3⟩
    | none =>
     rw [hcj] at h1 hok
     have hcp : ci = .p := by cases ci <;> simp [okY] at hok <;> rfl
     subst hcp;obtain ⟨a1, a2, a3⟩ := Oper.apart_spec hap;obtain ⟨i0, gi, ri, mi, i1, i2, i3, i4, rfl⟩ := hy1.parts ⟨by simp, by simp⟩;obtain rfl : mi = s.mem := i4 (.inl rfl);obtain ⟨j0, gj, hw, hf, ht⟩ := h1;have hev : ∀ x ∈ oj.op.operands, (⟨s.n, updO oi.dst ri s.tmps, s.mem⟩ : ASt).eval E x = s.eval E x := zu a1;have key : ∀ v p', anyI E l enc xs md ops cl K fuel ((listed.setIfInBounds j true).setIfInBounds i true) ((⟨s.n, updO oi.dst ri s.tmps, s.mem⟩ : ASt).put oj.dst v) p' →
       anyI E l enc xs md ops cl K (fuel + 1) (listed.setIfInBounds j true) (s.put oj.dst v) p' := fun v p' hk => by
      refine ih (listed.setIfInBounds j true) (s.put oj.dst v) p' hfree' (ready_mono hr (Ne.symm hji)) ?_;rw [hc];refine ⟨⟨s.n, updO oi.dst ri (updO oj.dst v s.tmps), s.mem⟩, ?_, ?_⟩
      ·exact AStep.ofParts (s := ⟨s.n, updO oj.dst v s.tmps, s.mem⟩) i0 ((zm a3).2 i1) (fun e => ((i2 e).anyMem (.inl rfl)).congr (fun x hx => ((zu a3) x hx).symm)) i3 (fun _ => rfl)
      ·rw [kh a2 ri v s.tmps];exact hk
     refine ⟨j0, gj, (zm a1).1 hw, fun e => key _ _ (hf e), fun e => ?_⟩;obtain ⟨q1, q2, f, arg, ts, x, post, q3, q4, q5, q6, q7⟩ := ht e;have e1 : (⟨s.n, updO oi.dst ri s.tmps, s.mem⟩ : ASt).eval E f = s.eval E f := hev f (by rw [q3]; simp [Op.operands, Call.operands]);have e2 : (⟨s.n, updO oi.dst ri s.tmps, s.mem⟩ : ASt).eval E arg = s.eval E arg := hev arg (by rw [q3]; simp [Op.operands, Call.operands]);rw [e1] at q4;rw [e2] at q5;exact ⟨q1, q2, f, arg, ts, x, post, q3, q4, q5, q6, fun b => key _ _ (q7 b)⟩
def freeY (md : Region.Mode) (ops : Array Oper) (cl : Nat → Option Cls) (listed : Array Bool) (i : Nat) : Bool :=
 match ops[i]? with
 | none => false
 | some oi => (List.range ops.size).all fun j => j == i || listed.getD j true || match ops[j]? with
   | some oj => oj.after.any (fun e => Region.binds md e && e.on == i) || (oi.apart ops oj && okY oi oj (cl i) (cl j))
   | none => true
theorem freeY_spec {i : Nat} {oi : Oper} {listed : Array Bool} (hi : ops[i]? = some oi) (h : freeY md ops cl listed i = true) (j : Nat) (oj : Oper)
  (hj : ops[j]? = some oj) (hne : j ≠ i) (hun : listed.getD j true = false) (hno : ∀ e ∈ oj.after, Region.binds md e = true → e.on ≠ i) :
  oi.apart ops oj = true ∧ okY oi oj (cl i) (cl j) = true := by
 simp only [freeY, hi, List.all_eq_true, List.mem_range] at h;have h1 := h j (Array.getElem?_eq_some_iff.1 hj).1;simp only [hj, Bool.or_eq_true, beq_iff_eq, hne, false_or, hun, Bool.false_eq_true, Bool.and_eq_true] at h1
 rcases h1 with h1 | h1
 ·obtain ⟨e, he, hb⟩ := Array.any_eq_true'.1 h1;simp only [Bool.and_eq_true, beq_iff_eq] at hb;exact absurd hb.2 (hno e he hb.1)
 ·exact h1
def lexY (md : Region.Mode) (ops : Array Oper) (cl : Nat → Option Cls) : Nat → Nat → Array Bool → Bool
 | 0, _, listed => (Region.ready md ops listed).isEmpty
 | fuel + 1, k, listed => (Region.ready md ops listed).contains k && (freeY md ops cl listed k || (Region.ready md ops listed).all fun j => j == k) && lexY md ops cl fuel (k + 1) (listed.setIfInBounds k true)
theorem anyI_lex {K : ASt → List α × Bool → Prop} : ∀ (lo : List Oper) (cs : List (Option Cls)) (k : Nat) (listed : Array Bool) (s : ASt) (p : List α × Bool), (∀ j, lo[j]? = ops[k + j]?) → (∀ j c, cs[j]? = some c → cl (k + j) = c) →
  lexY md ops cl lo.length k listed = true → IOps E l enc xs ops K lo cs s p → anyI E l enc xs md ops cl K lo.length listed s p
 | [], [], _, _, _, _, _, _, hB, h => ⟨by simpa [lexY] using hB, h⟩
 | o :: lo, c :: cs, k, listed, s, p, hl, hc, hB, h => by
  have h0 : ops[k]? = some o := by simpa using (hl 0).symm
  have hc0 : cl k = c := by simpa using hc 0 c (by simp)
  simp only [List.length_cons, lexY, Bool.and_eq_true] at hB;obtain ⟨⟨hr, hf⟩, hB'⟩ := hB;subst hc0
  have hr : k ∈ Region.ready md ops listed := by simpa using hr
  have hx := IStep.mono (fun s' p' h2 => anyI_lex lo cs (k + 1) _ s' p' (fun j => by have := hl (j + 1); simpa [Nat.add_assoc, Nat.add_comm 1 j] using this)
    (fun j c hj => by have := hc (j + 1) c (by simpa using hj); simpa [Nat.add_assoc, Nat.add_comm 1 j] using this) hB' h2) h
  rw [Bool.or_eq_true] at hf
  rcases hf with hf | hf
  ·exact anyI_first h0 lo.length listed s p (freeY_spec h0 hf) hr hx
  ·refine ⟨fun h => (by rw [h] at hr; cases hr), fun j hj => ?_⟩;have := List.all_eq_true.1 hf j hj
   obtain rfl : j = k := by simpa using this
   unfold iOp;simp only [h0];exact hx
 | [], _ :: _, _, _, _, _, _, _, _, h => h.elim
 | _ :: _, [], _, _, _, _, _, _, _, h => h.elim
theorem IRel.draw {a : Act} {w : World} (h : IRel E C s p a w) : IRel E C s p a { w with drawn := w.drawn + 1 } := by
 obtain ⟨N, W1, k1, k2, k3, k4, k5, k6⟩ := h;exact ⟨N, W1, k1, k2, k3, k4, k5.draw, k6⟩
def lexOkY (ops : Array Oper) (cs : List (Option Cls)) : Bool := lexY .any ops (fun i => cs.getD i none) ops.size 0 (Array.replicate ops.size false)
theorem iw_drawY {id : Nat} (cs : List (Option Cls)) (hB : lexOkY ops cs = true) (h : IOps E l enc xs ops (Q .normal) ops.toList cs s p) (hmk : E.mks = false := by rfl) (hbw : E.bow = [] := by rfl) : IWp E C (.region id ops true) Q s p := by
 intro a w ha;refine wpIn_region_any E.orders ?_;have h1 := anyI_lex (md := .any) (cl := fun i => cs.getD i none) ops.toList cs 0 (Array.replicate ops.size false) s p (by simp) (fun j c hj => by simp [hj]) (by simpa [lexOkY] using hB) h;have h2 := anyI.sound (C := C) (Q := Q) hmk hbw _ _ s p h1 a _ ha.draw
 simpa using h2
end
end Go.Sim
namespace Go.Sim.Pr
section
def SeqN (E : Env) (g : FuncId) (caps : List G) {α : Type} (enc : α → Value × Value) (xs : List α) : Prop :=
 ∀ (w : World) (M : Nat → Prop) (cs : List Value) (l : Nat) (J : (Nat → Prop) → List α → Bool → World → Prop), (∀ b, M b → b < w.heap.size) → GlOk E w M → FitsT w M caps cs →
  (∀ N pre st W W', J N pre st W → BelowX N W W' → J N pre st W') → (∀ N N' pre st W, J N pre st W → (∀ b, N' b → N b ∨ W.heap.size ≤ b) → J N' pre st W) →
  (∀ N pre x post W1, xs = pre ++ x :: post → BelowX M w W1 → (∀ b, N b → w.heap.size ≤ b ∧ b < W1.heap.size) → J N pre false W1 → YieldAt Fence.wide 0 E.P l #[(enc x).1, (enc x).2] W1 fun e W' =>
   BelowX M W1 W' ∧ ∃ b, e = .returned (.bool b) ∧ J N (pre ++ [x]) (!b) W') →
  J (fun _ => False) [] false w → CallsIn Fence.wide 0 E.P g (#[.func (.yield l) #[] #[]] ++ cs.toArray) w fun e W' => (∃ v, e = .returned v) ∧ (J (fun _ => False) xs false W' ∨ ∃ pre, J (fun _ => False) pre true W')
structure ItC (P : Program) {α : Type} (l : Nat) (enc : α → Value × Value) (xs : List α) where
 w : World
 lo : Nat
 M : Nat → Prop
 J : (Nat → Prop) → List α → Bool → World → Prop
 N0 : Nat → Prop
 hM : ∀ b, M b → b < lo
 hlo : lo ≤ w.heap.size
 turn : ∀ N pre st W W', J N pre st W → BelowX N W W' → J N pre st W'
 take : ∀ N N' pre st W, J N pre st W → (∀ b, N' b → N b ∨ W.heap.size ≤ b) → J N' pre st W
 yield : ∀ N pre x post W1, xs = pre ++ x :: post → BelowX M w W1 → (∀ b, N b → lo ≤ b ∧ b < W1.heap.size) → J N pre false W1 → YieldAt Fence.wide 0 P l #[(enc x).1, (enc x).2] W1 fun e W' =>
   BelowX M W1 W' ∧ ∃ b, e = .returned (.bool b) ∧ J N (pre ++ [x]) (!b) W'
def ItC.at {P : Program} {α : Type} {l : Nat} {enc : α → Value × Value} {xs : List α} (C : ItC P l enc xs) (w' : World) (h : BelowX C.M C.w w') (N0 : Nat → Prop) : ItC P l enc xs :=
 ⟨w', C.lo, C.M, C.J, N0, C.hM, Nat.le_trans C.hlo h.size, C.turn, C.take, fun N pre x post W1 hx hB hN hJ => C.yield N pre x post W1 hx (h.trans hB) hN hJ⟩
variable {α : Type} {E : Env} {l : Nat} {enc : α → Value × Value} {xs : List α}
def IRel (E : Env) {l : Nat} {enc : α → Value × Value} {xs : List α} (C : ItC E.P l enc xs) (s : ASt) (p : List α × Bool) (a : Act) (W : World) : Prop :=
 ∃ N W1, C.J N p.1 p.2 W1 ∧ (∀ b, N b → C.lo ≤ b ∧ b < W1.heap.size) ∧ BelowX C.M C.w W1 ∧ MarksN N a.defers W1 ∧ ARel E W1 (fun b => C.M b ∨ N b) s ⟨a.tmps, []⟩ W ∧ ∀ b, C.N0 b → N b
def IWp (E : Env) {l : Nat} {enc : α → Value × Value} {xs : List α} (C : ItC E.P l enc xs) (c : Code) (Q : Exit → ASt → List α × Bool → Prop) (s : ASt) (p : List α × Bool) : Prop :=
 ∀ a W, IRel E C s p a W → c.wpIn E.F 0 E.P (fun e a' W' => ∃ s' p', IRel E C s' p' a' W' ∧ Q e s' p') a W
def ithen (K : ASt → List α × Bool → Prop) (Q : Exit → ASt → List α × Bool → Prop) : Exit → ASt → List α × Bool → Prop
 | .normal, s, p => K s p
 | e, s, p => Q e s p
def iblock (id : Nat) (Q : Exit → ASt → List α × Bool → Prop) : Exit → ASt → List α × Bool → Prop
 | .exit id', s, p => if id' = id then Q .normal s p else Q (.exit id') s p
 | e, s, p => Q e s p
variable {C : ItC E.P l enc xs} {Q : Exit → ASt → List α × Bool → Prop} {s : ASt} {p : List α × Bool}
theorem iw_seq {x y : Code} (h : IWp E C x (ithen (IWp E C y Q) Q) s p) : IWp E C (.seq x y) Q s p :=
 fun a w ha => wpIn_seq (wpIn_mono (h a w ha) fun e a' w' ⟨s', p', h1, h2⟩ => by
  cases e <;> first | exact h2 a' w' h1 | exact ⟨s', p', h1, h2⟩)
theorem iw_skip (h : Q .normal s p) : IWp E C .skip Q s p := fun _ _ ha => wpIn_skip ⟨s, p, ha, h⟩
theorem iw_ret (h : Q .ret s p) : IWp E C .ret Q s p := fun _ _ ha => wpIn_ret ⟨s, p, ha, h⟩
theorem iw_exit {id : Nat} (h : Q (.exit id) s p) : IWp E C (.exit id) Q s p := fun _ _ ha => wpIn_exit ⟨s, p, ha, h⟩
theorem iw_block {id : Nat} {c : Code} (h : IWp E C c (iblock id Q) s p) : IWp E C (.block id c) Q s p :=
 fun a w ha => wpIn_block (wpIn_mono (h a w ha) fun e a' w' ⟨s', p', h1, h2⟩ => by
  cases e with
  | exit id' =>
   unfold iblock at h2;unfold Exit.inBlock;dsimp only at h2 ⊢
   split
   ·rename_i he; rw [if_pos he] at h2; exact ⟨s', p', h1, h2⟩
   ·rename_i he; rw [if_neg he] at h2; exact ⟨s', p', h1, h2⟩
  | _ => exact ⟨s', p', h1, h2⟩)
theorem iw_cond {c : Operand} {x y : Code} (b : Bool) (hb : s.eval E c = .g (.lit (.bool b))) (ht : b = true → IWp E C x Q s p) (hf : b = false → IWp E C y Q s p) : IWp E C (.cond c x y) Q s p := by
 intro a w ha;obtain ⟨N, W1, h1, h2, h3, h4, h5, h6⟩ := id ha;obtain ⟨ρ, _, hx⟩ := h5.rel;have hc := hx c;rw [hb] at hc;have hc' : a.eval c = .bool b := hc
 cases b with
 | true => exact wpIn_cond_true hc' (ht rfl a w ha)
 | false => exact wpIn_cond_false hc' (hf rfl a w ha)
theorem IRel.weak {l1 : List (Nat × TV)} {m : Mem} {a : Act} {w : World} (h1 : WeakL s l1) (h2 : MemL s m) (h3 : closedB l1 m = true) (hbw : E.bow = []) (h : IRel E C s p a w) : IRel E C (stt s.n l1 m) p a w := by
 obtain ⟨N, W1, k1, k2, k3, k4, k5, k6⟩ := h;exact ⟨N, W1, k1, k2, k3, k4, k5.weak h1 h2 h3 (by unfold bowIn; rw [hbw]; rfl), k6⟩
def IGoes {γ : Type} (S : γ → List (Nat × TV)) (Pp : γ → List α × Bool) (P : γ → Prop) (n : Nat) (ok : γ → Prop) (s : ASt) (p : List α × Bool) : Prop := s.n = n ∧ ∃ g, WeakL s (S g) ∧ closedB (S g) [] = true ∧ p = Pp g ∧ P g ∧ ok g
theorem iw_loop_g {γ : Type} {c : Code} (S : γ → List (Nat × TV)) (Pp : γ → List α × Bool) (P : γ → Prop) (μ : γ → Nat) (h0 : IGoes S Pp P s.n (fun _ => True) s p)
  (round : ∀ g, P g → IWp E C c (ithen (IGoes S Pp P s.n (fun g' => μ g' < μ g)) Q) (stt s.n (S g) []) (Pp g)) (hbw : E.bow = [] := by rfl) : IWp E C (.loop c) Q s p := by
 intro a w ha;obtain ⟨_, g0, h1, h3, rfl, h4, _⟩ := h0;have ha' := ha.weak h1 (m := []) trivial h3 hbw;refine wpIn_loop_ghost (fun n a w => ∃ g, μ g = n ∧ P g ∧ IRel E C (stt s.n (S g) []) (Pp g) a w) (μ g0) ⟨g0, rfl, h4, ha'⟩ ?_;rintro n a w ⟨g, rfl, hP, hg⟩;refine wpIn_mono (round g hP a w hg) ?_;rintro e a' w' ⟨s', p', hs', hq⟩
 cases e with
 | normal =>
  obtain ⟨k0, g', k1, k3, rfl, k4, k5⟩ := hq;refine ⟨μ g', k5, g', rfl, k4, ?_⟩;have := hs'.weak k1 (m := []) trivial k3 hbw;rw [k0] at this;exact this
 | _ => exact ⟨s', p', hs', hq⟩
theorem IRel.step {ops : Array Oper} {o : Oper} {c : Cls} {s' : ASt} (h : AStep E ops o c s s') (hmk : E.mks = false) {a : Act} {w : World} (ha : IRel E C s p a w) {K : Act → World → Prop} {Q' : Exit → Act → World → Prop}
  (hK : ∀ a' w', IRel E C s' p a' w' → K a' w') :
  if Region.wanted o (yielded ops a.tmps) then o.wpIn E.F 0 E.P a w K Q' else (∀ f, o.about E.P w a.eval = some f → E.F.fn f) ∧ K (a.put o.dst undef) w := by
 obtain ⟨N, W1, k1, k2, k3, k4, k5, k6⟩ := ha
 have hs := h.sound (w0 := W1) (M0 := fun b => C.M b ∨ N b) k5 (K := fun a' w' => a'.defers = [] ∧ K ⟨a'.tmps, a.defers⟩ w') (Q := fun _ _ _ => False) (fun a' w' h' => by
  have hd := h'.defers hmk;refine ⟨hd, hK _ _ ⟨N, W1, k1, k2, k3, k4, ?_, k6⟩⟩;obtain ⟨t, d⟩ := a';simp only at hd;subst hd
  exact h')
 have hput : ∀ v, (⟨((⟨a.tmps, []⟩ : Act).put o.dst v).tmps, a.defers⟩ : Act) = a.put o.dst v := fun v => by cases o.dst <;> rfl
 have hs : if Region.wanted o (yielded ops a.tmps) then o.wpIn E.F 0 E.P ⟨a.tmps, []⟩ w (fun a' w' => a'.defers = [] ∧ K ⟨a'.tmps, a.defers⟩ w') (fun _ _ _ => False) else (∀ f, o.about E.P w a.eval = some f → E.F.fn f) ∧
  (fun (a' : Act) (w' : World) => a'.defers = [] ∧ K ⟨a'.tmps, a.defers⟩ w') ((⟨a.tmps, []⟩ : Act).put o.dst undef) w := hs
 split
 ·rename_i hw
  rw [if_pos hw] at hs;exact qfm hs
 ·rename_i hw
  rw [if_neg hw] at hs;have := hs.2.2;rw [hput] at this;exact ⟨hs.1, this⟩
theorem IRel.yield {o : Oper} {f arg arg2 : Operand} {ts : Array TypeId} {x : α} {post : List α} (hd : ∀ d, o.dst = some d → d < s.n) (ho : o.op = .call ⟨.value f, #[arg, arg2], ts⟩) (hp : p.2 = false) (hm0 : s.mem = [])
  (hf : s.eval E f = .g (G.lit (.func (.yield l) #[] #[]))) (harg : ∀ w M ρ v, TRel w M ρ (s.eval E arg) v → v = (enc x).1) (harg2 : ∀ w M ρ v, TRel w M ρ (s.eval E arg2) v → v = (enc x).2) (hx : xs = p.1 ++ x :: post) (hbw : E.bow = []) {a : Act} {W : World} (ha : IRel E C s p a W)
  {K : Act → World → Prop} {Q' : Exit → Act → World → Prop} (hK : ∀ b a' W', IRel E C (s.put o.dst (.g (G.bool b))) (p.1 ++ [x], !b) a' W' → K a' W') : o.wpIn E.F 0 E.P a W K Q' := by
 obtain ⟨N, W1, k1, k2, k3, k4, k5, k6⟩ := ha;obtain ⟨ρ, hm, _, ht⟩ := k5.ex;have hg : Grow W1 W := hm.below.grow (fun _ => kp hbw);have hev := fun y => qat hm ht y
 have e1 : a.eval f = .func (.yield l) #[] #[] := by
  have := hev f;rw [hf] at this;exact this
 have e2 : a.eval arg = (enc x).1 := harg _ _ _ _ (hev arg);have e3 : a.eval arg2 = (enc x).2 := harg2 _ _ _ _ (hev arg2);have hB : BelowX C.M C.w W := k3.trans (BelowX.of_grow hg)
 have hJ : C.J N p.1 false W := by
  rw [← hp];exact C.turn _ _ _ _ _ k1 (BelowX.of_grow hg)
 obtain ⟨fn, tmps, assign, body, y1, y2⟩ := C.yield N p.1 x post W hx hB (fun b hb => ⟨(k2 b hb).1, Nat.lt_of_lt_of_le (k2 b hb).2 hg.size⟩) hJ;refine ⟨fun _ _ => trivial, ?_⟩
 have hsem : o.semAt E.F.round a.eval = execOp a.eval o := by
  cases E.F.round with
  | none => rfl
  | some l' => exact Oper.semAt_some _ _ _ fun c hc => by rw [ho] at hc; cases hc
 have hrun : (execOp a.eval o).run E.P W = .ok (.round l fn tmps assign body) W := by
  simp [execOp, ho, resolve, e1, e2, e3, Deferred.ofValue, invoke, y1]
 rw [hsem, hrun];refine ⟨qbp, (qes y2).mono ?_⟩;rintro e W' ⟨hB', b, rfl, hJ'⟩;refine hK b _ _ ⟨N, W', hJ', fun b hb => ⟨(k2 b hb).1, Nat.lt_of_lt_of_le (k2 b hb).2 (Nat.le_trans hg.size hB'.size)⟩, hB.trans hB', ?_, ?_, k6⟩
 ·rw [defers_put];refine ⟨k4.1, fun d hd => ?_⟩;obtain ⟨D, q1, q2, q3⟩ := k4.2 d hd;have hlt := (k2 D q2).2;exact ⟨D, q1, q2, (hB'.block D (Nat.lt_of_lt_of_le hlt hg.size) (fun h => by have := C.hM D h; have := (k2 D q2).1; omega)).trans ((hg.block D hlt).trans q3)⟩
 ·have hρ : ρ = fun _ => none := by
   funext id
   cases hq : ρ id with
   | none => rfl
   | some x =>
    obtain ⟨blk, hb⟩ := hm.dom id x hq;rw [hm0] at hb
    cases hb
  subst hρ;have hh : ∀ b, b < W.heap.size → ¬ owned (fun b => C.M b ∨ N b) (fun _ => none) b → W'.heap[b]? = W.heap[b]? := fun b hb hno => hB'.block b hb fun h => hno (.inl (.inl h));refine ⟨fun _ => rfl, by rw [size_put]; cases o.dst <;> exact k5.size, fun _ => none, ⟨BelowX.refl _ W', fun b hb => hb.elim (fun hb => Nat.lt_of_lt_of_le (C.hM b hb) (Nat.le_trans C.hlo (hB.trans hB').size)) (fun hb => Nat.lt_of_lt_of_le (k2 b hb).2 (Nat.le_trans hg.size hB'.size)), hm.glob.grow hB'.size hh, (fun _ _ h => by cases h), (fun _ _ h => by cases h), (fun _ _ _ _ h => by cases h), ?_, ?_, ?_⟩, Marks.nil, fun i => ?_⟩
  ·intro id x h; rw [hbw] at h; cases h
  ·intro b h; exact absurd h (kp hbw)
  ·intro id blk hb;have hb : lookO (s.put o.dst (.g (G.bool b))).mem id = some blk := hb;have : (s.put o.dst (.g (G.bool b))).mem = s.mem := rfl;rw [this, hm0] at hb
   cases hb
  ·show TRel _ _ _ ((s.put o.dst (.g (G.bool b))).get i) ((a.put o.dst (.bool b)).tmps.getD i undef);rw [qi0, getD_put _ _ _ (fun d h => by have := hd d h; rw [← k5.size] at this; exact this)]
   split
   ·exact rfl
   ·exact (ht i).mono none (by cases s.get i <;> rfl) hh (fun _ _ h => h) (fun _ _ _ => rfl)
def IStep (E : Env) (l : Nat) (enc : α → Value × Value) (xs : List α) (ops : Array Oper) (o : Oper) (K : ASt → List α × Bool → Prop) (s : ASt) (p : List α × Bool) : Option Cls → Prop
 | some c => ∃ s', AStep E ops o c s s' ∧ K s' p
 | none => (∀ d, o.dst = some d → d < s.n) ∧ ∃ gb, Wanted ops o s gb ∧ (gb = false → K (s.put o.dst undefT) p) ∧ (gb = true → p.2 = false ∧ s.mem = [] ∧ ∃ f arg arg2 ts x post, o.op = .call ⟨.value f, #[arg, arg2], ts⟩ ∧ s.eval E f = .g (G.lit (.func (.yield l) #[] #[])) ∧
   (∀ w M ρ v, TRel w M ρ (s.eval E arg) v → v = (enc x).1) ∧ (∀ w M ρ v, TRel w M ρ (s.eval E arg2) v → v = (enc x).2) ∧ xs = p.1 ++ x :: post ∧ ∀ b, K (s.put o.dst (.g (G.bool b))) (p.1 ++ [x], !b))
theorem IStep.sound {ops : Array Oper} {o : Oper} {c : Option Cls} {K' : ASt → List α × Bool → Prop} (h : IStep E l enc xs ops o K' s p c) (hmk : E.mks = false) (hbw : E.bow = []) {a : Act} {w : World} (ha : IRel E C s p a w) {K : Act → World → Prop} {Q' : Exit → Act → World → Prop}
  (hK : ∀ s' p' a' w', K' s' p' → IRel E C s' p' a' w' → K a' w') :
  if Region.wanted o (yielded ops a.tmps) then o.wpIn E.F 0 E.P a w K Q' else (∀ f, o.about E.P w a.eval = some f → E.F.fn f) ∧ K (a.put o.dst undef) w := by
 cases c with
 | some c =>
  obtain ⟨s', h1, h2⟩ := h;exact IRel.step h1 hmk ha fun a' w' h' => hK _ _ _ _ h2 h'
 | none =>
  obtain ⟨hd, gb, hw, hf, ht⟩ := h;obtain ⟨N, W1, k1, k2, k3, k4, k5, k6⟩ := id ha;obtain ⟨ρ, hm, _, hts⟩ := k5.ex;have hwt : Region.wanted o (yielded ops a.tmps) = gb := qee hw hts;rw [hwt]
  cases gb with
  | false =>
   simp only [Bool.false_eq_true, if_false];refine ⟨fun _ _ => trivial, hK _ _ _ _ (hf rfl) ⟨N, W1, k1, k2, k3, by rw [defers_put]; exact k4, ?_, k6⟩⟩;have := ARel.put (r := undefT) (v := undef) (kill := none) (mem' := s.mem) (dst := o.dst) k5.defers k5.size Marks.nil hts hd hm (fun _ _ _ h => h) rfl
   have e : (⟨(a.put o.dst undef).tmps, []⟩ : Act) = (⟨a.tmps, []⟩ : Act).put o.dst undef := by cases o.dst <;> rfl
   rw [e];exact this
  | true =>
   simp only [if_true];obtain ⟨hp, hm0, f, arg, arg2, ts, x, post, ho, e1, e2, e3, hx, hk⟩ := ht rfl;exact IRel.yield hd ho hp hm0 e1 e2 e3 hx hbw ha fun b a' W' h' => hK _ _ _ _ (hk b) h'
def IOps (E : Env) (l : Nat) (enc : α → Value × Value) (xs : List α) (ops : Array Oper) (K : ASt → List α × Bool → Prop) : List Oper → List (Option Cls) → ASt → List α × Bool → Prop
 | [], [], s, p => K s p
 | o :: os, c :: cs, s, p => IStep E l enc xs ops o (IOps E l enc xs ops K os cs) s p c
 | _, _, _, _ => False
theorem aops_isound {ops : Array Oper} (hmk : E.mks = false) : ∀ (lo : List Oper) (cs : List Cls) (s : ASt), AOps E ops lo cs s (fun s' => Q .normal s' p) → ∀ a w, IRel E C s p a w →
  wpListIn E.F 0 E.P ops (fun e a' w' => ∃ s' p', IRel E C s' p' a' w' ∧ Q e s' p') lo a w
 | [], [], s, h, a, w, ha => ⟨s, p, ha, h⟩
 | o :: os, c :: cs, s, h, a, w, ha => by
  obtain ⟨s', h1, h2⟩ := h;exact IRel.step h1 hmk ha fun a' w' ha' => aops_isound hmk os cs s' h2 a' w' ha'
 | [], _ :: _, _, h, _, _, _ => h.elim
 | _ :: _, [], _, h, _, _, _ => h.elim
theorem iw_region {id : Nat} {ops : Array Oper} (cs : List Cls) (h : AOps E ops ops.toList cs s (fun s' => Q .normal s' p)) (hmk : E.mks = false := by rfl) : IWp E C (.region id ops false) Q s p :=
 fun a w ha => wpIn_region_list (aops_isound hmk _ cs s h a w ha)
theorem ist {ops : Array Oper} {K : ASt → List α × Bool → Prop} {o : Oper} {os : List Oper} {c : Cls} {cs : List (Option Cls)} (h : AOps E ops [o] [c] s (fun s' => IOps E l enc xs ops K os cs s' p)) : IOps E l enc xs ops K (o :: os) (some c :: cs) s p := by
 obtain ⟨s', h1, h2⟩ := h;exact ⟨s', h1, h2⟩
theorem ist_nil {ops : Array Oper} {K : ASt → List α × Bool → Prop} (h : K s p) : IOps E l enc xs ops K [] [] s p := h
theorem iy {ops : Array Oper} {K : ASt → List α × Bool → Prop} {o : Oper} {os : List Oper} {cs : List (Option Cls)} {d : Nat} {f arg arg2 : Operand} {ts : Array TypeId} {pre post : List α} (x : α) (hd : o.dst = some d) (hg : o.guard = none) (hn : Nat.blt d s.n = true)
  (ho : o.op = .call ⟨.value f, #[arg, arg2], ts⟩) (hm : s.mem = []) (hf : s.eval E f = .g (G.lit (.func (.yield l) #[] #[]))) (ha : ∀ w M ρ v, TRel w M ρ (s.eval E arg) v → v = (enc x).1) (ha2 : ∀ w M ρ v, TRel w M ρ (s.eval E arg2) v → v = (enc x).2) (hx : xs = pre ++ x :: post)
  (h : ∀ b, IOps E l enc xs ops K os cs (s.put (some d) (.g (G.bool b))) (pre ++ [x], !b)) : IOps E l enc xs ops K (o :: os) (none :: cs) s (pre, false) :=
 ⟨fun d' h => by rw [hd] at h; cases h; exact Nat.le_of_ble_eq_true hn, true, (by unfold Wanted; rw [hg]), (fun h => by cases h), fun _ => ⟨rfl, hm, f, arg, arg2, ts, x, post, ho, hf, ha, ha2, hx, fun b => by rw [hd]; exact h b⟩⟩
end
section
variable {α : Type} {E : Env} {l : Nat} {enc : α → Value × Value} {xs : List α} {C : ItC E.P l enc xs} {Q : Exit → ASt → List α × Bool → Prop} {s : ASt} {p : List α × Bool}
theorem iw_freeze {c : Code} (id : Nat) {blk : Blk} {l1 : List (Nat × TV)} {m : Mem} (hb : lookO s.mem id = some blk) (h1 : FrzL s id blk l1) (h2 : MemL s m) (h3 : closedB l1 m = true) (hid : lookO m id = none)
  (h : IWp E C c Q (stt s.n l1 m) p) (hbw : E.bow = [] := by rfl) : IWp E C c Q s p := by
 rintro a w ⟨N, W1, k1, k2, k3, k4, k5, k6⟩;exact h a w ⟨N, W1, k1, k2, k3, k4, k5.freeze id hb h1 h2 h3 hid (by unfold bowIn; rw [hbw]; rfl), k6⟩
def IEnd (xs : List α) : Exit → ASt → List α × Bool → Prop
 | .normal, _, p => p.2 = true ∨ p.1 = xs
 | .ret, _, p => p.2 = true ∨ p.1 = xs
 | _, _, _ => False
theorem leavesN {P : Program} {fn : Func} {tmps : Array Value} {N : Nat → Prop} {J J' : World → Prop} (hJJ : ∀ W, J W → J' W) (hr : ∀ w, (results fn tmps).run P w = .ok (.tuple #[]) w) (hJ : ∀ W D o, N D → J W → J (W.putObj D o)) : ∀ (ds : List Deferred) (w1 : World), MarksN N ds w1 → J w1 →
  LeavesInM Fence.wide 0 P fn tmps (fun e w'' => (∃ v, e = .returned v) ∧ J' w'') ds .returning w1
 | [], w1, _, hj => ⟨_, hr w1, ⟨_, rfl⟩, hJJ _ hj⟩
 | d :: ds, w1, ⟨hn, hd⟩, hj => by
  obtain ⟨D, rfl, hN, hD⟩ := hd _ List.mem_cons_self;obtain ⟨hn1, hn2⟩ := List.nodup_cons.1 hn;refine ⟨by simp, .inl ⟨D, _, rfl, run_takeDeferred hD, ?_⟩⟩;refine leavesN hJJ hr hJ ds _ ⟨hn2, fun d' hd' => ?_⟩ (hJ _ _ _ hN hj);obtain ⟨D', rfl, hN', hD'⟩ := hd d' (List.mem_cons_of_mem _ hd');exact ⟨D', rfl, hN', (World.putObj_heap_other (fun e => hn1 (by rw [← e]; exact hd'))).trans hD'⟩
theorem seqN_of_iw {g : FuncId} {fn : Func} {c : Code} {caps : List G} (hf : E.P.funcs[g]? = some fn) (hb : fn.body = some c) (hn0 : Nat.ble (caps.length + 1) fn.ntmps = true) (hres : fn.results = #[])
  (h : ∀ (l : Nat) (C : ItC E.P l enc xs), IWp E C c (IEnd xs) ⟨fn.ntmps, initT (G.lit (.func (.yield l) #[] #[]) :: caps), []⟩ ([], false)) (hbw : E.bow = [] := by rfl) (hrn : E.rnd = none := by rfl) : SeqN E g caps enc xs := by
 intro w M vs l J hM hgl hv hturn htake hy h0;have hn := Nat.le_of_ble_eq_true hn0;have hlen := hv.length
 have hF : E.F = Fence.wide := by unfold Env.F; rw [hrn]; rfl
 let C : ItC E.P l enc xs := ⟨w, w.heap.size, M, J, fun _ => False, hM, Nat.le_refl _, hturn, htake, hy⟩
 refine callsIn_of_wp_marks hf hb trivial ?_ rfl
 have hv' : FitsT w (owned (fun b => M b ∨ False) (fun _ => none)) (G.lit (.func (.yield l) #[] #[]) :: caps) ((Value.func (.yield l) #[] #[]) :: vs) :=
  ⟨rfl, hv.mono (fun _ _ _ => rfl) (by rintro b _ (h | ⟨_, _, h, _⟩); exact h.resolve_right id; cases h)⟩
 have ha : IRel E C ⟨fn.ntmps, initT (G.lit (.func (.yield l) #[] #[]) :: caps), []⟩ ([], false) { tmps := (#[Value.func (.yield l) #[] #[]] ++ vs.toArray) ++ Array.replicate (fn.ntmps - (#[Value.func (.yield l) #[] #[]] ++ vs.toArray).size) undef, defers := [] } w := by
  refine ⟨fun _ => False, w, h0, (fun _ h => h.elim), BelowX.refl _ w, ⟨.nil, fun _ h => by cases h⟩, ⟨fun _ => rfl, ?_, fun _ => none, ⟨BelowX.refl _ w, (fun b h => hM b (h.resolve_right id)), ?_, ?_, ?_, ?_, (fun id x h => by rw [hbw] at h; cases h), (fun b h => absurd h (kp hbw)), ?_⟩, Marks.nil, ?_⟩, fun _ h => h⟩
  ·simp; omega
  ·intro g vs hg;have := hgl g vs hg
   have hiff : ∀ b, owned (fun b => M b ∨ False) (fun _ => none) b → M b := by rintro b (h | ⟨_, _, h, _⟩); exact h.resolve_right id; cases h
   exact ⟨⟨fun h => this.1.1 (hiff _ h), this.1.2⟩, this.2.mono (fun _ _ _ => rfl) (fun b _ h => hiff b h) this.1.1⟩
  ·intro _ _ h; cases h
  ·intro _ _ h; cases h
  ·intro _ _ _ _ h; cases h
  ·intro _ _ h; cases h
  ·intro i;have := we (ρ := fun _ => none) (fn.ntmps - (vs.length + 1)) hv' i;show TRel _ _ _ (initT _ i) _;rw [Array.getD_eq_getD_getElem?];rw [show ((#[Value.func (.yield l) #[] #[]] ++ vs.toArray) ++ Array.replicate (fn.ntmps - (#[Value.func (.yield l) #[] #[]] ++ vs.toArray).size) undef) = ((Value.func (.yield l) #[] #[] :: vs) ++ List.replicate (fn.ntmps - (vs.length + 1)) undef).toArray by simp [Nat.add_comm]];rw [List.getElem?_toArray];exact this
 have hw := h l C _ w ha;rw [hF] at hw;refine wpIn_mono hw ?_;rintro e a' w' ⟨s', p', ⟨N, W1, k1, k2, k3, k4, k5, k6⟩, hq⟩;obtain ⟨ρ, hm, _, _⟩ := k5.ex;have hg : Grow W1 w' := hm.below.grow (fun _ => kp hbw)
 have hk : MarksN N a'.defers w' := ⟨k4.1, fun d hd => by
  obtain ⟨D, q1, q2, q3⟩ := k4.2 d hd
  exact ⟨D, q1, q2, (hg.block D (k2 D q2).2).trans q3⟩⟩
 have fin : (p'.2 = true ∨ p'.1 = xs) → LeavesInM Fence.wide 0 E.P fn a'.tmps (fun e w'' => (∃ v, e = .returned v) ∧ (J (fun _ => False) xs false w'' ∨ ∃ pre, J (fun _ => False) pre true w'')) a'.defers .returning w' := by
  intro hq;have hJ : J N p'.1 p'.2 w' := hturn _ _ _ _ _ k1 (BelowX.of_grow hg);refine leavesN (P := E.P) (fn := fn) (tmps := a'.tmps) (N := N) (J := fun W => J N p'.1 p'.2 W) (fun W hj => ?_) (fun w => results_none hres _ _ w) (fun W D o hN hj => hturn _ _ _ _ _ hj (xr _ _ _ hN)) a'.defers w' hk hJ;have hj := htake _ (fun _ => False) _ _ _ hj (fun _ h => h.elim);obtain ⟨pre, st⟩ := p'
  cases st with
  | true => exact .inr ⟨pre, hj⟩
  | false =>
   rcases hq with h | h
   ·cases h
   ·rw [show pre = xs from h] at hj; exact .inl hj
 cases e with
 | ret => exact fin hq
 | normal => exact fin hq
 | _ => exact hq.elim
end
section
variable {E : Env} {w0 : World} {M0 : Nat → Prop}
theorem aw_rangeFuncN {α γ : Type} {gop : Operand} {p p2 : Tmp} {assign body : Code} {Q : Exit → ASt → Prop} {n : Nat} {t : Nat → TV} {gf : FuncId} {caps : List G} {enc : α → Value × Value} {xs : List α}
  (m : γ → Mem) (I : List α → γ → Prop) (g0 : γ) (S1 : γ → α → ASt) (Px : Code → List α → Mem → Prop)
  (hmk : E.mks = true) (hrn : E.rnd = none) (hk : Known E.P gf) (hp : p < n) (hp2 : p2 < n)
  (hg : ASt.eval E ⟨n, t, m g0⟩ gop = .g (.fn (.func gf) [] caps)) (hseq : SeqN E gf caps enc xs) (gx gx2 : α → G) (hgx : ∀ x w M, (gx x).p w M (enc x).1) (hgx2 : ∀ x w M, (gx2 x).p w M (enc x).2)
  (hg0 : I [] g0) (hids : ∀ g, sameIds (m g0) (m g)) (hgood : ∀ g, goodM (m g) = true)
  (hassign : ∀ pre x post g, xs = pre ++ x :: post → I pre g → ∀ lp w1 M1 x1, AWp (E.turn lp (m g) x1) w1 M1 assign (fun e s' => e = .normal ∧ s' = S1 g x) ⟨n, upd p2 (.g (gx2 x)) (upd p (.g (gx x)) t), m g⟩)
  (hlive1 : ∀ g x, liveM (S1 g x).mem = true)
  (hbody : ∀ pre x post g, xs = pre ++ x :: post → I pre g → ∀ lp w1 M1 x1, AWp (E.turn lp (S1 g x).mem x1) w1 M1 body (RoundQ m I Px (m g0) (pre ++ [x])) (S1 g x))
  (hdone : ∀ g, I xs g → Q .normal ⟨n, t, m g⟩)
  (hstop : ∀ c pre mx, Px c pre mx → AWp E w0 M0 c Q ⟨n, t, mx⟩) : AWp E w0 M0 (.rangeFunc gop #[p, p2] assign body) Q ⟨n, t, m g0⟩ := by
 intro a w ha;obtain ⟨ρ, hm, hmks, ht⟩ := ha.ex
 have hF : E.F = Fence.wide := by unfold Env.F; rw [hrn]; rfl
 obtain ⟨fs, cs, hge, hfs, hcs⟩ : (G.fn (.func gf) [] caps).p w (owned M0 ρ) (a.eval gop) := by
  have := qat hm ht gop;rw [hg] at this;exact this
 obtain rfl : fs = [] := by cases fs with
  | nil => rfl
  | cons => exact hfs.elim
 obtain ⟨fng, k1, k2, k3⟩ := hk;refine wpIn_rangeFunc ?_;intro fn _;obtain ⟨rec, hrec⟩ : ∃ rec : LoopState → Option Code → Loop, rec = fun st pe => { state := st, pending := pe, fn, tmps := a.tmps, params := #[p, p2], assign, body, defers := w.heap.size } := ⟨_, rfl⟩;obtain ⟨w2, hw2⟩ : ∃ w2, (w.alloc (.deferred (some []))).alloc (.loop (rec .ready none)) = w2 := ⟨_, rfl⟩
 have hgr : Grow w w2 := by rw [← hw2]; exact (Grow.alloc w _).trans (Grow.alloc _ _)
 have hsz : w2.heap.size = w.heap.size + 2 := by rw [← hw2]; simp
 have hL : w2.heap[w.heap.size + 1]? = some (.loop (rec .ready none)) := by
  rw [← hw2]; have := World.alloc_heap_new (w.alloc (.deferred (some []))) (.loop (rec .ready none)); rwa [World.size_alloc] at this
 have hD : w2.heap[w.heap.size]? = some (.deferred (some [])) := by
  rw [← hw2]; exact (RowKit.Below.heap_alloc _ _ _ (by simp)).trans (World.alloc_heap_new w _)
 have hρlt : ∀ id ow, ρ id = some (some ow) → ow.b < w.heap.size := fun id ow h => (hm.fresh id ow h).2
 have hrun : (Instr.enterLoop fn a.tmps #[p, p2] assign body E.F.round).run E.P w = .ok (w.heap.size + 1, [{ target := .collected w.heap.size, args := #[] }]) w2 := by
  rw [← hw2, hrec, hF]; exact run_enterLoop_outer _ _ _ _ _
 clear hw2;generalize hDD : w.heap.size = D at *;generalize hlpp : D + 1 = lp at *
 let Mo : Nat → Prop := fun b => owned M0 ρ b ∨ b = D ∨ b = lp
 let L : Nat → Prop := fun b => b = lp ∨ ∃ id ow, ρ id = some (some ow) ∧ ow.b = b
 have hLMo : ∀ b, L b → Mo b := by
  rintro b (h | ⟨id, ow, h, rfl⟩)
  ·exact .inr (.inr h)
  ·exact .inl (.inr ⟨id, ow, h, rfl⟩)
 have hsubMo : ∀ id ow, ρ id = some (some ow) → Mo ow.b := fun id ow h => .inl (.inr ⟨id, ow, h, rfl⟩)
 have hMow : ∀ b, Mo b → b < w2.heap.size := by
  rintro b (h | h | h)
  ·have := hm.lt b h; omega
  ·omega
  ·omega
 have hMoSub : ∀ b, b < w.heap.size → Mo b → owned M0 ρ b := by
  rintro b hb (h | h | h)
  ·exact h
  ·omega
  ·omega
 have hgl2 : GlOk E w2 Mo := fun g vs hgv => by
  obtain ⟨⟨g1, g2⟩, g3⟩ := hm.glob g vs hgv;refine ⟨⟨?_, by omega⟩, g3.mono hgr.hh hMoSub g1⟩;rintro (h | h | h)
  ·exact g1 h
  ·omega
  ·omega
 have hdom : ∀ gg id y, ρ id = some y → ∃ blk, lookO (m gg) id = some blk := fun gg id y h => by
  rw [vn, hids gg, ← vn]; exact hm.dom id y h
 let x0 : Nat → Option Own := fun id => (ρ id).getD none
 have hx00 : ∀ id blk, lookO (m g0) id = some blk → ρ id = some (x0 id) := fun id blk h => by
  have h1 := List.all_eq_true.1 (hgood g0) _ (zn _ h);simp only [Bool.and_eq_true] at h1;obtain ⟨y, hy⟩ := (hm.blk id blk h).has h1.1;simp only [x0, hy, Option.getD_some]
 have hx0 : ∀ mx, sameIds (m g0) mx → ∀ id blk, lookO mx id = some blk → ρ id = some (x0 id) := fun mx hs id blk h => by
  obtain ⟨b0, hb0⟩ : ∃ b0, lookO (m g0) id = some b0 := by rw [vn, ← hs, ← vn]; exact ⟨_, h⟩
  exact hx00 id b0 hb0
 have hhW : ∀ W, BelowX L w2 W → ∀ b, b < w2.heap.size → ¬ Mo b → W.heap[b]? = w2.heap[b]? := fun W h b hb hno => h.block b hb fun hl => hno (hLMo b hl)
 have htW : ∀ W, BelowX L w2 W → ∀ i, TRel W Mo ρ (t i) (a.tmps.getD i undef) := fun W h i =>
  ((ht i).mono none (by cases ASt.get ⟨n, t, m g0⟩ i <;> rfl) hgr.hh hMoSub (fun _ _ _ => rfl)).mono none (by cases ASt.get ⟨n, t, m g0⟩ i <;> rfl) (hhW W h) (fun _ _ h => h) (fun _ _ _ => rfl)
 have hglN : ∀ W (N : Nat → Prop), BelowX L w2 W → (∀ b, N b → w2.heap.size ≤ b) → GlOk E W (fun b => Mo b ∨ N b) := fun W N h hN g vs hgv => by
  obtain ⟨⟨g1, g2⟩, g3⟩ := hgl2 g vs hgv
  have hs : ∀ b, b < w2.heap.size → (Mo b ∨ N b) → Mo b := fun b hb hx => hx.resolve_right fun k => by have := hN b k; omega
  exact ⟨⟨fun k => g1 (hs g g2 k), by have := h.size; omega⟩, g3.mono (fun b hb hno => hhW W h b hb hno) hs g1⟩
 have htWN : ∀ W (N : Nat → Prop), BelowX L w2 W → (∀ b, N b → w2.heap.size ≤ b) → ∀ i, TRel W (fun b => Mo b ∨ N b) ρ (t i) (a.tmps.getD i undef) := fun W N h hN i =>
  (((ht i).mono none (by cases ASt.get ⟨n, t, m g0⟩ i <;> rfl) hgr.hh hMoSub (fun _ _ _ => rfl) : TRel w2 Mo ρ (t i) (a.tmps.getD i undef))).mono none (by cases ASt.get ⟨n, t, m g0⟩ i <;> rfl) (hhW W h) (fun b hb hx => hx.resolve_right fun k => by have := hN b k; omega) (fun _ _ _ => rfl)
 -- behind the loop
 have back : ∀ mx W' st pe N, sameIds (m g0) mx → JmN ρ Mo N lp D w2 (.loop (rec st pe)) mx W' →
   ARel E w0 M0 ⟨n, t, mx⟩ { a with defers := { target := .collected D, args := #[] } :: a.defers } (W'.putObj lp (.loop { rec st pe with state := .exhausted })) := by
  rintro mx W' st pe N hs ⟨j1, j2, j3, j4, j5⟩;have hfull : BelowX L w2 (W'.putObj lp (.loop { rec st pe with state := .exhausted })) := j1.trans (xr _ _ _ (.inl rfl))
  have hhw : ∀ b, b < w.heap.size → ¬ owned M0 ρ b → (W'.putObj lp (.loop { rec st pe with state := .exhausted })).heap[b]? = w.heap[b]? := fun b hb hno =>
   (hhW _ hfull b (by omega) fun h => hno (hMoSub b hb h)).trans (hgr.block b hb)
  have hsize : w.heap.size ≤ (W'.putObj lp (.loop { rec st pe with state := .exhausted })).heap.size := by have := hfull.size; omega
  refine ⟨(fun h => by rw [hmk] at h; cases h), ha.size, ρ, ⟨?_, hm.m0, ?_, ?_, ?_, hm.inj, hm.keep, hm.lentM, ?_⟩, ?_, fun i => ?_⟩
  ·refine ⟨hfull.os.trans (hgr.os.trans hm.below.os), hfull.tape.trans (hgr.tape.trans hm.below.tape), hfull.output.trans (hgr.output.trans hm.below.output), Nat.le_trans hm.below.size hsize, fun k hk' hl => ?_⟩;have hkw := Nat.lt_of_lt_of_le hk' hm.below.size;refine (hfull.block k (by omega) ?_).trans ((hgr.block k hkw).trans (hm.below.block k hk' hl));rintro (h | ⟨id, ow, h, rfl⟩)
   ·omega
   ·rcases (hm.fresh id ow h).1 with g | g
    ·omega
    ·exact hl g
  ·exact hm.glob.grow hsize hhw
  ·intro id y h;rw [vn, hs, ← vn]; exact hm.dom id y h
  ·exact fun id ow h => ⟨(hm.fresh id ow h).1, Nat.lt_of_lt_of_le (hm.fresh id ow h).2 hsize⟩
  ·intro id blk hb;refine (j2 id blk hb).mono none (by simp) (ze _) (fun ow ho => World.putObj_heap_other ?_) (fun b _ hno => World.putObj_heap_other ?_) (fun b _ h => .inl (.inl h)) (fun _ _ _ => rfl)
   ·have := hρlt id ow ho; omega
   ·intro e; exact hno (.inl (.inr (.inr e)))
  ·refine ⟨List.nodup_cons.2 ⟨fun hd => ?_, hmks.1⟩, fun d hd => ?_⟩
   ·obtain ⟨D', q1, q2, q3⟩ := hmks.2 _ hd;have hq := (Array.getElem?_eq_some_iff.1 q3.2).1;simp only [Deferred.mk.injEq, Target.collected.injEq, and_true] at q1
    omega
   rcases List.mem_cons.1 hd with rfl | hd
   ·refine ⟨D, rfl, by have := hm.below.size; omega, ?_, (World.putObj_heap_other (by omega)).trans j4⟩;rintro (h | ⟨id, ow, h, e⟩)
    ·have := hm.m0 D h; have := hm.below.size; omega
    ·have := hρlt id ow h; omega
   ·obtain ⟨D', q1, q2, q3⟩ := hmks.2 d hd;exact ⟨D', q1, q2, (G.mark D').mono q3 hhw (fun _ _ h => h)⟩
  ·exact (ht i).mono none (by cases ASt.get ⟨n, t, m g0⟩ i <;> rfl) hhw (fun _ _ h => h) (fun _ _ _ => rfl)
 refine ⟨lp, [{ target := .collected D, args := #[] }], w2, { target := .fn (.func gf) cs.toArray, args := #[.func (.yield lp) #[] #[]] }, w2, gf,
  #[.func (.yield lp) #[] #[]] ++ cs.toArray, w2, hrun, ?_, fun _ _ => trivial, ?_, qbp, ?_⟩
 ·simp only [resolve, hge]
  simp [go_sem]
 ·simp [invoke, go_sem, run_callFunc k1 k2 k3]
 rw [hF]
 refine (hseq w2 Mo cs lp (fun N pre st W => (st = false → ∃ gg, I pre gg ∧ JmN ρ Mo N lp D w2 (.loop (rec .ready none)) (m gg) W) ∧
  (st = true → ∃ c mx, Px c pre mx ∧ sameIds (m g0) mx ∧ JmN ρ Mo N lp D w2 (.loop (rec .done (some c))) mx W)) hMow hgl2 (hcs.mono hgr.hh hMoSub) ?_ ?_ ?_ ?_).mono ?_
 ·rintro N pre st W W' ⟨h1, h2⟩ hB;exact ⟨fun h => by obtain ⟨gg, hI, hj⟩ := h1 h; exact ⟨gg, hI, hj.turn (fun id ow ho => by have := hρlt id ow ho; omega) ⟨by omega, by omega⟩ hB⟩, fun h => by obtain ⟨c, mx, q1, q2, hj⟩ := h2 h; exact ⟨c, mx, q1, q2, hj.turn (fun id ow ho => by have := hρlt id ow ho; omega) ⟨by omega, by omega⟩ hB⟩⟩
 ·rintro N N' pre st W ⟨h1, h2⟩ hN;exact ⟨fun h => by obtain ⟨gg, hI, hj⟩ := h1 h; exact ⟨gg, hI, hj.take hN⟩, fun h => by obtain ⟨c, mx, q1, q2, hj⟩ := h2 h; exact ⟨c, mx, q1, q2, hj.take hN⟩⟩
 ·-- ONE ROUND
  rintro N pre x post W1 hxs _ hN ⟨hst, _⟩;obtain ⟨gg, hI, j1, j2, j3, j4, j5⟩ := hst rfl;have hlpW1 : lp < W1.heap.size := (Array.getElem?_eq_some_iff.1 j3).1;have hy := run_yield (P := E.P) (args := #[(enc x).1, (enc x).2]) j3 (by rw [hrec]; rfl);refine ⟨_, _, _, _, hy, roundIn_of_wpIn trivial ?_⟩;clear hy
  have hfold : (((rec .ready none).params.zip #[(enc x).1, (enc x).2]).foldl (fun tmps (t, a) => tmps.setIfInBounds t a) (rec .ready none).tmps) = ((a.put (some p) (enc x).1).put (some p2) (enc x).2).tmps := by rw [hrec]; simp [Act.put]
  have has : (rec .ready none).assign = assign := by rw [hrec]
  have hbo : (rec .ready none).body = body := by rw [hrec]
  rw [hfold, has, hbo];obtain ⟨o1, l1, mr1⟩ := qb5 (E := E) (x := x0) lp (mem := m gg) (W := W1) (Mo := fun b => Mo b ∨ N b) (fun b h => h.elim (fun h => Nat.lt_of_lt_of_le (hMow b h) j1.size) (fun h => (hN b h).2)) (hglN W1 N j1 j5) (hdom gg) (hx0 _ (hids gg)) (fun id ow h => .inl (hsubMo id ow h)) hm.inj j2;generalize hM1 : (fun b => (Mo b ∨ N b) ∧ ¬ ∃ id ow, ρ id = some (some ow) ∧ ow.b = b) = M1 at *
  have ha1 : ARel (E.turn lp (m gg) x0) W1 M1 ⟨n, upd p2 (.g (gx2 x)) (upd p (.g (gx x)) t), m gg⟩ { tmps := ((a.put (some p) (enc x).1).put (some p2) (enc x).2).tmps, defers := [] } W1 := by
   refine ⟨fun _ => rfl, by rw [size_put, size_put]; exact ha.size, ρ, mr1, Marks.nil, fun i => ?_⟩;rw [o1];show TRel W1 (fun b => Mo b ∨ N b) ρ (upd p2 (.g (gx2 x)) (upd p (.g (gx x)) t) i) (((a.put (some p) (enc x).1).put (some p2) (enc x).2).tmps.getD i undef);rw [getD_put (a.put (some p) (enc x).1) (some p2) (enc x).2 (fun d h => by cases h; rw [size_put, ha.size]; exact hp2), qj1]
   by_cases hpi2 : p2 = i
   ·rw [if_pos hpi2, if_pos (by rw [hpi2])]; exact hgx2 x _ _
   rw [if_neg hpi2, if_neg (fun h => hpi2 (by cases h; rfl))];rw [getD_put a (some p) (enc x).1 (fun d h => by cases h; rw [ha.size]; exact hp), qj1]
   by_cases hpi : p = i
   ·rw [if_pos hpi, if_pos (by rw [hpi])]; exact hgx x _ _
   ·rw [if_neg hpi, if_neg (fun h => hpi (by cases h; rfl))]; exact htWN W1 N j1 j5 i
  refine wpIn_mono (hassign pre x post gg hxs hI lp W1 M1 x0 _ W1 ha1) ?_;rintro e a1 W2 ⟨s', ha2, rfl, rfl⟩;obtain ⟨ρ2, hm2, _, ht2⟩ := ha2.ex
  have hnl : ¬ (E.turn lp (m gg) x0).lent lp := fun h => by obtain ⟨id, ow, h1, h2⟩ := (l1 _).1 h; have := hρlt id ow h1; omega
  have hnD : ¬ (E.turn lp (m gg) x0).lent D := fun h => by obtain ⟨id, ow, h1, h2⟩ := (l1 _).1 h; have := hρlt id ow h1; omega
  have e3 : W2.heap[lp]? = some (.loop (rec .ready none)) := (hm2.below.block lp hlpW1 hnl).trans j3;have e4 : W2.heap[D]? = some (.deferred (some [])) := (hm2.below.block D (by omega) hnD).trans j4;refine ⟨_, run_beginRound e3 (by rw [hrec]), ?_⟩;have hlpW2 : lp < W2.heap.size := Nat.lt_of_lt_of_le hlpW1 hm2.below.size;have hρ2 : ∀ id y, ρ id = some y → ρ2 id = some y := fun id y h => hm2.keep id y ((vc x0).2 ⟨hdom gg id y h, by simp only [x0, h, Option.getD_some]⟩)
  have hne2 : ∀ id ow, ρ2 id = some (some ow) → ow.b ≠ lp := fun id ow h e => by
   rcases (hm2.fresh id ow h).1 with g | g
   ·omega
   ·exact hnl (e ▸ g)
  have hne2D : ∀ id ow, ρ2 id = some (some ow) → ow.b ≠ D := fun id ow h e => by
   rcases (hm2.fresh id ow h).1 with g | g
   ·omega
   ·exact hnD (e ▸ g)
  have hMM : ∀ b, (Mo b ∨ N b) → owned M1 ρ2 b := fun b h => by
   have h : (fun b => Mo b ∨ N b) b := h;rw [← o1] at h
   rcases h with h | ⟨id, ow, ho, rfl⟩
   ·exact .inl h
   ·exact .inr ⟨id, ow, hρ2 id _ ho, rfl⟩
  have hh2 : ∀ b, b < W2.heap.size → ¬ owned M1 ρ2 b → (W2.putObj lp (.loop { rec .ready none with state := .busy })).heap[b]? = W2.heap[b]? := fun b _ hno =>
   World.putObj_heap_other fun e => hno (by rw [e]; exact hMM lp (.inl (.inr (.inr rfl))))
  have hx2 : ∀ id blk, lookO (S1 gg x).mem id = some blk → ρ2 id = some ((ρ2 id).getD none) := fun id blk h => by
   obtain ⟨y, hy⟩ := (hm2.blk id blk h).has (List.all_eq_true.1 (hlive1 gg x) _ (zn _ h));rw [hy]; rfl
  obtain ⟨o2, l2, mr2⟩ := qb5 (E := E) (x := fun id => (ρ2 id).getD none) lp (mem := (S1 gg x).mem) (W := W2.putObj lp (.loop { rec .ready none with state := .busy })) (Mo := owned M1 ρ2) (fun b h => by rw [kx]; exact hm2.lt b h)
   (GlOk.grow (E := E) hm2.glob (by rw [kx]; exact Nat.le_refl _) hh2) hm2.dom hx2 (fun id ow h => .inr ⟨id, ow, h, rfl⟩) hm2.inj
   (fun id blk hb => (hm2.blk id blk hb).mono none (by simp) (ze _) (fun ow ho => World.putObj_heap_other (hne2 id ow ho)) hh2 (fun _ _ h => h) (fun _ _ _ => rfl))
  generalize hM2 : (fun b => owned M1 ρ2 b ∧ ¬ ∃ id ow, ρ2 id = some (some ow) ∧ ow.b = b) = M2 at *;have had : a1.defers = [] := ha2.defers rfl
  have ha3 : ARel (E.turn lp (S1 gg x).mem fun id => (ρ2 id).getD none) (W2.putObj lp (.loop { rec .ready none with state := .busy })) M2 (S1 gg x) a1 (W2.putObj lp (.loop { rec .ready none with state := .busy })) := by
   refine ⟨fun _ => had, ha2.size, ρ2, mr2, by rw [had]; exact Marks.nil, fun i => ?_⟩;rw [o2];exact (ht2 i).mono none (by cases (S1 gg x).get i <;> rfl) hh2 (fun _ _ h => h) (fun _ _ _ => rfl)
  refine wpIn_mono (hbody pre x post gg hxs hI lp _ M2 _ a1 _ ha3) ?_;rintro e2 a2 W3 ⟨s3, ha4, hq⟩;obtain ⟨ρ3, hm3, _, _⟩ := ha4.ex
  have hnl2 : ¬ (E.turn lp (S1 gg x).mem fun id => (ρ2 id).getD none).lent lp := fun h => by obtain ⟨id, ow, h1, h2⟩ := (l2 _).1 h; exact hne2 id ow h1 h2
  have hnD2 : ¬ (E.turn lp (S1 gg x).mem fun id => (ρ2 id).getD none).lent D := fun h => by obtain ⟨id, ow, h1, h2⟩ := (l2 _).1 h; exact hne2D id ow h1 h2
  have f3 : W3.heap[lp]? = some (.loop { rec .ready none with state := .busy }) := (hm3.below.block lp (by rw [kx]; exact hlpW2) hnl2).trans (World.putObj_heap_same hlpW2);have f4 : W3.heap[D]? = some (.deferred (some [])) := (hm3.below.block D (by rw [kx]; omega) hnD2).trans ((World.putObj_heap_other (by omega)).trans e4)
  have b13 : BelowX L W1 W3 := by
   have hb := hm3.below;have hb2 := hm2.below;refine ⟨hb.os.trans hb2.os, hb.tape.trans hb2.tape, hb.output.trans hb2.output, by have := hb.size; rw [kx] at this; exact Nat.le_trans hb2.size this, fun k hk hl => ?_⟩;refine (hb.block k (by rw [kx]; exact Nat.lt_of_lt_of_le hk hb2.size) ?_).trans ((World.putObj_heap_other fun e => hl (.inl e)).trans (hb2.block k hk fun h => hl (.inr ((l1 k).1 h))));intro h;obtain ⟨id, ow, h1, rfl⟩ := (l2 _).1 h
   rcases (hm2.fresh id ow h1).1 with g | g
   ·omega
   ·exact hl (.inr ((l1 _).1 g))
  have fin : ∀ (mx : Mem) (jump : Option Code), sameIds (m g0) mx → goodM mx = true → MemL s3 mx →
    ∃ W4, (Instr.endRound lp jump).run E.P W3 = .ok (.bool jump.isNone) W4 ∧ BelowX Mo W1 W4 ∧ JmN ρ Mo N lp D w2 (.loop (rec (if jump.isNone then .ready else .done) jump)) mx W4 := by
   intro mx jump hs hgd hml;have hr := run_endRound (P := E.P) jump f3
   have hrr : ({ ({ rec .ready none with state := .busy } : Loop) with state := if jump.isNone then .ready else .done, pending := jump } : Loop) = rec (if jump.isNone then .ready else .done) jump := by rw [hrec]
   rw [hrr] at hr;have b14 : BelowX L W1 (W3.putObj lp (.loop (rec (if jump.isNone then .ready else .done) jump))) := b13.trans (xr _ _ _ (.inl rfl));refine ⟨_, hr, b14.mono hLMo, j1.trans b14, fun id blk hb => ?_, World.putObj_heap_same (Array.getElem?_eq_some_iff.1 f3).1, (World.putObj_heap_other (by omega)).trans f4, j5⟩;have hρid := hx0 mx hs id blk hb;have hρ2id := hρ2 id _ hρid;have hρ3 : ∀ id y, ρ2 id = some y → ρ3 id = some y := fun id y h => hm3.keep id y ((vc (fun id => (ρ2 id).getD none)).2 ⟨hm2.dom id y h, by simp only [h, Option.getD_some]⟩)
   have hsub3 : ∀ b, (Mo b ∨ N b) → owned M2 ρ3 b := fun b h => by
    have h1 := hMM b h;rw [← o2] at h1
    rcases h1 with h1 | ⟨id, ow, h1, rfl⟩
    ·exact .inl h1
    ·exact .inr ⟨id, ow, hρ3 id _ h1, rfl⟩
   have hgr2 := List.all_eq_true.1 hgd _ (zn _ hb);simp only [Bool.and_eq_true] at hgr2;have h5 : BRel W3 (fun b => Mo b ∨ N b) ρ id blk := BRel.ground hgr2.2 (hρid.trans (hρ3 id _ hρ2id).symm) ((hm3.blk id blk (wg hml id blk hb)).sub hsub3);exact h5.mono none (by simp) (ze _) (fun ow ho => World.putObj_heap_other (by have := hρlt id ow ho; omega)) (fun b _ hno => World.putObj_heap_other fun e => hno (.inl (.inr (.inr e)))) (fun _ _ h => h) (fun _ _ _ => rfl)
  cases e2 with
  | normal =>
   obtain ⟨g', hI', hq⟩ := hq;obtain ⟨W4, g1, g2, g3⟩ := fin (m g') none (hids _) (hgood _) hq;exact ⟨_, W4, g1, g2, _, rfl, ⟨(fun _ => ⟨g', hI', g3⟩), (fun h => by cases h)⟩⟩
  | ret =>
   obtain ⟨mx, q1, q2, q3, q4⟩ := hq;obtain ⟨W4, g1, g2, g3⟩ := fin mx (some .ret) q2 q3 q4;exact ⟨_, W4, g1, g2, _, rfl, ⟨(fun h => by cases h), fun _ => ⟨_, mx, q1, q2, g3⟩⟩⟩
  | exit id =>
   obtain ⟨mx, q1, q2, q3, q4⟩ := hq;obtain ⟨W4, g1, g2, g3⟩ := fin mx (some (.exit id)) q2 q3 q4;exact ⟨_, W4, g1, g2, _, rfl, ⟨(fun h => by cases h), fun _ => ⟨_, mx, q1, q2, g3⟩⟩⟩
  | _ => exact hq.elim
 ·-- AT THE START
  refine ⟨fun _ => ⟨g0, hg0, BelowX.refl _ w2, fun id blk hb => ?_, hL, hD, fun _ h => h.elim⟩, fun h => by cases h⟩;exact (hm.blk id blk hb).mono none (by simp) (ze _) (fun ow ho => hgr.block _ (by have := hρlt id ow ho; omega)) hgr.hh (fun b hb h => hMoSub b hb (h.resolve_right (fun h => h))) (fun _ _ _ => rfl)
 ·-- BEHIND THE ITERATOR
  rintro e W' ⟨⟨v, rfl⟩, ⟨hJ, _⟩ | ⟨pre, _, hJ⟩⟩
  ·obtain ⟨gg, hI, hJ⟩ := hJ rfl;refine ⟨none, _, ?_, _, back _ _ _ _ _ (hids gg) hJ, hdone gg hI⟩;have := run_endLoop (P := E.P) hJ.2.2.1 (by rw [hrec]; simp);rw [this, hrec]
  ·obtain ⟨c, mx, q1, q2, hJ⟩ := hJ rfl;have hl := run_endLoop (P := E.P) hJ.2.2.1 (by rw [hrec]; simp);have hb := hstop c pre mx q1 _ _ (back _ _ _ _ _ q2 hJ);rw [hF] at hb
   have hpe : (rec .done (some c)).pending = some c := by rw [hrec]
   refine ⟨some c, _, ?_, hb⟩;rw [hl];subst hrec
   rfl
theorem aw_rangeCN {α γ : Type} {gop : Operand} {p p2 : Tmp} {assign body : Code} {Q : Exit → ASt → Prop} {n : Nat} {l : List (Nat × TV)} {gf : FuncId} {caps : List G} {enc : α → Value × Value} {s : ASt}
  (xs : List α) (m : γ → Mem) (K : List α → γ → Prop) (g0 : γ) (S1 : γ → α → (Nat → TV) × Mem)
  (hn : s.n = n) (hwk : WeakL s l) (hwm : MemL s (m g0)) (hcl : closedB l (m g0) = true)
  (hg : ASt.eval E ⟨n, lookT l, m g0⟩ gop = .g (.fn (.func gf) [] caps)) (hk : Known E.P gf) (hseq : SeqN E gf caps enc xs) (gx gx2 : α → G) (hgx : ∀ x w M, (gx x).p w M (enc x).1) (hgx2 : ∀ x w M, (gx2 x).p w M (enc x).2)
  (hK0 : K xs g0) (hp : Nat.blt p n = true) (hp2 : Nat.blt p2 n = true) (hids : ∀ g, sameIds (m g0) (m g)) (hgood : ∀ g, goodM (m g) = true)
  (hassign : ∀ x g lp w1 M1 x1, AWp (E.turn lp (m g) x1) w1 M1 assign (fun e s' => e = .normal ∧ s' = ⟨n, (S1 g x).1, (S1 g x).2⟩) ⟨n, upd p2 (.g (gx2 x)) (upd p (.g (gx x)) (lookT l)), m g⟩)
  (hlive1 : ∀ g x, liveM (S1 g x).2 = true)
  (hbody : ∀ x post g, (∃ pre, xs = pre ++ x :: post) → K (x :: post) g → ∀ lp w1 M1 x1, AWp (E.turn lp (S1 g x).2 x1) w1 M1 body (RoundC E w0 M0 Q n (lookT l) m (K post) (m g0)) ⟨n, (S1 g x).1, (S1 g x).2⟩)
  (hdone : ∀ g, K [] g → Q .normal ⟨n, lookT l, m g⟩)
  (hbw : bowIn E (m g0) = true := by rfl) (hmk : E.mks = true := by rfl) (hrn : E.rnd = none := by rfl) : AWp E w0 M0 (.rangeFunc gop #[p, p2] assign body) Q s := by
 refine qi3 (l := l) hwk hwm hcl ?_ hbw;show AWp E w0 M0 _ Q ⟨s.n, lookT l, m g0⟩;rw [hn];refine aw_rangeFuncN m (fun pre g => ∃ tl, xs = pre ++ tl ∧ K tl g) g0 (fun g x => ⟨n, (S1 g x).1, (S1 g x).2⟩) (fun c _ mx => AWp E w0 M0 c Q ⟨n, lookT l, mx⟩) hmk hrn hk (Nat.le_of_ble_eq_true hp) (Nat.le_of_ble_eq_true hp2) hg hseq gx gx2 hgx hgx2 ⟨xs, rfl, hK0⟩ hids hgood
  (fun pre x post g _ _ lp w1 M1 x1 => hassign x g lp w1 M1 x1) hlive1 ?_ ?_ (fun _ _ _ h => h)
 ·rintro pre x post g hxs ⟨tl, htl, hK⟩ lp w1 M1 x1;obtain rfl : tl = x :: post := List.append_cancel_left (htl.symm.trans hxs);refine (hbody x post g ⟨pre, hxs⟩ hK lp w1 M1 x1).mono ?_;rintro e s' h
  cases e with
  | normal =>
   obtain ⟨g', h1, h2⟩ := h;exact ⟨g', ⟨post, by rw [hxs]; simp, h1⟩, h2⟩
  | ret => exact h
  | exit id => exact h
  | _ => exact h
 ·rintro g ⟨tl, htl, hK⟩
  obtain rfl : tl = [] := by
   have := congrArg List.length htl
   simp at this
   exact this
  exact hdone g hK
end
section
variable {α : Type} {E : Env} {l : Nat} {enc : α → Value × Value} {xs : List α} {C : ItC E.P l enc xs} {Q : Exit → ASt → List α × Bool → Prop} {s : ASt} {p : List α × Bool}
def okY (oi oj : Oper) : Option Cls → Option Cls → Bool
 | some a, some b => okC oi oj a b
 | some .p, none => true
 | _, _ => false
theorem IStep.mono {ops : Array Oper} {o : Oper} {K K' : ASt → List α × Bool → Prop} {c : Option Cls} (hk : ∀ s p, K s p → K' s p) (h : IStep E l enc xs ops o K s p c) : IStep E l enc xs ops o K' s p c := by
 cases c with
 | some c =>
  obtain ⟨s', h1, h2⟩ := h;exact ⟨s', h1, hk _ _ h2⟩
 | none =>
  obtain ⟨hd, gb, hw, hf, ht⟩ := h;refine ⟨hd, gb, hw, fun e => hk _ _ (hf e), fun e => ?_⟩;obtain ⟨q1, q2, f, arg, arg2, ts, x, post, q3, q4, q5, q5b, q6, q7⟩ := ht e;exact ⟨q1, q2, f, arg, arg2, ts, x, post, q3, q4, q5, q5b, q6, fun b => hk _ _ (q7 b)⟩
variable {ops : Array Oper} {md : Region.Mode} {cl : Nat → Option Cls}
def iOp (E : Env) (l : Nat) (enc : α → Value × Value) (xs : List α) (ops : Array Oper) (cl : Nat → Option Cls) (i : Nat) (K : ASt → List α × Bool → Prop) (s : ASt) (p : List α × Bool) : Prop :=
 match ops[i]? with
 | none => K s p
 | some o => IStep E l enc xs ops o K s p (cl i)
def anyI (E : Env) (l : Nat) (enc : α → Value × Value) (xs : List α) (md : Region.Mode) (ops : Array Oper) (cl : Nat → Option Cls) (K : ASt → List α × Bool → Prop) : Nat → Array Bool → ASt → List α × Bool → Prop
 | 0, listed, s, p => Region.ready md ops listed = [] ∧ K s p
 | fuel + 1, listed, s, p => (Region.ready md ops listed = [] → K s p) ∧ ∀ i ∈ Region.ready md ops listed, iOp E l enc xs ops cl i (anyI E l enc xs md ops cl K fuel (listed.setIfInBounds i true)) s p
theorem anyI.sound (hmk : E.mks = false) (hbw : E.bow = []) : ∀ (fuel : Nat) (listed : Array Bool) (s : ASt) (p : List α × Bool), anyI E l enc xs md ops cl (Q .normal) fuel listed s p → ∀ a w, IRel E C s p a w →
  wpAnyIn E.F 0 E.P md ops (fun e a' w' => ∃ s' p', IRel E C s' p' a' w' ∧ Q e s' p') fuel listed a w
 | 0, _, s, p, h, a, w, ha => ⟨h.1, s, p, ha, h.2⟩
 | fuel + 1, _, s, p, h, a, w, ha => by
  refine ⟨fun h0 => ⟨s, p, ha, h.1 h0⟩, fun i hi => ?_⟩;have h1 := h.2 i hi;unfold iOp at h1;unfold wpOpIn
  split
  ·rename_i ho; simp only [ho] at h1; exact anyI.sound hmk hbw fuel _ s p h1 a w ha
  ·rename_i o ho
   simp only [ho] at h1;exact IStep.sound h1 hmk hbw ha fun s' p' a' w' h3 ha' => anyI.sound hmk hbw fuel _ s' p' h3 a' w' ha'
theorem anyI_first {K : ASt → List α × Bool → Prop} {i : Nat} {oi : Oper} (hi : ops[i]? = some oi) : ∀ (fuel : Nat) (listed : Array Bool) (s : ASt) (p : List α × Bool),
  (∀ j oj, ops[j]? = some oj → j ≠ i → listed.getD j true = false → (∀ e ∈ oj.after, Region.binds md e = true → e.on ≠ i) → oi.apart ops oj = true ∧ okY oi oj (cl i) (cl j) = true) →
  i ∈ Region.ready md ops listed → IStep E l enc xs ops oi (anyI E l enc xs md ops cl K fuel (listed.setIfInBounds i true)) s p (cl i) → anyI E l enc xs md ops cl K (fuel + 1) listed s p := by
 intro fuel
 induction fuel with
 | zero =>
  intro listed s p hfree hr hy;refine ⟨fun h => (by rw [h] at hr; cases hr), fun j hj => ?_⟩
  by_cases hji : j = i
  ·subst hji; unfold iOp; simp only [hi]; exact hy
  ·exfalso
   have hj' := ready_mono hj hji
   -- at once another is ready: what follows would have to be empty
   cases hc : cl i with
   | none =>
    obtain ⟨hjun, oj, hoj, hall⟩ := mem_ready.1 hj
    have hnot : ∀ e ∈ oj.after, Region.binds md e = true → e.on ≠ i := fun e he hb heq => by
     have h1 := hall e he hb;have h0 := (mem_ready.1 hr).1;rw [heq] at h1
     rcases Nat.lt_or_ge i listed.size with h' | h'
     ·simp [h'] at h0 h1; rw [h0] at h1; cases h1
     ·simp [Array.getElem?_eq_none h'] at h1
    have := (hfree j oj hoj hji hjun hnot).2;rw [hc] at this
    cases hcj : cl j <;> rw [hcj] at this <;> simp [okY] at this
   | some ci =>
    rw [hc] at hy;obtain ⟨u, _, hu⟩ := hy;rw [hu.1] at hj'
    cases hj'
 | succ fuel ih =>
  intro listed s p hfree hr hy;refine ⟨fun h => (by rw [h] at hr; cases hr), fun j hj => ?_⟩
  by_cases hji : j = i
  ·subst hji; unfold iOp; simp only [hi]; exact hy
  ·obtain ⟨hjun, oj, hoj, hall⟩ := mem_ready.1 hj
   have hnot : ∀ e ∈ oj.after, Region.binds md e = true → e.on ≠ i := fun e he hb heq => by
    have h1 := hall e he hb;have h0 := (mem_ready.1 hr).1;rw [heq] at h1
    rcases Nat.lt_or_ge i listed.size with h' | h'
    ·simp [h'] at h0 h1; rw [h0] at h1; cases h1
    ·simp [Array.getElem?_eq_none h'] at h1
   obtain ⟨hap, hok⟩ := hfree j oj hoj hji hjun hnot
   have hfree' : ∀ k ok, ops[k]? = some ok → k ≠ i → (listed.setIfInBounds j true).getD k true = false → (∀ e ∈ ok.after, Region.binds md e = true → e.on ≠ i) → oi.apart ops ok = true ∧ okY oi ok (cl i) (cl k) = true := fun k ok hk hki hun hno => by
    refine hfree k ok hk hki ?_ hno
    by_cases hjk : j = k
    ·subst hjk; exact hjun
    ·rw [getD_set_ne true hjk] at hun; exact hun
   cases hc : cl i with
   | none =>
    rw [hc] at hok
    cases hcj : cl j <;> rw [hcj] at hok <;> simp [okY] at hok
   | some ci =>
    rw [hc] at hy hok;obtain ⟨u, hy1, hy2⟩ := hy;have h1 := hy2.2 j (ready_mono hj hji);unfold iOp at h1 ⊢;simp only [hoj] at h1 ⊢;rw [Array.setIfInBounds_comm _ _ (Ne.symm hji)] at h1
    cases hcj : cl j with
    | some cj =>
     rw [hcj] at h1 hok;obtain ⟨t, h2, h3⟩ := h1;obtain ⟨s2, h4, h5⟩ := AStep.swap hap hok hy1 h2;refine ⟨s2, h4, ih (listed.setIfInBounds j true) s2 p hfree' (ready_mono hr (Ne.symm hji)) ?_⟩;rw [hc];exact ⟨t, h5, h3⟩
    | none =>
     rw [hcj] at h1 hok
     have hcp : ci = .p := by cases ci <;> simp [okY] at hok <;> rfl
     subst hcp;obtain ⟨a1, a2, a3⟩ := Oper.apart_spec hap;obtain ⟨i0, gi, ri, mi, i1, i2, i3, i4, rfl⟩ := hy1.parts ⟨by simp, by simp⟩;obtain rfl : mi = s.mem := i4 (.inl rfl);obtain ⟨j0, gj, hw, hf, ht⟩ := h1;have hev : ∀ x ∈ oj.op.operands, (⟨s.n, updO oi.dst ri s.tmps, s.mem⟩ : ASt).eval E x = s.eval E x := zu a1;have key : ∀ v p', anyI E l enc xs md ops cl K fuel ((listed.setIfInBounds j true).setIfInBounds i true) ((⟨s.n, updO oi.dst ri s.tmps, s.mem⟩ : ASt).put oj.dst v) p' →
       anyI E l enc xs md ops cl K (fuel + 1) (listed.setIfInBounds j true) (s.put oj.dst v) p' := fun v p' hk => by
      refine ih (listed.setIfInBounds j true) (s.put oj.dst v) p' hfree' (ready_mono hr (Ne.symm hji)) ?_;rw [hc];refine ⟨⟨s.n, updO oi.dst ri (updO oj.dst v s.tmps), s.mem⟩, ?_, ?_⟩
      ·exact AStep.ofParts (s := ⟨s.n, updO oj.dst v s.tmps, s.mem⟩) i0 ((zm a3).2 i1) (fun e => ((i2 e).anyMem (.inl rfl)).congr (fun x hx => ((zu a3) x hx).symm)) i3 (fun _ => rfl)
      ·rw [kh a2 ri v s.tmps];exact hk
     refine ⟨j0, gj, (zm a1).1 hw, fun e => key _ _ (hf e), fun e => ?_⟩;obtain ⟨q1, q2, f, arg, arg2, ts, x, post, q3, q4, q5, q5b, q6, q7⟩ := ht e;have e1 : (⟨s.n, updO oi.dst ri s.tmps, s.mem⟩ : ASt).eval E f = s.eval E f := hev f (by rw [q3]; simp [Op.operands, Call.operands]);have e2 : (⟨s.n, updO oi.dst ri s.tmps, s.mem⟩ : ASt).eval E arg = s.eval E arg := hev arg (by rw [q3]; simp [Op.operands, Call.operands]);have e3 : (⟨s.n, updO oi.dst ri s.tmps, s.mem⟩ : ASt).eval E arg2 = s.eval E arg2 := hev arg2 (by rw [q3]; simp [Op.operands, Call.operands]);rw [e1] at q4;rw [e2] at q5;rw [e3] at q5b;exact ⟨q1, q2, f, arg, arg2, ts, x, post, q3, q4, q5, q5b, q6, fun b => key _ _ (q7 b)⟩
def freeY (md : Region.Mode) (ops : Array Oper) (cl : Nat → Option Cls) (listed : Array Bool) (i : Nat) : Bool :=
 match ops[i]? with
 | none => false
 | some oi => (List.range ops.size).all fun j => j == i || listed.getD j true || match ops[j]? with
   | some oj => oj.after.any (fun e => Region.binds md e && e.on == i) || (oi.apart ops oj && okY oi oj (cl i) (cl j))
   | none => true
theorem freeY_spec {i : Nat} {oi : Oper} {listed : Array Bool} (hi : ops[i]? = some oi) (h : freeY md ops cl listed i = true) (j : Nat) (oj : Oper)
  (hj : ops[j]? = some oj) (hne : j ≠ i) (hun : listed.getD j true = false) (hno : ∀ e ∈ oj.after, Region.binds md e = true → e.on ≠ i) :
  oi.apart ops oj = true ∧ okY oi oj (cl i) (cl j) = true := by
 simp only [freeY, hi, List.all_eq_true, List.mem_range] at h;have h1 := h j (Array.getElem?_eq_some_iff.1 hj).1;simp only [hj, Bool.or_eq_true, beq_iff_eq, hne, false_or, hun, Bool.false_eq_true, Bool.and_eq_true] at h1
 rcases h1 with h1 | h1
 ·obtain ⟨e, he, hb⟩ := Array.any_eq_true'.1 h1;simp only [Bool.and_eq_true, beq_iff_eq] at hb;exact absurd hb.2 (hno e he hb.1)
 ·exact h1
def lexY (md : Region.Mode) (ops : Array Oper) (cl : Nat → Option Cls) : Nat → Nat → Array Bool → Bool
 | 0, _, listed => (Region.ready md ops listed).isEmpty
 | fuel + 1, k, listed => (Region.ready md ops listed).contains k && (freeY md ops cl listed k || (Region.ready md ops listed).all fun j => j == k) && lexY md ops cl fuel (k + 1) (listed.setIfInBounds k true)
theorem anyI_lex {K : ASt → List α × Bool → Prop} : ∀ (lo : List Oper) (cs : List (Option Cls)) (k : Nat) (listed : Array Bool) (s : ASt) (p : List α × Bool), (∀ j, lo[j]? = ops[k + j]?) → (∀ j c, cs[j]? = some c → cl (k + j) = c) →
  lexY md ops cl lo.length k listed = true → IOps E l enc xs ops K lo cs s p → anyI E l enc xs md ops cl K lo.length listed s p
 | [], [], _, _, _, _, _, _, hB, h => ⟨by simpa [lexY] using hB, h⟩
 | o :: lo, c :: cs, k, listed, s, p, hl, hc, hB, h => by
  have h0 : ops[k]? = some o := by simpa using (hl 0).symm
  have hc0 : cl k = c := by simpa using hc 0 c (by simp)
  simp only [List.length_cons, lexY, Bool.and_eq_true] at hB;obtain ⟨⟨hr, hf⟩, hB'⟩ := hB;subst hc0
  have hr : k ∈ Region.ready md ops listed := by simpa using hr
  have hx := IStep.mono (fun s' p' h2 => anyI_lex lo cs (k + 1) _ s' p' (fun j => by have := hl (j + 1); simpa [Nat.add_assoc, Nat.add_comm 1 j] using this)
    (fun j c hj => by have := hc (j + 1) c (by simpa using hj); simpa [Nat.add_assoc, Nat.add_comm 1 j] using this) hB' h2) h
  rw [Bool.or_eq_true] at hf
  rcases hf with hf | hf
  ·exact anyI_first h0 lo.length listed s p (freeY_spec h0 hf) hr hx
  ·refine ⟨fun h => (by rw [h] at hr; cases hr), fun j hj => ?_⟩;have := List.all_eq_true.1 hf j hj
   obtain rfl : j = k := by simpa using this
   unfold iOp;simp only [h0];exact hx
 | [], _ :: _, _, _, _, _, _, _, _, h => h.elim
 | _ :: _, [], _, _, _, _, _, _, _, h => h.elim
theorem IRel.draw {a : Act} {w : World} (h : IRel E C s p a w) : IRel E C s p a { w with drawn := w.drawn + 1 } := by
 obtain ⟨N, W1, k1, k2, k3, k4, k5, k6⟩ := h;exact ⟨N, W1, k1, k2, k3, k4, k5.draw, k6⟩
def lexOkY (ops : Array Oper) (cs : List (Option Cls)) : Bool := lexY .any ops (fun i => cs.getD i none) ops.size 0 (Array.replicate ops.size false)
theorem iw_drawY {id : Nat} (cs : List (Option Cls)) (hB : lexOkY ops cs = true) (h : IOps E l enc xs ops (Q .normal) ops.toList cs s p) (hmk : E.mks = false := by rfl) (hbw : E.bow = [] := by rfl) : IWp E C (.region id ops true) Q s p := by
 intro a w ha;refine wpIn_region_any E.orders ?_;have h1 := anyI_lex (md := .any) (cl := fun i => cs.getD i none) ops.toList cs 0 (Array.replicate ops.size false) s p (by simp) (fun j c hj => by simp [hj]) (by simpa [lexOkY] using hB) h;have h2 := anyI.sound (C := C) (Q := Q) hmk hbw _ _ s p h1 a _ ha.draw
 simpa using h2
end
end Go.Sim.Pr
set_option maxRecDepth 10000
namespace Go.Sim
open Go.Proofs
abbrev progG (a : S4040) : List G := [G.sl 3 (List.map S4069.c a.Classes), G.int a.Pool, G.int a.Of, G.int a.For]
def keyZ : S4076 := S4076.mk ByteArray.empty 0
def keyE (k : S4063) : S4063 × S4076 := (k, mgetD s4033 k.Fact keyZ)
def keysL (a : S4040) (c : Int) : List (S4063 × S4076) := match a.Classes[c.toNat]? with
 | none => []
 | some x => x.By.map keyE
def kfV : Nat → Value
 | 0 => .nilFunc
 | n + 1 => .func (.func (72 + n)) #[] #[]
def encK (x : S4063 × S4076) : Value × Value := (.agg #[.string x.1.Fact, .bool x.1.Down], .agg #[.string x.2.name, kfV x.2.of])
abbrev keyG (x : S4063 × S4076) : G := G.agg [G.str x.1.Fact, G.bool x.1.Down]
abbrev factG (x : S4063 × S4076) : G := G.agg [G.str x.2.name, kfG x.2.of]
theorem q0l {k : Nat} {w : World} {M : Nat → Prop} {v : Value} (h : (kfG k).p w M v) : v = kfV k := by cases k <;> exact h
theorem q0m (k : Nat) (w : World) (M : Nat → Prop) : (kfG k).p w M (kfV k) := by cases k <;> exact rfl
theorem qtt (k : Nat) : (kfV k).oneCell' = true := by cases k <;> rfl
theorem qwo {x : S4063 × S4076} {w : World} {M : Nat → Prop} {v : Value} (h : (keyG x).p w M v) : v = (encK x).1 := by
 obtain ⟨vs, rfl, h2⟩ := h
 match vs, h2 with
 | [a, b], ⟨⟨h3, _⟩, ⟨h4, _⟩, _⟩ =>
  have h3 : a = _ := h3;have h4 : b = _ := h4;subst h3 h4; rfl
theorem qtu {x : S4063 × S4076} {w : World} {M : Nat → Prop} {v : Value} (h : (factG x).p w M v) : v = (encK x).2 := by
 obtain ⟨vs, rfl, h2⟩ := h
 match vs, h2 with
 | [a, b], ⟨⟨h3, _⟩, ⟨h4, _⟩, _⟩ =>
  have h3 : a = _ := h3;have h4 := q0l h4;subst h3 h4; rfl
theorem qu4 (x : S4063 × S4076) (w : World) (M : Nat → Prop) : (keyG x).p w M (encK x).1 := ⟨_, rfl, ⟨rfl, rfl⟩, ⟨rfl, rfl⟩, trivial⟩
theorem qsj (x : S4063 × S4076) (w : World) (M : Nat → Prop) : (factG x).p w M (encK x).2 := ⟨_, rfl, ⟨rfl, rfl⟩, ⟨q0m _ _ _, qtt _⟩, trivial⟩
theorem qyr {g : List (Nat × List Value)} (a : S4040) (c : Int) : Con (EG g) 105 [G.agg (progG a), G.int c] (G.fn (.func 123) [] [G.ref [G.int c], G.ref (progG a)]) := by
 refine qk Tryz.func105 rfl rfl fun w0 M0 => ?_;refine qd ?_;refine qb [.p, .p, .p] ?_;refine st rfl rfl (zj rfl rfl) rfl ?_;refine st rfl rfl (zj rfl rfl) rfl ?_;refine st rfl rfl (qc rfl rfl) rfl ?_;refine qe ?_;refine qd ?_;refine qb [.p, .p] ?_;refine st rfl rfl (xh rfl rfl rfl) rfl ?_;refine st rfl rfl (qc rfl rfl) rfl ?_;refine qe ?_;refine qn ?_;exact qy rfl (rv_g rfl)
theorem qtv {α β : Type} (f : α → β) {l : List α} {k : Nat} {y : α} (h : l[k]? = some y) : l.map f = (l.take k).map f ++ f y :: (l.drop (k + 1)).map f := by
 obtain ⟨hk, e⟩ := List.getElem?_eq_some_iff.1 h;rw [← List.map_cons, ← List.map_append]
 congr 1
 rw [← e, List.getElem_cons_drop, List.take_append_drop]
theorem map_take {α β : Type} (f : α → β) {l : List α} {k : Nat} {y : α} (h : l[k]? = some y) : (l.take k).map f ++ [f y] = (l.take (k + 1)).map f := by
 rw [List.take_add_one, h, List.map_append]; rfl
theorem qwp {α β : Type} {E : Env} {l : Nat} {enc : α → Value × Value} {xs : List α} {C : Pr.ItC E.P l enc xs} {Q : Exit → ASt → List α × Bool → Prop} {s : ASt} {p : List α × Bool} {c : Code} (t : Nat) {k : Nat} {f : β → List G} {ys : List β} (h : s.get t = .g (.sl k (ys.map f))) (hk : ys.length ≤ 9223372036854775807 → Pr.IWp E C c Q s p) : Pr.IWp E C c Q s p := by
 intro a w ha;obtain ⟨N, W1, k1, k2, k3, k4, k5, k6⟩ := id ha;obtain ⟨ρ, _, _, ht⟩ := k5.ex;have := ht t;rw [h] at this;obtain ⟨_, cap, _, h2, h3, _⟩ := this;rw [List.length_map] at h2;exact hk (Nat.le_trans h2 (by simpa [maxLen] using h3)) a w ha
theorem qp3 {g : List (Nat × List Value)} (a : S4040) (c : Int) (hc : 0 ≤ c) : Pr.SeqN (EG g) 123 [G.ref [G.int c], G.ref (progG a)] encK (keysL a c) := by
 refine Pr.seqN_of_iw Tryz.func123 rfl rfl rfl fun l C => ?_;refine Pr.iw_seq ?_;refine Pr.iw_seq ?_;refine Pr.iw_region [.p, .p, .p, .p, .p] ?_;refine st rfl rfl (qj rfl ty3 rfl) rfl ?_;refine st rfl rfl (qf rfl xv rfl) rfl ?_;refine st rfl rfl (qj rfl qcu rfl) rfl ?_;refine st rfl rfl (qx (f := S4069.c) (l := a.Classes) rfl Tryz.underlying39 rfl) rfl ?_;refine st rfl rfl (xa rfl rfl rfl) rfl ?_;refine qe ?_;refine Pr.iw_cond _ rfl (fun h1 => ?_) (fun h1 => ?_)
 ·replace h1 : (decide ((a.Classes.length : Int) ≤ c)) = true := h1;replace h1 := decT h1;refine Pr.iw_ret ?_;refine .inr ?_;show [] = keysL a c;unfold keysL;rw [List.getElem?_eq_none (by omega)]
 ·replace h1 : (decide ((a.Classes.length : Int) ≤ c)) = false := h1;replace h1 := decF h1;obtain ⟨x, hx⟩ : ∃ x, a.Classes[c.toNat]? = some x := ⟨_, List.getElem?_eq_getElem (by omega)⟩
  have hxs : keysL a c = x.By.map keyE := by unfold keysL; rw [hx]
  refine Pr.iw_skip ?_;refine Pr.iw_seq ?_;refine Pr.iw_region [.p, .p, .p, .p, .p, .p, .p, .p] ?_;refine st rfl rfl (qf rfl xv rfl) rfl ?_;refine st rfl rfl (qj rfl qcu rfl) rfl ?_;refine st rfl rfl (qj rfl ty3 rfl) rfl ?_;refine st rfl rfl (zt (f := S4069.c) (l := a.Classes) (a := x) rfl Tryz.underlying39 wd rfl rfl hc hx) rfl ?_;refine st rfl rfl (qf rfl qf7 rfl) rfl ?_;refine st rfl rfl (qj rfl qm6 rfl) rfl ?_;refine st rfl rfl (qx (f := S4063.c) (l := x.By) rfl Tryz.underlying68 rfl) rfl ?_;refine st rfl rfl (qa rfl rfl) rfl ?_;refine qe ?_;refine qwp (f := S4063.c) (ys := x.By) 16 rfl fun hlen => ?_;refine Pr.iw_block ?_;refine Pr.iw_loop_g (γ := Nat) (fun k => [(0, .g (G.lit (.func (.yield l) #[] #[]))), (16, .g (G.sl 2 (List.map S4063.c x.By))), (17, .g (G.int (x.By.length : Int))), (18, .g (G.int ((k : Nat) : Int)))])
   (fun k => ((x.By.take k).map keyE, false)) (fun k => k ≤ x.By.length) (fun k => x.By.length - k) ⟨rfl, 0, ⟨rfl, rfl, rfl, rfl, trivial⟩, rfl, rfl, Nat.zero_le _, trivial⟩ ?_
  intro k hk;refine Pr.iw_seq ?_;refine Pr.iw_region [.p] ?_;refine st rfl rfl (zi rfl rfl rfl) rfl ?_;refine qe ?_;refine Pr.iw_seq ?_;refine Pr.iw_cond _ rfl (fun h2 => ?_) (fun h2 => ?_)
  ·replace h2 : (decide (((k : Nat) : Int) < (x.By.length : Int))) = true := h2;replace h2 := decT h2
   have hk2 : k < x.By.length := by omega
   obtain ⟨y, hy⟩ : ∃ y, x.By[k]? = some y := ⟨_, List.getElem?_eq_getElem hk2⟩;refine Pr.iw_skip ?_;refine Pr.iw_seq ?_;refine Pr.iw_block ?_;refine Pr.iw_seq ?_;refine Pr.iw_region [.p, .p, .w, .w] ?_;refine st rfl rfl (zt (f := S4063.c) (l := x.By) (a := y) rfl Tryz.underlying68 j6 rfl rfl (Int.natCast_nonneg _) hy) rfl ?_;refine st rfl rfl (qw rfl j6 rfl rfl rfl) rfl ?_;refine st_w rfl rfl (zw 5 rfl qcg rfl rfl) rfl ?_;refine kc rfl rfl (q8 (tv := .g (G.agg [G.str y.Fact, G.bool y.Down])) rfl j6 rfl rfl rfl rfl rfl) ?_;refine qe ?_;refine Pr.iw_freeze (l1 := [(0, .g (G.lit (.func (.yield l) #[] #[]))), (5, .g (G.ref [G.str y.Fact, G.bool y.Down])), (16, .g (G.sl 2 (List.map S4063.c x.By))), (17, .g (G.int (x.By.length : Int))), (18, .g (G.int ((k : Nat) : Int)))]) (m := []) 5 rfl ⟨.inl ⟨rfl, rfl⟩, .inr (qn5 rfl), .inl ⟨rfl, rfl⟩, .inl ⟨rfl, rfl⟩, .inl ⟨rfl, rfl⟩, trivial⟩ trivial rfl rfl ?_;refine Pr.iw_seq ?_;refine Pr.iw_drawY [some .p, some .p, some .p, some .p, some .p, some .p, none, some .p] (by kernel_rfl) ?_;refine Pr.ist (st rfl rfl (qa rfl rfl) rfl (qe ?_));refine Pr.ist (st rfl rfl (qw rfl j6 rfl rfl rfl) rfl (qe ?_));refine Pr.ist (st rfl rfl (qh rfl qr9 rfl qsp ql) rfl (qe ?_));refine Pr.ist (st rfl rfl (qf rfl qbn rfl) rfl (qe ?_));refine Pr.ist (st rfl rfl (qj rfl ty9 rfl) rfl (qe ?_));refine Pr.ist (st rfl rfl (qen (kf := Value.string) (vf := (fun (v : S4076) => G.agg [G.str v.name, kfG v.of])) (m := s4033) (k := y.Fact) (z := keyZ) rfl Tryz.underlying79 Tryz.underlying9 qm8 (fun _ _ => ⟨_, rfl, ⟨⟨rfl, rfl⟩, ⟨⟨rfl, rfl⟩, trivial⟩⟩⟩) rfl rfl) rfl (qe ?_));refine Pr.iy (keyE y) rfl rfl rfl rfl rfl rfl (fun w M ρ v h => qwo (x := keyE y) h) (fun w M ρ v h => qtu (x := keyE y) h) (by rw [hxs]; exact qtv _ hy) fun b => ?_;refine Pr.ist (st rfl rfl (jz rfl rfl) rfl (qe ?_));refine Pr.ist_nil ?_;refine Pr.iw_cond (!b) rfl (fun h4 => ?_) (fun h4 => ?_)
   ·refine Pr.iw_ret ?_;exact .inl h4
   ·have hb : b = true := by simpa using h4
    subst hb;refine Pr.iw_skip ?_;refine Pr.iw_region [.p, .p] ?_;refine st rfl rfl (z0 rfl rfl rfl (by (try dsimp only); unfold I64; omega)) rfl ?_;refine st rfl rfl (qa rfl rfl) rfl ?_;refine qe ?_;refine ⟨rfl, k + 1, ⟨rfl, rfl, rfl, rfl, trivial⟩, rfl, ?_, hk2, ?_⟩
    ·show _ = ((x.By.take (k + 1)).map keyE, false);rw [← map_take keyE hy]; rfl
    ·show _ - (k + 1) < _; omega
  ·replace h2 : (decide (((k : Nat) : Int) < (x.By.length : Int))) = false := h2;replace h2 := decF h2;refine Pr.iw_exit ?_;refine .inr ?_;show (x.By.take k).map keyE = keysL a c;rw [hxs, List.take_of_length_le (by omega)]
theorem qh4 (a1 : S4026) (k2 : Nat) (rec1 : Nat → Option Int) (h1 : ∀ k r, rec1 k = some r → 0 ≤ r) : ∀ (l : List S4065) (k : Nat) (r : Int), s4050_l2 rec1 a1 k2 l k = some r → 0 ≤ r
 | [], k, r, h => by
  rw [s4050_l2] at h;have := Option.some.inj h
  omega
 | y :: t, k, r, h => by
  rw [s4050_l2] at h;obtain ⟨b, _, h⟩ := qm h
  cases b with
  | true => exact qh4 a1 k2 rec1 h1 t _ r h
  | false => exact h1 _ _ h
theorem qh5 (a0 : S4040) (a1 : S4026) : ∀ (l : List S4069) (k : Nat) (r : Int), s4050_l1 a0 a1 l k = some r → 0 ≤ r
 | [], k, r, h => by
  rw [s4050_l1] at h;have := Option.some.inj h
  omega
 | y :: t, k, r, h => by
  rw [s4050_l1] at h;exact qh4 a1 k _ (fun k r h => qh5 a0 a1 t k r h) _ _ r h
theorem qp4 {a0 : S4040} {a1 : S4026} {r : Int} (h : s4050 a0 a1 = some r) : 0 ≤ r := qh5 a0 a1 _ _ _ h
end Go.Sim
