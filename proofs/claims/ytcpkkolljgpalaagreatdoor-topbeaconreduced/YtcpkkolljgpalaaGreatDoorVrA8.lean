/-
  What is proved: lemmas and contracts of functions on the way to the law topBeaconReduced (part 8).
-/
import Derived.Test.YtcpkkolljgpalaaGreatDoorVrA7
import Derived.Test.YtcpkkolljgpalaaGreatDoorVrA5
import Derived.Scope
import Derived.Test.YtcpkkolljgpalaaGreatDoorVrA6
set_option linter.unusedSectionVars false
set_option linter.unusedSimpArgs false
set_option linter.unusedVariables false
set_option linter.unnecessarySimpa false
set_option linter.deprecated false
namespace Go.Sim
open Go.Proofs
theorem c29' {g : List (Nat × List Value)} (a0 a1 : ByteArray) (a2 : S45) (a3 : Int) : Con (EG g) 10 [G.str a0, G.str a1, G.agg [G.int a2.fFrom, G.int a2.fTo, G.int a2.Days], G.int a3] (G.tup [G.sl 3 (List.map S151.c ((s29 a0 a1 a2 a3)).1), G.int ((s29 a0 a1 a2 a3)).2]) := by
 intro w M vs hM hgl hv;refine (c29 a0 a1 a2 a3 w M vs hM hgl hv).mono ?_;rintro e w' ⟨v, h1, h2, us, h3, h4⟩;refine ⟨v, h1, h2, us, h3, ?_⟩
 match us, h4 with
 | [u1, u2], ⟨k1, k2, k3⟩ => exact ⟨qow k1, k2, k3⟩
theorem qzi (a0 a1 : ByteArray) (a2 : S45) (a3 : Int) : (s29 a0 a1 a2 a3).1.length * 40 ≤ 140737488351232 := by
 unfold s29
 by_cases h : s84 [(s87 a0), (s101 a1), (s102 a2), (s85 a3 0 1439)] = 0
 ·rw [decide_eq_false (by simpa using h), cond_false];obtain ⟨h1, _, _⟩ := qhy a0 a1 a2 a3 h;obtain ⟨q1, q2, q3, q4, _, _⟩ := period_ok a2 h1;have := qat a2.Days (a2.fTo + 1 - a2.fFrom).toNat a2.fFrom;simp only [slotsL, momL, List.length_map]
  omega
 ·rw [decide_eq_true (by simpa using h), cond_true];show (0 : Nat) * 40 ≤ 140737488351232
  decide
theorem qqt (p : S45) : s102 p = s40 p := by
 unfold s102 s40
 have e : ∀ l, s152 l = s89 l := fun l => by
  unfold s152 s89;generalize 0 = k
  induction l generalizing k with
  | nil => rfl
  | cons x l ih => rw [s152_l1, s89_l1, ih]
 simp only [e, qgg, qcs, s153, s155, s109, s90, s154]
 by_cases h1 : p.fFrom < 0 <;> by_cases h1' : 99999 < p.fFrom <;> by_cases h2 : p.fTo < 0 <;> by_cases h2' : 99999 < p.fTo <;> simp only [h1, h1', h2, h2', decide_true, decide_false, Bool.or_true, Bool.true_or, Bool.or_false, cond_true, cond_false] <;> try rfl
 by_cases h3 : p.fTo < p.fFrom <;> by_cases h4 : 400 < IntKind.i64.wrap (p.fTo - p.fFrom) <;> by_cases h5 : p.Days < 1 <;> by_cases h6 : 127 < p.Days <;> simp [h3, h4, h5, h6]
set_option maxRecDepth 100000 in
theorem qul : ∀ m : Fin 128, ∀ w : Fin 7, s192 (m.1 : Int) (w.1 : Int) = decide (andI (shrI (m.1 : Int) (w.1 : Int)) 1 = 1) := by decide +kernel
theorem qzj {m d : Int} (h1 : 1 ≤ m) (h2 : m ≤ 127) (h3 : 0 ≤ d) (h4 : d ≤ 1000000) : s192 m (s180 d) = inM m d := by
 have hw : s180 d = (d + 5) % 7 := by
  unfold s180;rw [wrap_i64 (by unfold I64; omega), Int.tmod_eq_emod_of_nonneg (by omega)]
 rw [hw];have := qul ⟨m.toNat, by omega⟩ ⟨((d + 5) % 7).toNat, by omega⟩;simp only at this;rw [Int.toNat_of_nonneg (by omega), Int.toNat_of_nonneg (by omega)] at this;exact this
theorem qi8 (p : S45) (h1 : 1 ≤ p.Days) (h2 : p.Days ≤ 127) (h3 : 0 ≤ p.fFrom) (h4 : p.fTo ≤ 99999) : ∀ (n : Nat) (x : List Int) (d : Int), p.fFrom ≤ d → n = (p.fTo + 1 - d).toNat → s104_l1 p n x d = x ++ dayL p.Days n d
 | 0, x, d, _, _ => by simp [s104_l1, dayL]
 | n + 1, x, d, hd, hn => by
  rw [s104_l1, dayL]
  have hs : s157 p d = inM p.Days d := by
   unfold s157;rw [qzj h1 h2 (by omega) (by omega), decide_eq_true (by omega), decide_eq_true (by omega)]
   simp
  rw [hs];unfold s104_j1;have ih := fun x => qi8 p h1 h2 h3 h4 n x (d + 1) (by omega) (by omega);show (bif inM p.Days d then s104_l1 p n (x ++ [d]) (d + 1) else s104_l1 p n x (d + 1)) = _;rw [ih, ih]
  cases inM p.Days d <;> simp
theorem qcy (p : S45) (h : s102 p = 0) : s104 p = dayL p.Days (p.fTo + 1 - p.fFrom).toNat p.fFrom := by
 obtain ⟨q1, q2, q3, q4, q5, q6⟩ := period_ok p h;unfold s104;rw [qi8 p q5 q6 q1 q3 _ _ _ (Int.le_refl _) rfl]; rfl
theorem vu (m : Int) : ∀ (n : Nat) (f : Int), ∀ d ∈ dayL m n f, f ≤ d ∧ d < f + n
 | 0, f, d, h => by simp [dayL] at h
 | n + 1, f, d, h => by
  unfold dayL at h
  split at h
  ·rcases List.mem_cons.1 h with rfl | h
   ·omega
   ·have := vu m n _ d h; omega
  ·have := vu m n _ d h; omega
def lenL : List Int := [31, 28, 31, 30, 31, 30, 31, 31, 30, 31, 30, 31]
theorem qum (n : Int) : -9223372036854775808 ≤ IntKind.i64.wrap n ∧ IntKind.i64.wrap n ≤ 9223372036854775807 := by rw [IntKind.wrap_i64]; omega
end Go.Sim
set_option maxRecDepth 10000
namespace Go.Sim
open Go.Proofs
def s248 (a0 : Int) : Bool :=
 (decide (Int.tmod a0 4 = 0)) && ((decide (Int.tmod a0 100 ≠ 0)) || (decide (Int.tmod a0 400 = 0)))
theorem c248 {g : List (Nat × List Value)} (a0 : Int)    : Con (EG g) 254 [G.int a0] (G.bool (s248 a0)) := by
 generalize hR : s248 a0 = R;unfold s248 at hR;refine qn Tryz.func254 rfl rfl fun w0 M0 => ?_;refine qb ?_;refine qa [.p] ?_;refine sa rfl rfl ?_;refine qc ?_;refine qb ?_;refine qa [.p, .p, .p, .p, .p, .p, .p, .p, .p, .p, .p, .p, .p, .p] ?_;refine sm rfl rfl ?_;refine su (qb1 rfl rfl rfl (by decide)) rfl ?_;refine su (j9 rfl rfl rfl) rfl ?_;refine sm rfl rfl ?_;refine sg rfl rfl (fun h => qk rfl rfl) rfl ?_;refine sg rfl rfl (fun h => qb1 rfl (gd h rfl) rfl (by decide)) rfl ?_;refine sg rfl rfl (fun h => zu rfl (gd h rfl) rfl) rfl ?_;refine sg rfl rfl (fun h => qk rfl (gd h rfl)) rfl ?_;refine st_g rfl rfl rfl (je _ _ _) (fun h => qk rfl rfl) rfl ?_;refine st_g rfl rfl rfl (je _ _ _) (fun h => qb1 rfl (gd h rfl) rfl (by decide)) rfl ?_;refine st_g rfl rfl rfl (je _ _ _) (fun h => j9 rfl (gd h rfl) rfl) rfl ?_;refine sg rfl rfl (fun h => jr rfl (gd h rfl) rfl (gd2 h rfl)) rfl ?_;refine su (zl rfl rfl rfl rfl) rfl ?_;refine sa rfl rfl ?_;refine qc ?_;refine qo ?_;subst hR;exact za rfl (rv_g rfl)
def s223 (a0 : Int) (a1 : Int) : Option Int :=
 (bif (decide (a1 = 2)) && (s248 a0) then bindO (ixO lenL 1) fun y1 => some (IntKind.i64.wrap (y1 + 1)) else bindO (ixO lenL (IntKind.i64.wrap (a1 - 1))) fun y2 => some y2)
theorem c223 (a0 : Int) (a1 : Int) {R : Int}   (hR : s223 a0 a1 = some R) : Con (EG glT) 208 [G.int a0, G.int a1] (G.int R) := by
 unfold s223 at hR;refine qn Tryz.func208 rfl rfl fun w0 M0 => ?_;refine qb ?_;refine qa [.p] ?_;refine sa rfl rfl ?_;refine qc ?_;refine qb ?_;refine qb ?_;refine qa [.p, .p, .p, .p, .p, .p] ?_;refine sm rfl rfl ?_;refine su (j9 rfl rfl rfl) rfl ?_;refine sm rfl rfl ?_;refine sg rfl rfl (fun h => qk rfl rfl) rfl ?_;refine sg rfl rfl (fun h => qf rfl K248 rfl (c248 a0) (qe (gd h rfl) qi)) rfl ?_;refine su (zl rfl rfl rfl rfl) rfl ?_;refine qc ?_;refine qh _ rfl (fun h1 => ?_) (fun h1 => ?_)
 ·replace h1 : ((decide (a1 = 2)) && (s248 a0)) = true := h1;replace hR := zf hR h1;(try simp only [bB] at h1);refine qb ?_;obtain ⟨y1, by1, hR⟩ := qj hR;refine qa [.p, .p, .p, .p] ?_;refine su (qip (f := cInt) (l := lenL) rfl Tryz.underlying321 ty3 rfl rfl (fun _ => rfl) rfl rfl (jd by1) (qv by1)) rfl ?_;refine su (qg rfl ty3 rfl) rfl ?_;refine su (jx rfl rfl rfl) rfl ?_;refine sa rfl rfl ?_;refine qc ?_;refine qo ?_;obtain rfl := Option.some.inj hR;exact za rfl (rv_g rfl)
 ·replace h1 : ((decide (a1 = 2)) && (s248 a0)) = false := h1;replace hR := zi hR h1;(try simp only [bB] at h1);refine ql ?_;refine qb ?_;obtain ⟨y2, by2, hR⟩ := qj hR;refine qa [.p, .p, .p, .p, .p] ?_;refine sm rfl rfl ?_;refine su (kr rfl rfl rfl) rfl ?_;refine su (qip (f := cInt) (l := lenL) rfl Tryz.underlying321 ty3 rfl rfl (fun _ => rfl) rfl rfl (jd by2) (qv by2)) rfl ?_;refine su (qg rfl ty3 rfl) rfl ?_;refine sa rfl rfl ?_;refine qc ?_;refine qo ?_;obtain rfl := Option.some.inj hR;exact za rfl (rv_g rfl)
def s222 (a0 : Int) : Int :=
 (bif (s248 a0) then 366 else 365)
theorem c222 {g : List (Nat × List Value)} (a0 : Int)    : Con (EG g) 207 [G.int a0] (G.int (s222 a0)) := by
 generalize hR : s222 a0 = R;unfold s222 at hR;refine qn Tryz.func207 rfl rfl fun w0 M0 => ?_;refine qb ?_;refine qa [.p] ?_;refine sa rfl rfl ?_;refine qc ?_;refine qb ?_;refine qb ?_;refine qa [.p, .p] ?_;refine sm rfl rfl ?_;refine su (qf rfl K248 rfl (c248 a0) (qe rfl qi)) rfl ?_;refine qc ?_;refine qh _ rfl (fun h1 => ?_) (fun h1 => ?_)
 ·replace h1 : ((s248 a0)) = true := h1;replace hR := zf hR h1;(try simp only [bB] at h1);refine qb ?_;refine qa [.p] ?_;refine sa rfl rfl ?_;refine qc ?_;refine qo ?_;subst hR;exact za rfl (rv_g rfl)
 ·replace h1 : ((s248 a0)) = false := h1;replace hR := zi hR h1;(try simp only [bB] at h1);refine ql ?_;refine qb ?_;refine qa [.p] ?_;refine sa rfl rfl ?_;refine qc ?_;refine qo ?_;subst hR;exact za rfl (rv_g rfl)
def s221_l2 (a0 : Int) : Nat → Int → Int → Option Int
 | 0, x5, x6 => some x5
 | k8 + 1, x5, x6 => bindO (s223 a0 x6) fun r9 => s221_l2 a0 k8 (IntKind.i64.wrap (x5 + r9)) (x6 + 1)
def s221_l1 (a0 : Int) (a1 : Int) : Nat → Int → Int → Option Int
 | 0, x1, x2 => s221_l2 a0 ((a1 - 1).toNat) x1 1
 | k4 + 1, x1, x2 => s221_l1 a0 a1 k4 (IntKind.i64.wrap (x1 + (s222 (IntKind.i64.wrap (2000 + x2))))) (x2 + 1)
def s221 (a0 : Int) (a1 : Int) (a2 : Int) : Option Int :=
 s221_l1 a0 a1 (((IntKind.i64.wrap (a0 - 2000)) - 0).toNat) (IntKind.i64.wrap (a2 - 1)) 0
theorem c221 (a0 : Int) (a1 : Int) (a2 : Int) {R : Int}  (hm : a1 ≤ 12) (hR : s221 a0 a1 a2 = some R) : Con (EG glT) 209 [G.int a0, G.int a1, G.int a2] (G.int R) := by
 unfold s221 at hR;refine qn Tryz.func209 rfl rfl fun w0 M0 => ?_;have hw := qum (a0 - 2000);refine qb ?_;refine qa [.p] ?_;refine sa rfl rfl ?_;refine qc ?_;refine qb ?_;refine qa [.p, .p, .p] ?_;refine sm rfl rfl ?_;refine su (kr rfl rfl rfl) rfl ?_;refine sa rfl rfl ?_;refine qc ?_;refine qb ?_;refine qb ?_;refine qa [.p, .p, .p] ?_;refine sm rfl rfl ?_;refine su (kr rfl rfl rfl) rfl ?_;refine sm rfl rfl ?_;refine qc ?_;refine qm ?_;refine qr (γ := Nat × Int × Int) (fun g => ([(0, .g (G.int a0)), (1, .g (G.int a1)), (7, .g (G.int g.2.1)), (13, .g (G.int (IntKind.i64.wrap (a0 - 2000)))), (14, .g (G.int g.2.2))], [])) (fun g => g.1 = ((IntKind.i64.wrap (a0 - 2000)) - g.2.2).toNat ∧ 0 ≤ g.2.2 ∧ s221_l1 a0 a1 g.1 g.2.1 g.2.2 = some R) (fun g => g.1) ⟨rfl, (((IntKind.i64.wrap (a0 - 2000)) - 0).toNat, IntKind.i64.wrap (a2 - 1), 0), ⟨rfl, rfl, rfl, rfl, rfl, trivial⟩, trivial, rfl, ⟨rfl, iD, hR⟩, trivial⟩ ?_
 ·rintro ⟨k4, x1, x2⟩ ⟨hk1, iv1_0, hR⟩;replace hk1 : k4 = ((IntKind.i64.wrap (a0 - 2000)) - x2).toNat := hk1;replace hR : s221_l1 a0 a1 k4 x1 x2 = some R := hR;replace iv1_0 : 0 ≤ x2 := iv1_0;refine qb ?_;refine qa [.p] ?_;refine su (qx rfl rfl rfl) rfl ?_;refine qc ?_;refine qb ?_;refine qh _ rfl (fun h1 => ?_) (fun h1 => ?_)
  ·replace h1 : (decide (x2 < IntKind.i64.wrap (a0 - 2000))) = true := h1;replace h1 := decT h1;obtain ⟨k4, rfl⟩ : ∃ m, k4 = m + 1 := ⟨k4 - 1, by omega⟩;rw [s221_l1] at hR;(try dsimp only at hR);refine ql ?_;refine qb ?_;refine qm ?_;refine qb ?_;refine qa [.p, .p] ?_;refine sm rfl rfl ?_;refine sa rfl rfl ?_;refine qc ?_;refine qa [.p, .p, .p, .p, .p, .p] ?_;refine sm rfl rfl ?_;refine sm rfl rfl ?_;refine su (jx rfl rfl rfl) rfl ?_;refine su (qf rfl K222 rfl (c222 (IntKind.i64.wrap (2000 + x2))) (qe rfl qi)) rfl ?_;refine su (jx rfl rfl rfl) rfl ?_;refine sa rfl rfl ?_;refine qc ?_;refine qa [.p, .p] ?_;refine su (zg rfl rfl rfl iG) rfl ?_;refine sm rfl rfl ?_;refine qc ?_;exact ⟨rfl, (k4, IntKind.i64.wrap (x1 + (s222 (IntKind.i64.wrap (2000 + x2)))), x2 + 1), ⟨rfl, rfl, rfl, rfl, rfl, trivial⟩, trivial, rfl, ⟨iB, iB, hR⟩, by simp⟩
  ·replace h1 : (decide (x2 < IntKind.i64.wrap (a0 - 2000))) = false := h1;replace h1 := decF h1
   obtain rfl : k4 = 0 := by omega
   rw [s221_l1] at hR;refine zc ?_;refine qb ?_;refine qb ?_;refine qa [.p] ?_;refine sa rfl rfl ?_;refine qc ?_;refine qm ?_;refine qr (γ := Nat × Int × Int) (fun g => ([(0, .g (G.int a0)), (1, .g (G.int a1)), (7, .g (G.int g.2.1)), (9, .g (G.int g.2.2))], [])) (fun g => g.1 = (a1 - g.2.2).toNat ∧ 1 ≤ g.2.2 ∧ s221_l2 a0 g.1 g.2.1 g.2.2 = some R) (fun g => g.1) ⟨rfl, ((a1 - 1).toNat, x1, 1), ⟨rfl, rfl, rfl, rfl, trivial⟩, trivial, rfl, ⟨rfl, iD, hR⟩, trivial⟩ ?_
   ·rintro ⟨k8, x5, x6⟩ ⟨hk2, iv2_0, hR⟩;replace hk2 : k8 = (a1 - x6).toNat := hk2;replace hR : s221_l2 a0 k8 x5 x6 = some R := hR;replace iv2_0 : 1 ≤ x6 := iv2_0;refine qb ?_;refine qb ?_;refine qa [.p, .p, .p] ?_;refine sm rfl rfl ?_;refine sm rfl rfl ?_;refine su (qx rfl rfl rfl) rfl ?_;refine qc ?_;refine qh _ rfl (fun h3 => ?_) (fun h3 => ?_)
    ·replace h3 : (decide (x6 < a1)) = true := h3;replace h3 := decT h3;obtain ⟨k8, rfl⟩ : ∃ m, k8 = m + 1 := ⟨k8 - 1, by omega⟩;rw [s221_l2] at hR;(try dsimp only at hR);refine ql ?_;refine qb ?_;refine qm ?_;obtain ⟨r9, br9, hR⟩ := qj hR;refine qa [.p, .p, .p, .p, .p, .p] ?_;refine sm rfl rfl ?_;refine sm rfl rfl ?_;refine sm rfl rfl ?_;refine su (qf rfl K223 rfl (c223 a0 x6 br9) (qe rfl (qe rfl qi))) rfl ?_;refine su (jx rfl rfl rfl) rfl ?_;refine sa rfl rfl ?_;refine qc ?_;refine qa [.p, .p, .p] ?_;refine sm rfl rfl ?_;refine su (zg rfl rfl rfl iG) rfl ?_;refine sa rfl rfl ?_;refine qc ?_;exact ⟨rfl, (k8, IntKind.i64.wrap (x5 + r9), x6 + 1), ⟨rfl, rfl, rfl, rfl, trivial⟩, trivial, rfl, ⟨iB, iB, hR⟩, by simp⟩
    ·replace h3 : (decide (x6 < a1)) = false := h3;replace h3 := decF h3
     obtain rfl : k8 = 0 := by omega
     rw [s221_l2] at hR;refine zc ?_;refine qb ?_;refine qa [.p, .p] ?_;refine sm rfl rfl ?_;refine sa rfl rfl ?_;refine qc ?_;refine qo ?_;obtain rfl := Option.some.inj hR;exact za rfl (rv_g rfl)
def s189 (a0 : Int) (a1 : Int) : Option Int :=
 bindO (s221 a0 a1 31) fun r1 => some (IntKind.i64.wrap (r1 - (Int.tmod (IntKind.i64.wrap ((IntKind.i64.wrap ((s188 r1) + 7)) - 6)) 7)))
theorem c189 (a0 : Int) (a1 : Int) {R : Int}  (hm : a1 ≤ 12) (hR : s189 a0 a1 = some R) : Con (EG glT) 158 [G.int a0, G.int a1] (G.int R) := by
 unfold s189 at hR;refine qn Tryz.func158 rfl rfl fun w0 M0 => ?_;refine qb ?_;refine qa [.p] ?_;refine sa rfl rfl ?_;refine qc ?_;refine qb ?_;obtain ⟨r1, br1, hR⟩ := qj hR;refine qa [.p, .p, .p, .p] ?_;refine sm rfl rfl ?_;refine sm rfl rfl ?_;refine su (qf rfl K221 rfl (c221 a0 a1 31 iA br1) (qe rfl (qe rfl (qe rfl qi)))) rfl ?_;refine sa rfl rfl ?_;refine qc ?_;refine qb ?_;refine qa [.p, .p, .p, .p, .p, .p, .p, .p] ?_;refine sm rfl rfl ?_;refine sm rfl rfl ?_;refine su (qf rfl K188 rfl (c188 r1) (qe rfl qi)) rfl ?_;refine su (jx rfl rfl rfl) rfl ?_;refine su (kr rfl rfl rfl) rfl ?_;refine su (qb1 rfl rfl rfl (by decide)) rfl ?_;refine su (kr rfl rfl rfl) rfl ?_;refine sa rfl rfl ?_;refine qc ?_;refine qo ?_;obtain rfl := Option.some.inj hR;exact za rfl (rv_g rfl)
def s138 (a0 : S67) : Option Int :=
 (bif decide (a0.Kind = (⟨#[83]⟩)) then bindO (s189 a0.Year 3) fun r1 => some r1 else bindO (s189 a0.Year 10) fun r2 => some r2)
theorem c138 (a0 : S67) {R : Int}   (hR : s138 a0 = some R) : Con (EG glT) 154 [G.agg [G.int a0.Year, G.str a0.Kind]] (G.int R) := by
 unfold s138 at hR;refine qn Tryz.func154 rfl rfl fun w0 M0 => ?_;refine qb ?_;refine qa [.p, .p] ?_;refine su (zp rfl rfl) rfl ?_;refine sa rfl rfl ?_;refine qc ?_;refine qb ?_;refine qb ?_;refine qa [.p, .p, .p] ?_;refine su (qd rfl qc4 rfl) rfl ?_;refine su (qg rfl ty9 rfl) rfl ?_;refine su (kq rfl rfl rfl) rfl ?_;refine qc ?_;refine qh _ rfl (fun h1 => ?_) (fun h1 => ?_)
 ·replace h1 : (decide (a0.Kind = (⟨#[83]⟩))) = true := h1;replace hR := zf hR h1;(try simp only [bB] at h1);refine qb ?_;obtain ⟨r1, br1, hR⟩ := qj hR;refine qa [.p, .p, .p, .p] ?_;refine su (qd rfl qhj rfl) rfl ?_;refine su (qg rfl ty3 rfl) rfl ?_;refine su (qf rfl K189 rfl (c189 a0.Year 3 iA br1) (qe rfl (qe rfl qi))) rfl ?_;refine sa rfl rfl ?_;refine qc ?_;refine qo ?_;obtain rfl := Option.some.inj hR;exact za rfl (rv_g rfl)
 ·replace h1 : (decide (a0.Kind = (⟨#[83]⟩))) = false := h1;replace hR := zi hR h1;(try simp only [bB] at h1);refine ql ?_;refine qb ?_;obtain ⟨r2, br2, hR⟩ := qj hR;refine qa [.p, .p, .p, .p] ?_;refine su (qd rfl qhj rfl) rfl ?_;refine su (qg rfl ty3 rfl) rfl ?_;refine su (qf rfl K189 rfl (c189 a0.Year 10 iA br2) (qe rfl (qe rfl qi))) rfl ?_;refine sa rfl rfl ?_;refine qc ?_;refine qo ?_;obtain rfl := Option.some.inj hR;exact za rfl (rv_g rfl)
def s139 (a0 : S67) : S67 :=
 (bif decide (a0.Kind = (⟨#[83]⟩)) then (S67.mk a0.Year (⟨#[87]⟩)) else (S67.mk (IntKind.i64.wrap (a0.Year + 1)) (⟨#[83]⟩)))
theorem c139 {g : List (Nat × List Value)} (a0 : S67)    : Con (EG g) 156 [G.agg [G.int a0.Year, G.str a0.Kind]] (G.agg [G.int ((s139 a0).Year), G.str ((s139 a0).Kind)]) := by
 generalize hR : s139 a0 = R;unfold s139 at hR;refine qn Tryz.func156 rfl rfl fun w0 M0 => ?_;refine qb ?_;refine qa [.p, .w] ?_;refine su (zp rfl rfl) rfl ?_;refine sw (zr 2 rfl z68 rfl rfl) rfl ?_;refine qc ?_;refine qb ?_;refine qb ?_;refine qa [.p, .p, .p] ?_;refine su (qd rfl qc4 rfl) rfl ?_;refine su (qg rfl ty9 rfl) rfl ?_;refine su (kq rfl rfl rfl) rfl ?_;refine qc ?_;refine qh _ rfl (fun h1 => ?_) (fun h1 => ?_)
 ·replace h1 : (decide (a0.Kind = (⟨#[83]⟩))) = true := h1;replace hR := zf hR h1;(try simp only [bB] at h1);refine qb ?_;refine qa [.p, .p, .p, .w] ?_;refine su (qd rfl qhj rfl) rfl ?_;refine su (qg rfl ty3 rfl) rfl ?_;refine su (jy rfl z68 rfl pl68 (zx rfl (zx rfl vy)) rfl) rfl ?_;refine ji rfl rfl (qy (tv := .g (G.agg [G.int a0.Year, G.str (⟨#[87]⟩)])) rfl ty68 rfl rfl rfl rfl rfl) ?_;refine qc ?_;refine qo ?_;subst hR;exact za rfl (xi rfl rfl ty68 rfl rfl)
 ·replace h1 : (decide (a0.Kind = (⟨#[83]⟩))) = false := h1;replace hR := zi hR h1;(try simp only [bB] at h1);refine ql ?_;refine qb ?_;refine qa [.p, .p, .p, .p, .w] ?_;refine su (qd rfl qhj rfl) rfl ?_;refine su (qg rfl ty3 rfl) rfl ?_;refine su (jx rfl rfl rfl) rfl ?_;refine su (jy rfl z68 rfl pl68 (zx rfl (zx rfl vy)) rfl) rfl ?_;refine ji rfl rfl (qy (tv := .g (G.agg [G.int (IntKind.i64.wrap (a0.Year + 1)), G.str (⟨#[83]⟩)])) rfl ty68 rfl rfl rfl rfl rfl) ?_;refine qc ?_;refine qo ?_;subst hR;exact za rfl (xi rfl rfl ty68 rfl rfl)
def s193  : S67 :=
 (S67.mk 2000 (⟨#[83]⟩))
theorem c193 {g : List (Nat × List Value)}     : Con (EG g) 153 [] (G.agg [G.int s193.Year, G.str s193.Kind]) := by
 generalize hR : s193  = R;unfold s193 at hR;refine qn Tryz.func153 rfl rfl fun w0 M0 => ?_;refine qb ?_;refine qa [.w] ?_;refine sw (zr 0 rfl z68 rfl rfl) rfl ?_;refine qc ?_;refine qb ?_;refine qa [.p, .w] ?_;refine su (jy rfl z68 rfl pl68 (zx rfl (zx rfl vy)) rfl) rfl ?_;refine ji rfl rfl (qy (tv := .g (G.agg [G.int 2000, G.str (⟨#[83]⟩)])) rfl ty68 rfl rfl rfl rfl rfl) ?_;refine qc ?_;refine qo ?_;subst hR;exact za rfl (xi rfl rfl ty68 rfl rfl)
def s194  : S67 :=
 (S67.mk 2272 (⟨#[87]⟩))
theorem c194 {g : List (Nat × List Value)}     : Con (EG g) 155 [] (G.agg [G.int s194.Year, G.str s194.Kind]) := by
 generalize hR : s194  = R;unfold s194 at hR;refine qn Tryz.func155 rfl rfl fun w0 M0 => ?_;refine qb ?_;refine qa [.w] ?_;refine sw (zr 0 rfl z68 rfl rfl) rfl ?_;refine qc ?_;refine qb ?_;refine qa [.p, .w] ?_;refine su (jy rfl z68 rfl pl68 (zx rfl (zx rfl vy)) rfl) rfl ?_;refine ji rfl rfl (qy (tv := .g (G.agg [G.int 2272, G.str (⟨#[87]⟩)])) rfl ty68 rfl rfl rfl rfl rfl) ?_;refine qc ?_;refine qo ?_;subst hR;exact za rfl (xi rfl rfl ty68 rfl rfl)
def s196 (a0 : Int) : Int :=
 IntKind.i64.wrap (Int.tdiv (IntKind.i64.wrap (a0 + 5)) 7)
theorem c196 {g : List (Nat × List Value)} (a0 : Int)    : Con (EG g) 159 [G.int a0] (G.int (s196 a0)) := by
 generalize hR : s196 a0 = R;unfold s196 at hR;refine qn Tryz.func159 rfl rfl fun w0 M0 => ?_;refine qb ?_;refine qa [.p] ?_;refine sa rfl rfl ?_;refine qc ?_;refine qb ?_;refine qa [.p, .p, .p, .p] ?_;refine sm rfl rfl ?_;refine su (jx rfl rfl rfl) rfl ?_;refine su (qgy rfl rfl rfl (by decide)) rfl ?_;refine sa rfl rfl ?_;refine qc ?_;refine qo ?_;subst hR;exact za rfl (rv_g rfl)
def s107 (a0 : S67) : Int :=
 (s152 [(s155 a0.Year 2000 2272), (s154 ((!decide (a0.Kind = (⟨#[83]⟩))) && (!decide (a0.Kind = (⟨#[87]⟩)))) 13)])
theorem c107 {g : List (Nat × List Value)} (a0 : S67)    : Con (EG g) 41 [G.agg [G.int a0.Year, G.str a0.Kind]] (G.int (s107 a0)) := by
 generalize hR : s107 a0 = R;unfold s107 at hR;refine qn Tryz.func41 rfl rfl fun w0 M0 => ?_;refine qb ?_;refine qa [.p, .p] ?_;refine su (zp rfl rfl) rfl ?_;refine sa rfl rfl ?_;refine qc ?_;refine qb ?_;refine jf [.p, .p, .p, .p, .p, .p, .p, .p, .p, .p, .p, .p, .p, .p, .p] (by kernel_rfl) ?_;refine su (qd rfl qhj rfl) rfl ?_;refine su (qg rfl ty3 rfl) rfl ?_;refine su (qf rfl K155 rfl (c155 a0.Year 2000 2272) (qe rfl (qe rfl (qe rfl qi)))) rfl ?_;refine su (qd rfl qc4 rfl) rfl ?_;refine su (qg rfl ty9 rfl) rfl ?_;refine su (kw rfl rfl rfl) rfl ?_;refine sm rfl rfl ?_;refine sg rfl rfl (fun h => qd rfl qc4 rfl) rfl ?_;refine sg rfl rfl (fun h => qg rfl ty9 (gd h rfl)) rfl ?_;refine sg rfl rfl (fun h => kw rfl (gd h rfl) rfl) rfl ?_;refine su (zl rfl rfl rfl rfl) rfl ?_;refine su (qf rfl K154 rfl (c154 ((!decide (a0.Kind = (⟨#[83]⟩))) && (!decide (a0.Kind = (⟨#[87]⟩)))) 13) (qe rfl (qe rfl qi))) rfl ?_;refine su (qq rfl Tryz.underlying156 ty37 z37 rfl (qu rfl (qu rfl j5)) rfl (by simp []) (by decide)) rfl ?_;refine su (qf rfl K152 rfl (c152 [(s155 a0.Year 2000 2272), (s154 ((!decide (a0.Kind = (⟨#[83]⟩))) && (!decide (a0.Kind = (⟨#[87]⟩)))) 13)]) (qe rfl qi)) rfl ?_;refine sa rfl rfl ?_;refine qc ?_;refine qo ?_;subst hR;exact za rfl (rv_g rfl)
def s41_j1  (x1 : Int) : Int :=
 x1
def s41 (a0 : S67) : Int :=
 (bif ((decide ((s90 a0.Year 2000 2272) = 0)) && (!decide (a0.Kind = (⟨#[83]⟩)))) && (!decide (a0.Kind = (⟨#[87]⟩))) then s41_j1 13 else s41_j1 (s90 a0.Year 2000 2272))
theorem c41 {g : List (Nat × List Value)} (a0 : S67)    : Con (EG g) 6 [G.agg [G.int a0.Year, G.str a0.Kind]] (G.int (s41 a0)) := by
 generalize hR : s41 a0 = R;unfold s41 at hR;refine qn Tryz.func6 rfl rfl fun w0 M0 => ?_;refine qb ?_;refine qa [.p, .p] ?_;refine su (zp rfl rfl) rfl ?_;refine sa rfl rfl ?_;refine qc ?_;refine qb ?_;refine qa [.p, .p, .p, .p] ?_;refine su (qd rfl qz5 rfl) rfl ?_;refine su (qg rfl ty3 rfl) rfl ?_;refine su (qf rfl K90 rfl (c90 a0.Year 2000 2272) (qe rfl (qe rfl (qe rfl qi)))) rfl ?_;refine sa rfl rfl ?_;refine qc ?_;refine j6 (γ := Int) (fun g => ([(3, .g (G.int g))], [])) (fun g => s41_j1 g = R) ?_ ?_
 ·refine qb ?_;refine qa [.p, .p, .p, .p, .p, .p, .p, .p, .p, .p, .p, .p] ?_;refine sm rfl rfl ?_;refine su (j9 rfl rfl rfl) rfl ?_;refine sm rfl rfl ?_;refine sg rfl rfl (fun h => qd rfl qu7 rfl) rfl ?_;refine sg rfl rfl (fun h => qg rfl ty9 (gd h rfl)) rfl ?_;refine sg rfl rfl (fun h => kw rfl (gd h rfl) rfl) rfl ?_;refine su (zl rfl rfl rfl rfl) rfl ?_;refine sm rfl rfl ?_;refine sg rfl rfl (fun h => qd rfl qu7 rfl) rfl ?_;refine sg rfl rfl (fun h => qg rfl ty9 (gd h rfl)) rfl ?_;refine sg rfl rfl (fun h => kw rfl (gd h rfl) rfl) rfl ?_;refine su (zl rfl rfl rfl rfl) rfl ?_;refine qc ?_;refine qh _ rfl (fun h1 => ?_) (fun h1 => ?_)
  ·replace h1 : (((decide ((s90 a0.Year 2000 2272) = 0)) && (!decide (a0.Kind = (⟨#[83]⟩)))) && (!decide (a0.Kind = (⟨#[87]⟩)))) = true := h1;replace hR := zf hR h1;(try simp only [bB] at h1);refine qa [.p] ?_;refine sa rfl rfl ?_;refine qc ?_;exact ⟨rfl, 13, ⟨rfl, trivial⟩, trivial, rfl, hR, trivial⟩
  ·replace h1 : (((decide ((s90 a0.Year 2000 2272) = 0)) && (!decide (a0.Kind = (⟨#[83]⟩)))) && (!decide (a0.Kind = (⟨#[87]⟩)))) = false := h1;replace hR := zi hR h1;(try simp only [bB] at h1);refine ql ?_;exact ⟨rfl, (s90 a0.Year 2000 2272), ⟨rfl, trivial⟩, trivial, rfl, hR, trivial⟩
 ·rintro x1 hR;replace hR : s41_j1 x1 = R := hR;unfold s41_j1 at hR;refine qb ?_;refine qa [.p, .p] ?_;refine sm rfl rfl ?_;refine sa rfl rfl ?_;refine qc ?_;refine qo ?_;subst hR;exact za rfl (rv_g rfl)
theorem qeo {x : Int} (h : 0 ≤ x) (h' : x ≤ 1000000000) : s180 x = (x + 5) % 7 := by
 unfold s180;rw [wrap_i64 ⟨by omega, by omega⟩, Int.tmod_eq_emod_of_nonneg (by omega)]
theorem qun (y : Int) : 365 ≤ s222 y ∧ s222 y ≤ 366 := by
 unfold s222; cases s248 y <;> decide
theorem qcf (y : Int) : 365 ≤ s198 y ∧ s198 y ≤ 366 := by
 unfold s198; cases s224 y <;> decide
theorem qs8 (y m : Int) : 28 ≤ s199 y m ∧ s199 y m ≤ 31 := by
 unfold s199
 cases decide (m = 2)
 ·rw [cond_false]; cases (((decide (m = 4)) || (decide (m = 6))) || (decide (m = 9))) || (decide (m = 11)) <;> decide
 ·rw [cond_true]; cases s224 y <;> decide
theorem qmc {i x : Int} (h : ixO lenL i = some x) : 28 ≤ x ∧ x ≤ 31 := by
 have h1 := qv h;have h2 := List.mem_of_getElem? h1;unfold lenL at h2;simp only [List.mem_cons, List.not_mem_nil, or_false] at h2
 omega
theorem qup {y m r : Int} (h : s223 y m = some r) : 28 ≤ r ∧ r ≤ 32 := by
 unfold s223 at h
 cases hc : (decide (m = 2)) && (s248 y)
 ·rw [hc, cond_false] at h;obtain ⟨z, h1, h⟩ := qj h
  cases h
  have := qmc h1
  omega
 ·rw [hc, cond_true] at h;obtain ⟨z, h1, h⟩ := qj h;have := qmc h1
  cases h
  rw [wrap_i64 ⟨by omega, by omega⟩]
  omega
section
variable {E : Env}
theorem vo {o : Oper} {ev : Operand → TV} {t el : TypeId} {x ix : Operand} {k N id p : Nat} {b : Bool} {kk : IntKind} {n : Int} (ho : o.op = .indexAddr t x ix) (ht : E.P.underlying t = some (.array N el)) (he : tyK E.P el = some (k + 1, b))
  (hx : ev x = .ptr id p) (hi : ev ix = .g (.lit (.int kk n))) (h0 : 0 ≤ n) (hn : n < (N : Int)) (mem : Mem) : Eff E o mem ev (.ptr id (p + n.toNat * (k + 1))) :=
 zy (fun w M ρ e hev => by
  have h1 := hev x (by rw [ho]; simp [Op.operands]);rw [hx] at h1;have h2 := hev ix (by rw [ho]; simp [Op.operands]);rw [hi] at h2;have h2' : e ix = .int kk n := h2;obtain ⟨ow, h3, h4⟩ := h1;refine ⟨.pointer (some ⟨ow.b, ow.o + p + n.toNat * (k + 1), none⟩), ?_, ow, h3, by rw [Nat.add_assoc]⟩
  simp [execOp, ho, h4, h2', Instr.indexAt, asIntOf, underlying, ht, Instr.sureAddr, run_sizeOf he, h0, hn, Addr.add_lit]) mem
theorem qzk {o : Oper} {ev : Operand → TV} {t el : TypeId} {x ix : Operand} {N : Nat} {kk : IntKind} {n : Int} {cs : List G} {c : G} (ho : o.op = .index t x ix) (ht : E.P.underlying t = some (.array N el)) (he : tyK E.P el = some (1, false))
  (hx : ev x = .g (.agg cs)) (hi : ev ix = .g (.lit (.int kk n))) (h0 : 0 ≤ n) (hn : n < (N : Int)) (hc : cs[n.toNat]? = some c) (mem : Mem) : Eff E o mem ev (.g c) :=
 zy (fun w M ρ e he' => by
  have h1 := he' x (by rw [ho]; simp [Op.operands]);rw [hx] at h1;have h9 := he' ix (by rw [ho]; simp [Op.operands]);rw [hi] at h9;have h9' : e ix = .int kk n := h9;obtain ⟨vs, h2, h3⟩ := h1;obtain ⟨v, h4, h5, _⟩ := Fits.get n.toNat h3 hc;refine ⟨v, ?_, h5⟩
  simp [execOp, ho, h2, h9', Instr.index, underlying, ht, asIntOf, part, jh he, run_sizeOf he, h0, hn, h4]) mem
theorem qnt {o : Oper} {ev : Operand → TV} {t el : TypeId} {N k : Nat} {b : Bool} {ps : Array (Nat × Operand)} {qs : List (Nat × List G)} {zs : List Value} {out : List G} (ho : o.op = .build t ps)
  (hz : zeroK E.P t = some zs) (hz1 : zs.all Value.oneCell' = true) (ht : E.P.underlying t = some (.array N el)) (hel : tyK E.P el = some (k, b)) (hq : PartsG ev ps.toList qs) (hf : fillG (fun i => some (i * k, k)) (zs.map G.lit) qs = some out) (mem : Mem) : Eff E o mem ev (.g (.agg out)) :=
 zy (fun w M ρ e he => by
  obtain ⟨ie, hie, hsz⟩ : ∃ ie, E.P.info? el = some ie ∧ ie.size = k := by
   unfold tyK at hel
   cases h : E.P.info? el with
   | none => simp [h] at hel
   | some ie =>
    cases hd : E.P.underlying el with
    | none => simp [h, hd] at hel
    | some d => simp [h, hd] at hel; exact ⟨ie, rfl, hel.1⟩
  unfold zeroK at hz
  cases hi : E.P.info? t with
  | none => simp [hi] at hz
  | some it =>
   cases hzz : it.zero with
   | none => simp [hi, hzz] at hz
   | some z =>
    simp [hi, hzz] at hz
    have hlits : Fits w M (zs.map G.lit) z.cells.toList := by rw [hz]; exact fits_lits (by simpa using hz1)
    have hx : ∀ p ∈ ps.toList, TRel w M ρ (ev p.2) (e p.2) := fun p hp => he p.2 (by rw [ho]; simp [Op.operands]; exact ⟨p.1, by simpa using hp⟩);obtain ⟨vout, h1, h2⟩ := qb5 (vcells := z.cells) hq hx hlits hf;refine ⟨.agg vout, ?_, vout.toList, by simp, h2⟩
    have hb : E.P.built t (ps.map fun (i, x) => (i, e x)).toList = some vout := by
     unfold Program.built;simp only [hi, ht, hzz, hie, hsz];rw [Array.toList_map];exact h1
    have := run_build (P := E.P) w t (ps.map fun (i, x) => (i, e x)) vout hb;simp only [execOp, ho];rw [Sem.run_bind, this]
    rfl) mem
end
end Go.Sim
set_option maxRecDepth 10000
namespace Go.Sim
open Go.Proofs
def s195_l2 (x2 : Int) : Nat → Int → Int → Option (Int × Int × Int)
 | 0, _, _ => none
 | k6 + 1, x4, x5 => bindO (s223 x2 x5) fun r7 => (bif decide (r7 ≤ x4) then bindO (s223 x2 x5) fun r8 => s195_l2 x2 k6 (IntKind.i64.wrap (x4 - r8)) (IntKind.i64.wrap (x5 + 1)) else some (x2, x5, IntKind.i64.wrap (1 + x4)))
def s195_l1  : Nat → Int → Int → Option (Int × Int × Int)
 | 0, _, _ => none
 | k3 + 1, x1, x2 => (bif decide ((s222 x2) ≤ x1) then s195_l1 k3 (IntKind.i64.wrap (x1 - (s222 x2))) (IntKind.i64.wrap (x2 + 1)) else s195_l2 x2 ((x1.toNat) + 1) x1 1)
def s195 (a0 : Int) : Option (Int × Int × Int) :=
 s195_l1 ((a0.toNat) + 1) a0 2000
theorem c195 (a0 : Int) {R : Int × Int × Int}  (h0 : 0 ≤ a0) (h1 : a0 ≤ 1000000000) (hR : s195 a0 = some R) : Con (EG glT) 157 [G.int a0] (G.agg [G.int R.1, G.int R.2.1, G.int R.2.2]) := by
 unfold s195 at hR;refine qn Tryz.func157 rfl rfl fun w0 M0 => ?_;refine qb ?_;refine qa [.w] ?_;refine sw (zr 2 rfl z239 rfl rfl) rfl ?_;refine qc ?_;refine qb ?_;refine qa [.p, .w, .w] ?_;refine su (qnt rfl z239 rfl Tryz.underlying237 ty3 (zx rfl (zx rfl (zx rfl vy))) rfl) rfl ?_;refine sw (zr 3 rfl z239 rfl rfl) rfl ?_;refine ji rfl rfl (qy (tv := .g (G.agg [G.int 2000, G.int 1, G.int 1])) rfl qr4 rfl rfl rfl rfl rfl) ?_;refine qc ?_;refine qb ?_;refine qm ?_;refine qr (γ := Nat × Int × Int) (fun g => ([(0, .g (G.int g.2.1)), (2, .ptr 2 0), (3, .ptr 3 0)], [(2, .box [.g (G.int 0), .g (G.int 0), .g (G.int 0)]), (3, .box [.g (G.int g.2.2), .g (G.int 1), .g (G.int 1)])])) (fun g => g.2.1.toNat < g.1 ∧ 0 ≤ g.2.1 ∧ g.2.1 ≤ 1000000000 ∧ s195_l1 g.1 g.2.1 g.2.2 = some R) (fun g => g.1) ⟨rfl, ((a0.toNat) + 1, a0, 2000), ⟨rfl, rfl, rfl, trivial⟩, ⟨rfl, rfl, trivial⟩, rfl, ⟨Nat.lt_succ_self _, iD, iD, hR⟩, trivial⟩ ?_
 ·rintro ⟨k3, x1, x2⟩ ⟨hk1, iv1_0, iv1_1, hR⟩;replace hk1 : x1.toNat < k3 := hk1;replace hR : s195_l1 k3 x1 x2 = some R := hR;replace iv1_0 : 0 ≤ x1 := iv1_0;replace iv1_1 : x1 ≤ 1000000000 := iv1_1;obtain ⟨k3, rfl⟩ : ∃ m, k3 = m + 1 := ⟨k3 - 1, by omega⟩;rw [s195_l1] at hR;(try dsimp only at hR);refine qb ?_;refine qb ?_;refine qa [.p, .p, .r, .p, .p] ?_;refine sm rfl rfl ?_;refine su (vo rfl Tryz.underlying237 ty3 rfl rfl (by decide) (by decide)) rfl ?_;refine sr (jl rfl ty3 rfl rfl rfl) rfl ?_;refine su (qf rfl K222 rfl (c222 x2) (qe rfl qi)) rfl ?_;refine su (vv rfl rfl rfl) rfl ?_;refine qc ?_;refine qh _ rfl (fun h1 => ?_) (fun h1 => ?_)
  ·replace h1 : (decide ((s222 x2) ≤ x1)) = true := h1;replace hR := zf hR h1;(try simp only [bB] at h1);refine ql ?_;refine qm ?_;refine qb ?_;have hsp := qun x2;have hw := wrap_i64 (n := x1 - s222 x2) ⟨by omega, by omega⟩;refine qa [.p, .p, .r, .p, .p, .p] ?_;refine sm rfl rfl ?_;refine su (vo rfl Tryz.underlying237 ty3 rfl rfl (by decide) (by decide)) rfl ?_;refine sr (jl rfl ty3 rfl rfl rfl) rfl ?_;refine su (qf rfl K222 rfl (c222 x2) (qe rfl qi)) rfl ?_;refine su (kr rfl rfl rfl) rfl ?_;refine sa rfl rfl ?_;refine qc ?_;refine qa [.p, .r, .p, .p, .w] ?_;refine su (vo rfl Tryz.underlying237 ty3 rfl rfl (by decide) (by decide)) rfl ?_;refine sr (jl rfl ty3 rfl rfl rfl) rfl ?_;refine su (jx rfl rfl rfl) rfl ?_;refine su (vo rfl Tryz.underlying237 ty3 rfl rfl (by decide) (by decide)) rfl ?_;refine ji rfl rfl (qy (tv := .g (G.int (IntKind.i64.wrap (x2 + 1)))) rfl ty3 rfl rfl rfl rfl rfl) ?_;refine qc ?_;exact ⟨rfl, (k3, IntKind.i64.wrap (x1 - (s222 x2)), IntKind.i64.wrap (x2 + 1)), ⟨rfl, rfl, rfl, trivial⟩, ⟨rfl, rfl, trivial⟩, rfl, ⟨iB, iB, iB, hR⟩, by simp⟩
  ·replace h1 : (decide ((s222 x2) ≤ x1)) = false := h1;replace hR := zi hR h1;(try simp only [bB] at h1);refine zc ?_;refine qb ?_;refine qm ?_;refine qr (γ := Nat × Int × Int) (fun g => ([(0, .g (G.int g.2.1)), (2, .ptr 2 0), (3, .ptr 3 0)], [(2, .box [.g (G.int 0), .g (G.int 0), .g (G.int 0)]), (3, .box [.g (G.int x2), .g (G.int g.2.2), .g (G.int 1)])])) (fun g => g.2.1.toNat < g.1 ∧ 0 ≤ g.2.1 ∧ g.2.1 ≤ 1000000000 ∧ s195_l2 x2 g.1 g.2.1 g.2.2 = some R) (fun g => g.1) ⟨rfl, ((x1.toNat) + 1, x1, 1), ⟨rfl, rfl, rfl, trivial⟩, ⟨rfl, rfl, trivial⟩, rfl, ⟨Nat.lt_succ_self _, iD, iD, hR⟩, trivial⟩ ?_
   ·rintro ⟨k6, x4, x5⟩ ⟨hk2, iv2_0, iv2_1, hR⟩;replace hk2 : x4.toNat < k6 := hk2;replace hR : s195_l2 x2 k6 x4 x5 = some R := hR;replace iv2_0 : 0 ≤ x4 := iv2_0;replace iv2_1 : x4 ≤ 1000000000 := iv2_1;obtain ⟨k6, rfl⟩ : ∃ m, k6 = m + 1 := ⟨k6 - 1, by omega⟩;rw [s195_l2] at hR;(try dsimp only at hR);refine qb ?_;refine qb ?_;obtain ⟨r7, br7, hR⟩ := qj hR;refine qa [.p, .p, .r, .p, .r, .p, .p] ?_;refine sm rfl rfl ?_;refine su (vo rfl Tryz.underlying237 ty3 rfl rfl (by decide) (by decide)) rfl ?_;refine sr (jl rfl ty3 rfl rfl rfl) rfl ?_;refine su (vo rfl Tryz.underlying237 ty3 rfl rfl (by decide) (by decide)) rfl ?_;refine sr (jl rfl ty3 rfl rfl rfl) rfl ?_;refine su (qf rfl K223 rfl (c223 x2 x5 br7) (qe rfl (qe rfl qi))) rfl ?_;refine su (vv rfl rfl rfl) rfl ?_;refine qc ?_;refine qh _ rfl (fun h2 => ?_) (fun h2 => ?_)
    ·replace h2 : (decide (r7 ≤ x4)) = true := h2;replace hR := zf hR h2;(try simp only [bB] at h2);refine ql ?_;refine qm ?_;refine qb ?_;obtain ⟨r8, br8, hR⟩ := qj hR;have he := Option.some.inj (br7.symm.trans br8);have hsp := qup br8;have hw := wrap_i64 (n := x4 - r8) ⟨by omega, by omega⟩;refine qa [.p, .p, .r, .p, .r, .p, .p, .p] ?_;refine sm rfl rfl ?_;refine su (vo rfl Tryz.underlying237 ty3 rfl rfl (by decide) (by decide)) rfl ?_;refine sr (jl rfl ty3 rfl rfl rfl) rfl ?_;refine su (vo rfl Tryz.underlying237 ty3 rfl rfl (by decide) (by decide)) rfl ?_;refine sr (jl rfl ty3 rfl rfl rfl) rfl ?_;refine su (qf rfl K223 rfl (c223 x2 x5 br8) (qe rfl (qe rfl qi))) rfl ?_;refine su (kr rfl rfl rfl) rfl ?_;refine sa rfl rfl ?_;refine qc ?_;refine qa [.p, .r, .p, .p, .w] ?_;refine su (vo rfl Tryz.underlying237 ty3 rfl rfl (by decide) (by decide)) rfl ?_;refine sr (jl rfl ty3 rfl rfl rfl) rfl ?_;refine su (jx rfl rfl rfl) rfl ?_;refine su (vo rfl Tryz.underlying237 ty3 rfl rfl (by decide) (by decide)) rfl ?_;refine ji rfl rfl (qy (tv := .g (G.int (IntKind.i64.wrap (x5 + 1)))) rfl ty3 rfl rfl rfl rfl rfl) ?_;refine qc ?_;exact ⟨rfl, (k6, IntKind.i64.wrap (x4 - r8), IntKind.i64.wrap (x5 + 1)), ⟨rfl, rfl, rfl, trivial⟩, ⟨rfl, rfl, trivial⟩, rfl, ⟨iB, iB, iB, hR⟩, by simp⟩
    ·replace h2 : (decide (r7 ≤ x4)) = false := h2;replace hR := zi hR h2;(try simp only [bB] at h2);refine zc ?_;refine qb ?_;refine qa [.p, .r, .p, .p, .p, .w] ?_;refine su (vo rfl Tryz.underlying237 ty3 rfl rfl (by decide) (by decide)) rfl ?_;refine sr (jl rfl ty3 rfl rfl rfl) rfl ?_;refine sm rfl rfl ?_;refine su (jx rfl rfl rfl) rfl ?_;refine su (vo rfl Tryz.underlying237 ty3 rfl rfl (by decide) (by decide)) rfl ?_;refine ji rfl rfl (qy (tv := .g (G.int (IntKind.i64.wrap (1 + x4)))) rfl ty3 rfl rfl rfl rfl rfl) ?_;refine qc ?_;refine qb ?_;refine qa [.r, .w] ?_;refine sr (zw rfl qr4 rfl rfl rfl rfl) rfl ?_;refine ji rfl rfl (qy (tv := .g (G.agg [G.int x2, G.int x5, G.int (IntKind.i64.wrap (1 + x4))])) rfl qr4 rfl rfl rfl rfl rfl) ?_;refine qc ?_;refine qo ?_;obtain rfl := Option.some.inj hR;exact za rfl (xi rfl rfl qr4 rfl rfl)
def lp (y : Int) : Int := bif s224 y then 1 else 0
theorem xu (y : Int) : 0 ≤ lp y ∧ lp y ≤ 1 := by unfold lp; cases s224 y <;> decide
theorem qqd (y : Int) : s198 y = 365 + lp y := by unfold s198 lp; cases s224 y <;> rfl
theorem qqc (y : Int) : s222 y = s198 y := rfl
def Dy : Nat → Int
 | 0 => 0
 | n + 1 => Dy n + s198 (2000 + (n : Int))
theorem qep : ∀ n : Nat, 365 * (n : Int) ≤ Dy n ∧ Dy n ≤ 366 * (n : Int)
 | 0 => by simp [Dy]
 | n + 1 => by
  have h1 := qep n;have h2 := qcf (2000 + (n : Int));rw [Dy]; omega
theorem qc0 : ∀ (n k : Nat) (x : Int), 0 ≤ x → x + 366 * (n : Int) ≤ 1000000000 → s200_l2 n x (2000 + (k : Int)) = x + (Dy (k + n) - Dy k)
 | 0, k, x, _, _ => by rw [s200_l2]; simp
 | n + 1, k, x, h0, h1 => by
  have h2 := qcf (2000 + (k : Int));rw [s200_l2, wrap_i64 ⟨by omega, by omega⟩]
  have e : (2000 + (k : Int)) + 1 = 2000 + ((k + 1 : Nat) : Int) := by omega
  rw [e, qc0 n (k + 1) _ (by omega) (by omega), Dy]
  have e2 : k + 1 + n = k + (n + 1) := by omega
  rw [e2]; omega
theorem qfp (y m : Int) : ∀ (n k : Nat) (x : Int), 0 ≤ x → x + 366 * (n : Int) ≤ 1000000000 → k + n ≤ 1000000 → s221_l1 y m n x (k : Int) = s221_l2 y ((m - 1).toNat) (x + (Dy (k + n) - Dy k)) 1
 | 0, k, x, _, _, _ => by rw [s221_l1]; simp
 | n + 1, k, x, h0, h1, h3 => by
  have h2 := qcf (2000 + (k : Int));rw [s221_l1, wrap_i64 (n := 2000 + (k : Int)) ⟨by omega, by omega⟩, qqc, wrap_i64 ⟨by omega, by omega⟩]
  have e : (k : Int) + 1 = ((k + 1 : Nat) : Int) := by omega
  rw [e, qfp y m n (k + 1) _ (by omega) (by omega) (by omega), Dy]
  have e2 : k + 1 + n = k + (n + 1) := by omega
  rw [e2]
  congr 1
  omega
def N3 (y : Int) : Int := 89 + lp y + Dy (y - 2000).toNat
def N10 (y : Int) : Int := 303 + lp y + Dy (y - 2000).toNat
theorem qv4 (y : Int) : s199 y 2 = 28 + lp y := by unfold s199 lp; cases s224 y <;> rfl
theorem qir {y : Int} (h : 2000 ≤ y) (h' : y ≤ 3000) : 80 ≤ N3 y ∧ N3 y ≤ 1000000 ∧ 80 ≤ N10 y ∧ N10 y ≤ 1000000 := by
 have h1 := xu y;have h2 := qep (y - 2000).toNat;unfold N3 N10
 omega
theorem wn {y : Int} (h : 2000 ≤ y) : ((y - 2000).toNat : Int) = y - 2000 := Int.toNat_of_nonneg (by omega)
theorem q06 {y : Int} (h : 2000 ≤ y) (h' : y ≤ 3000) : s200 y 3 31 = N3 y := by
 have h1 := xu y;have hn := wn h;have h5 := qc0 (y - 2000).toNat 0 (89 + lp y) (by omega) (by omega)
 have e1 : s199 y 1 = 31 := by simp [s199]
 unfold s200;show s200_l1 y 2 (IntKind.i64.wrap (31 - 1)) 1 = _;rw [wrap_i64 ⟨by omega, by omega⟩, s200_l1, e1, wrap_i64 ⟨by omega, by omega⟩, s200_l1, show (1 : Int) + 1 = 2 from rfl, qv4, wrap_i64 ⟨by omega, by omega⟩, s200_l1]
 have e3 : (31 : Int) - 1 + 31 + (28 + lp y) = 89 + lp y := by omega
 rw [e3]
 have h6 : s200_l2 (y - 2000).toNat (89 + lp y) 2000 = 89 + lp y + (Dy (0 + (y - 2000).toNat) - Dy 0) := by simpa using h5
 rw [h6, Nat.zero_add];unfold N3
 simp [Dy]
theorem qxx {y : Int} (h : 2000 ≤ y) (h' : y ≤ 3000) : s200 y 10 31 = N10 y := by
 have h1 := xu y;have hn := wn h;have h5 := qc0 (y - 2000).toNat 0 (303 + lp y) (by omega) (by omega)
 have e1 : s199 y 1 = 31 := by simp [s199]
 have e3 : s199 y 3 = 31 := by simp [s199]
 have e4 : s199 y 4 = 30 := by simp [s199]
 have e5 : s199 y 5 = 31 := by simp [s199]
 have e6 : s199 y 6 = 30 := by simp [s199]
 have e7 : s199 y 7 = 31 := by simp [s199]
 have e8 : s199 y 8 = 31 := by simp [s199]
 have e9 : s199 y 9 = 30 := by simp [s199]
 unfold s200;show s200_l1 y 9 (IntKind.i64.wrap (31 - 1)) 1 = _;rw [wrap_i64 ⟨by omega, by omega⟩, s200_l1, e1, wrap_i64 ⟨by omega, by omega⟩, s200_l1, show (1 : Int) + 1 = 2 from rfl, qv4, wrap_i64 ⟨by omega, by omega⟩];rw [s200_l1, show (2 : Int) + 1 = 3 from rfl, e3, wrap_i64 ⟨by omega, by omega⟩, s200_l1, show (3 : Int) + 1 = 4 from rfl, e4, wrap_i64 ⟨by omega, by omega⟩];rw [s200_l1, show (4 : Int) + 1 = 5 from rfl, e5, wrap_i64 ⟨by omega, by omega⟩, s200_l1, show (5 : Int) + 1 = 6 from rfl, e6, wrap_i64 ⟨by omega, by omega⟩];rw [s200_l1, show (6 : Int) + 1 = 7 from rfl, e7, wrap_i64 ⟨by omega, by omega⟩, s200_l1, show (7 : Int) + 1 = 8 from rfl, e8, wrap_i64 ⟨by omega, by omega⟩];rw [s200_l1, show (8 : Int) + 1 = 9 from rfl, e9, wrap_i64 ⟨by omega, by omega⟩, s200_l1]
 have e : (31 : Int) - 1 + 31 + (28 + lp y) + 31 + 30 + 31 + 30 + 31 + 31 + 30 = 303 + lp y := by omega
 rw [e]
 have h6 : s200_l2 (y - 2000).toNat (303 + lp y) 2000 = 303 + lp y + (Dy (0 + (y - 2000).toNat) - Dy 0) := by simpa using h5
 rw [h6, Nat.zero_add];unfold N10
 simp [Dy]
theorem qmd {d : Int} (h : s153 d = 0) : 0 ≤ d ∧ d ≤ 99999 := by
 unfold s153 s155 s154 at h
 by_cases h1 : d < 0
 ·simp [h1] at h
 ·by_cases h2 : 99999 < d
  ·simp [h2] at h
  ·omega
end Go.Sim
set_option maxRecDepth 10000
namespace Go.Sim
open Go.Proofs
def s158 (a0 : Int) : Option (S67 × Int) :=
 (bif decide ((s153 a0) ≠ 0) then some ((S67.mk 0 ByteArray.empty), (s153 a0)) else bindO (s138 s193) fun r1 => bindO (bif !(decide (a0 < r1)) then s138 (s139 s194) else some default) fun r2 => (bif (decide (a0 < r1)) || (decide (r2 ≤ a0)) then some ((S67.mk 0 ByteArray.empty), 30) else bindO (s195 a0) fun r3 => bindO (s189 r3.1 3) fun r4 => (bif decide (a0 < r4) then some ((S67.mk (IntKind.i64.wrap (r3.1 - 1)) (⟨#[87]⟩)), 0) else bindO (s189 r3.1 10) fun r5 => (bif decide (a0 < r5) then some ((S67.mk r3.1 (⟨#[83]⟩)), 0) else some ((S67.mk r3.1 (⟨#[87]⟩)), 0)))))
theorem c158 (a0 : Int) {R : S67 × Int}   (hR : s158 a0 = some R) : Con (EG glT) 84 [G.int a0] (G.tup [G.agg [G.int R.1.Year, G.str R.1.Kind], G.int R.2]) := by
 unfold s158 at hR;refine qn Tryz.func84 rfl rfl fun w0 M0 => ?_;refine qb ?_;refine qa [.w, .p] ?_;refine sw (zr 2 rfl z68 rfl rfl) rfl ?_;refine sa rfl rfl ?_;refine qc ?_;refine qb ?_;refine qb ?_;refine qa [.p, .p, .p] ?_;refine sm rfl rfl ?_;refine su (qf rfl K153 rfl (c153 a0) (qe rfl qi)) rfl ?_;refine sa rfl rfl ?_;refine qc ?_;refine qb ?_;refine qa [.p, .p] ?_;refine sm rfl rfl ?_;refine su (zu rfl rfl rfl) rfl ?_;refine qc ?_;refine qh _ rfl (fun h1 => ?_) (fun h1 => ?_)
 ·replace h1 : (decide ((s153 a0) ≠ 0)) = true := h1;replace hR := zf hR h1;(try simp only [bB] at h1);refine qb ?_;refine qa [.p, .p, .w, .p] ?_;refine su (jy rfl z68 rfl pl68 vy rfl) rfl ?_;refine sm rfl rfl ?_;refine ji rfl rfl (qy (tv := .g (G.agg [G.int 0, G.str ByteArray.empty])) rfl ty68 rfl rfl rfl rfl rfl) ?_;refine sa rfl rfl ?_;refine qc ?_;refine qo ?_;obtain rfl := Option.some.inj hR;exact resN rfl ⟨xi rfl rfl ty68 rfl rfl, rv_g rfl, trivial⟩ (by simp)
 ·replace h1 : (decide ((s153 a0) ≠ 0)) = false := h1;replace hR := zi hR h1;(try simp only [bB] at h1);have hdr := qmd (d := a0) (by omega);refine ql ?_;refine qb ?_;refine qb ?_;obtain ⟨r1, br1, hR⟩ := qj hR;obtain ⟨r2, br2, hR⟩ := qj hR;refine qa [.p, .p, .p, .p, .p, .p, .p, .p, .p, .p, .p] ?_;refine sm rfl rfl ?_;refine su (qf rfl K193 rfl (c193 ) qi) rfl ?_;refine su (qf rfl K138 rfl (c138 s193 br1) (qe rfl qi)) rfl ?_;refine su (qx rfl rfl rfl) rfl ?_;refine sm rfl rfl ?_;refine sg rfl rfl (fun h => qk rfl rfl) rfl ?_;refine sg rfl rfl (fun h => qf rfl K194 rfl (c194 ) qi) rfl ?_;refine sg rfl rfl (fun h => qf rfl K139 rfl (c139 s194) (qe (gd h rfl) qi)) rfl ?_;refine sg rfl rfl (fun h => qf rfl K138 rfl (c138 (s139 s194) (qfn br2 h)) (qe (gd h rfl) qi)) rfl ?_;refine sg rfl rfl (fun h => vv rfl (gd h rfl) (gd h rfl)) rfl ?_;refine su (jr rfl rfl rfl rfl) rfl ?_;refine qc ?_;refine qh _ rfl (fun h2 => ?_) (fun h2 => ?_)
  ·replace h2 : ((decide (a0 < r1)) || (decide (r2 ≤ a0))) = true := h2;replace hR := zf hR h2;(try simp only [bB] at h2);refine qb ?_;refine qa [.p, .w, .p] ?_;refine su (jy rfl z68 rfl pl68 vy rfl) rfl ?_;refine ji rfl rfl (qy (tv := .g (G.agg [G.int 0, G.str ByteArray.empty])) rfl ty68 rfl rfl rfl rfl rfl) ?_;refine sa rfl rfl ?_;refine qc ?_;refine qo ?_;obtain rfl := Option.some.inj hR;exact resN rfl ⟨xi rfl rfl ty68 rfl rfl, rv_g rfl, trivial⟩ (by simp)
  ·replace h2 : ((decide (a0 < r1)) || (decide (r2 ≤ a0))) = false := h2;replace hR := zi hR h2;(try simp only [bB] at h2);refine ql ?_;refine qb ?_;obtain ⟨r3, br3, hR⟩ := qj hR;refine qa [.p, .p, .p, .p] ?_;refine sm rfl rfl ?_;refine su (qf rfl K195 rfl (c195 a0 iA iA br3) (qe rfl qi)) rfl ?_;refine su (qzk rfl Tryz.underlying237 ty3 rfl rfl (by decide) (by decide) rfl) rfl ?_;refine sa rfl rfl ?_;refine qc ?_;refine qb ?_;refine qm ?_;refine qb ?_;obtain ⟨r4, br4, hR⟩ := qj hR;refine qa [.p, .p, .p, .p, .p] ?_;refine sm rfl rfl ?_;refine sm rfl rfl ?_;refine su (qf rfl K189 rfl (c189 r3.1 3 iA br4) (qe rfl (qe rfl qi))) rfl ?_;refine su (qx rfl rfl rfl) rfl ?_;refine sa rfl rfl ?_;refine qc ?_;refine qh _ rfl (fun h3 => ?_) (fun h3 => ?_)
   ·replace h3 : (decide (a0 < r4)) = true := h3;replace hR := zf hR h3;(try simp only [bB] at h3);refine qb ?_;refine qa [.p, .p, .p, .w, .p] ?_;refine sm rfl rfl ?_;refine su (kr rfl rfl rfl) rfl ?_;refine su (jy rfl z68 rfl pl68 (zx rfl (zx rfl vy)) rfl) rfl ?_;refine ji rfl rfl (qy (tv := .g (G.agg [G.int (IntKind.i64.wrap (r3.1 - 1)), G.str (⟨#[87]⟩)])) rfl ty68 rfl rfl rfl rfl rfl) ?_;refine sa rfl rfl ?_;refine qc ?_;refine qo ?_;obtain rfl := Option.some.inj hR;exact resN rfl ⟨xi rfl rfl ty68 rfl rfl, rv_g rfl, trivial⟩ (by simp)
   ·replace h3 : (decide (a0 < r4)) = false := h3;replace hR := zi hR h3;(try simp only [bB] at h3);refine qb ?_;obtain ⟨r5, br5, hR⟩ := qj hR;refine qa [.p, .p, .p, .p, .p] ?_;refine sm rfl rfl ?_;refine sm rfl rfl ?_;refine su (qf rfl K189 rfl (c189 r3.1 10 iA br5) (qe rfl (qe rfl qi))) rfl ?_;refine su (qx rfl rfl rfl) rfl ?_;refine sa rfl rfl ?_;refine qc ?_;refine qh _ rfl (fun h4 => ?_) (fun h4 => ?_)
    ·replace h4 : (decide (a0 < r5)) = true := h4;replace hR := zf hR h4;(try simp only [bB] at h4);refine qb ?_;refine qa [.p, .p, .w, .p] ?_;refine sm rfl rfl ?_;refine su (jy rfl z68 rfl pl68 (zx rfl (zx rfl vy)) rfl) rfl ?_;refine ji rfl rfl (qy (tv := .g (G.agg [G.int r3.1, G.str (⟨#[83]⟩)])) rfl ty68 rfl rfl rfl rfl rfl) ?_;refine sa rfl rfl ?_;refine qc ?_;refine qo ?_;obtain rfl := Option.some.inj hR;exact resN rfl ⟨xi rfl rfl ty68 rfl rfl, rv_g rfl, trivial⟩ (by simp)
    ·replace h4 : (decide (a0 < r5)) = false := h4;replace hR := zi hR h4;(try simp only [bB] at h4);refine ql ?_;refine qb ?_;refine qa [.p, .p, .w, .p] ?_;refine sm rfl rfl ?_;refine su (jy rfl z68 rfl pl68 (zx rfl (zx rfl vy)) rfl) rfl ?_;refine ji rfl rfl (qy (tv := .g (G.agg [G.int r3.1, G.str (⟨#[87]⟩)])) rfl ty68 rfl rfl rfl rfl rfl) ?_;refine sa rfl rfl ?_;refine qc ?_;refine qo ?_;obtain rfl := Option.some.inj hR;exact resN rfl ⟨xi rfl rfl ty68 rfl rfl, rv_g rfl, trivial⟩ (by simp)
def s159 (a0 : Int) (a1 : S67) : Option (Int × Int) :=
 bindO (s158 a0) fun r1 => (bif decide ((s152 [r1.2, (s107 a1), (s154 (!decide (r1.1.Kind = a1.Kind)) 13)]) ≠ 0) then some (0, (s152 [r1.2, (s107 a1), (s154 (!decide (r1.1.Kind = a1.Kind)) 13)])) else bindO (s138 a1) fun r2 => bindO (s138 r1.1) fun r3 => bindO (s138 (s139 a1)) fun r4 => (bif decide (r4 ≤ IntKind.i64.wrap ((IntKind.i64.wrap (r2 + a0)) - r3)) then some (0, 7) else some (IntKind.i64.wrap ((IntKind.i64.wrap (r2 + a0)) - r3), 0)))
theorem c159 (a0 : Int) (a1 : S67) {R : Int × Int}   (hR : s159 a0 a1 = some R) : Con (EG glT) 85 [G.int a0, G.agg [G.int a1.Year, G.str a1.Kind]] (G.tup [G.int R.1, G.int R.2]) := by
 unfold s159 at hR;refine qn Tryz.func85 rfl rfl fun w0 M0 => ?_;refine qb ?_;refine qa [.p, .p, .p] ?_;refine su (zp rfl rfl) rfl ?_;refine sa rfl rfl ?_;refine sa rfl rfl ?_;refine qc ?_;refine qb ?_;obtain ⟨r1, br1, hR⟩ := qj hR;refine qa [.p, .p, .p, .p, .p, .w, .w, .p] ?_;refine sm rfl rfl ?_;refine su (qf rfl K158 rfl (c158 a0 br1) (qe rfl qi)) rfl ?_;refine sm rfl rfl ?_;refine su (qz rfl rfl rfl) rfl ?_;refine su (qz rfl rfl rfl) rfl ?_;refine sw (zr 6 rfl z68 rfl rfl) rfl ?_;refine ji rfl rfl (qy (tv := .g (G.agg [G.int r1.1.Year, G.str r1.1.Kind])) rfl ty68 rfl rfl rfl rfl rfl) ?_;refine sa rfl rfl ?_;refine qc ?_;refine qb ?_;refine qb ?_;refine jf [.p, .p, .p, .p, .r, .p, .p, .p, .p, .p, .p, .p] (by kernel_rfl) ?_;refine sm rfl rfl ?_;refine su (qt rfl ty68 rfl rfl rfl) rfl ?_;refine su (qf rfl K107 rfl (c107 a1) (qe rfl qi)) rfl ?_;refine su (zo rfl qc4 rfl) rfl ?_;refine sr (jl rfl ty9 rfl rfl rfl) rfl ?_;refine su (qd rfl qc4 rfl) rfl ?_;refine su (qg rfl ty9 rfl) rfl ?_;refine su (kw rfl rfl rfl) rfl ?_;refine su (qf rfl K154 rfl (c154 (!decide (r1.1.Kind = a1.Kind)) 13) (qe rfl (qe rfl qi))) rfl ?_;refine su (qq rfl Tryz.underlying156 ty37 z37 rfl (qu rfl (qu rfl (qu rfl j5))) rfl (by simp []) (by decide)) rfl ?_;refine su (qf rfl K152 rfl (c152 [r1.2, (s107 a1), (s154 (!decide (r1.1.Kind = a1.Kind)) 13)]) (qe rfl qi)) rfl ?_;refine sa rfl rfl ?_;refine qc ?_;refine qb ?_;refine qa [.p, .p] ?_;refine sm rfl rfl ?_;refine su (zu rfl rfl rfl) rfl ?_;refine qc ?_;refine qh _ rfl (fun h1 => ?_) (fun h1 => ?_)
 ·replace h1 : (decide ((s152 [r1.2, (s107 a1), (s154 (!decide (r1.1.Kind = a1.Kind)) 13)]) ≠ 0)) = true := h1;replace hR := zf hR h1;(try simp only [bB] at h1);refine qb ?_;refine qa [.p, .p, .p] ?_;refine sm rfl rfl ?_;refine sa rfl rfl ?_;refine sa rfl rfl ?_;refine qc ?_;refine qo ?_;obtain rfl := Option.some.inj hR;exact resN rfl ⟨rv_g rfl, rv_g rfl, trivial⟩ (by simp)
 ·replace h1 : (decide ((s152 [r1.2, (s107 a1), (s154 (!decide (r1.1.Kind = a1.Kind)) 13)]) ≠ 0)) = false := h1;replace hR := zi hR h1;(try simp only [bB] at h1);refine ql ?_;refine qb ?_;obtain ⟨r2, br2, hR⟩ := qj hR;obtain ⟨r3, br3, hR⟩ := qj hR;refine jf [.p, .p, .p, .p, .r, .p, .p, .p] (by kernel_rfl) ?_;refine su (qt rfl ty68 rfl rfl rfl) rfl ?_;refine su (qf rfl K138 rfl (c138 a1 br2) (qe rfl qi)) rfl ?_;refine sm rfl rfl ?_;refine su (jx rfl rfl rfl) rfl ?_;refine sr (zw rfl ty68 rfl rfl rfl rfl) rfl ?_;refine su (qf rfl K138 rfl (c138 r1.1 br3) (qe rfl qi)) rfl ?_;refine su (kr rfl rfl rfl) rfl ?_;refine sa rfl rfl ?_;refine qc ?_;refine qb ?_;refine qb ?_;obtain ⟨r4, br4, hR⟩ := qj hR;refine qa [.p, .p, .p, .p, .p] ?_;refine sm rfl rfl ?_;refine su (qt rfl ty68 rfl rfl rfl) rfl ?_;refine su (qf rfl K139 rfl (c139 a1) (qe rfl qi)) rfl ?_;refine su (qf rfl K138 rfl (c138 (s139 a1) br4) (qe rfl qi)) rfl ?_;refine su (vv rfl rfl rfl) rfl ?_;refine qc ?_;refine qh _ rfl (fun h2 => ?_) (fun h2 => ?_)
  ·replace h2 : (decide (r4 ≤ IntKind.i64.wrap ((IntKind.i64.wrap (r2 + a0)) - r3))) = true := h2;replace hR := zf hR h2;(try simp only [bB] at h2);refine qb ?_;refine qa [.p, .p] ?_;refine sa rfl rfl ?_;refine sa rfl rfl ?_;refine qc ?_;refine qo ?_;obtain rfl := Option.some.inj hR;exact resN rfl ⟨rv_g rfl, rv_g rfl, trivial⟩ (by simp)
  ·replace h2 : (decide (r4 ≤ IntKind.i64.wrap ((IntKind.i64.wrap (r2 + a0)) - r3))) = false := h2;replace hR := zi hR h2;(try simp only [bB] at h2);refine ql ?_;refine qb ?_;refine qa [.p, .p, .p] ?_;refine sm rfl rfl ?_;refine sa rfl rfl ?_;refine sa rfl rfl ?_;refine qc ?_;refine qo ?_;obtain rfl := Option.some.inj hR;exact resN rfl ⟨rv_g rfl, rv_g rfl, trivial⟩ (by simp)
section
variable {E : Env} {o : Oper} {ev : Operand → TV}
theorem quq {α : Type} {f : α → List G} {l : List α} {t el : TypeId} {x hi mx : Operand} {k : Nat} {b : Bool} (ho : o.op = .slice t x none (some hi) (some mx)) (ht : E.P.underlying t = some (.slice el)) (hk : tyK E.P el = some (k, b)) (hx : ev x = .g (.sl k (l.map f)))
  (hhi : ev hi = .g (.int (l.length : Int))) (hmx : ev mx = .g (.int (l.length : Int))) (mem : Mem) : Eff E o mem ev (.g (.sl k (l.map f))) :=
 zy (fun w M ρ e' he => by
  have h1 := he x (by rw [ho]; simp [Op.operands]);rw [hx] at h1;have g1 := he hi (by rw [ho]; simp [Op.operands]);rw [hhi] at g1;have g1' : e' hi = .int .i64 (l.length : Int) := g1;have g2 := he mx (by rw [ho]; simp [Op.operands]);rw [hmx] at g2;have g2' : e' mx = .int .i64 (l.length : Int) := g2;obtain ⟨ad, cap, h2, h3, h4, h5, h6⟩ := h1;rw [List.length_map] at h2 h3
  have hb : (Instr.sliceBounds true l.length cap none (some (.int .i64 (l.length : Int))) (some (.int .i64 (l.length : Int)))).run E.P w = .ok (0, l.length, l.length) w := by
   simp [Instr.sliceBounds, xw (P := E.P) (w := w) (show l.length ≤ l.length from Nat.le_refl _), xw (P := E.P) (w := w) h3]
  refine ⟨.slice (if l.length = 0 then ad else ad.map (·.add (0 * k))) (l.length - 0) (l.length - 0), ?_, (if l.length = 0 then ad else ad.map (·.add (0 * k))), l.length, ?_, ?_, ?_, h5, ?_⟩
  ·simp only [execOp, ho, h2, Instr.sliceAt, Instr.slice, Sem.run_bind, Sem.run_map, run_underlying ht, Result.andThen_ok, Option.map_none, Option.map_some, g1', g2', hb, run_sizeOf hk, Sem.run_pure]
  ·simp
  ·simp
  ·omega
  ·have e0 : (if l.length = 0 then ad else ad.map (·.add (0 * k))) = ad := by
    split
    ·rfl
    ·cases ad with
     | none => rfl
     | some a => simp [Addr.add]
   rw [e0]
   rcases h6 with ⟨h6, h7⟩ | h6
   ·refine .inl ⟨h6, fun hn => ?_⟩;have := h7 hn
    omega
   ·exact .inr h6) mem
def ascope (Q : Exit → ASt → Prop) : Exit → ASt → Prop
 | .goto _, _ => False
 | e, s => Q e s
theorem q1j {E : Env} {c : Code} {Q : Exit → Act → World → Prop} {a : Act} {w : World} (h : c.wp E.P Q a w) (hr : E.rnd = none) : c.wpIn E.F 0 E.P Q a w := by
 obtain ⟨P, gl, ord, bow, rnd, mk⟩ := E
 cases hr
 exact wpIn_wide.2 h
theorem qur {w0 : World} {M0 : Nat → Prop} {c : Code} {Q : Exit → ASt → Prop} {s : ASt} (h : AWp E w0 M0 c (ascope Q) s) (hr : E.rnd = none := by rfl) : AWp E w0 M0 (.scope c) Q s :=
 fun a w ha => q1j (hr := hr) <| wp_scope_straight (wp_mono (qlf (h a w ha) hr) fun e a' w' ⟨s', h1, h2⟩ => by
  cases e <;> first | exact h2.elim | exact ⟨s', h1, h2⟩)
end
end Go.Sim
set_option maxRecDepth 10000
namespace Go.Sim
open Go.Proofs
def s197 (a0 : List S45) : List S45 :=
 a0
theorem c197 {g : List (Nat × List Value)} (a0 : List S45)    : Con (EG g) 160 [G.sl 3 (List.map S45.c a0)] (G.sl 3 (List.map S45.c (s197 a0))) := by
 generalize hR : s197 a0 = R;unfold s197 at hR;refine qn Tryz.func160 rfl rfl fun w0 M0 => ?_;refine zj (f := S45.c) (l := a0) 0 rfl fun hla0 => ?_;refine qb ?_;refine qa [.p] ?_;refine sa rfl rfl ?_;refine qc ?_;refine qb ?_;refine qa [.p, .p, .p, .p, .p, .p, .p] ?_;refine sm rfl rfl ?_;refine sm rfl rfl ?_;refine su (zb (f := S45.c) (l := a0) rfl Tryz.underlying49 rfl) rfl ?_;refine sm rfl rfl ?_;refine su (zb (f := S45.c) (l := a0) rfl Tryz.underlying49 rfl) rfl ?_;refine su (quq (f := S45.c) (l := a0) rfl Tryz.underlying49 ty46 rfl rfl rfl) rfl ?_;refine sa rfl rfl ?_;refine qc ?_;refine qo ?_;subst hR;exact za rfl (rv_g rfl)
theorem qus {l : List Int} {P : Int → Prop} {k : Nat} {y : Int} (h : ∀ x ∈ List.take k l, P x) (hy : l[k]? = some y) (hp : P y) : ∀ x ∈ List.take (k + 1) l, P x := by
 intro x hx;have hk : k < l.length := (List.getElem?_eq_some_iff.1 hy).1;rw [List.take_succ, hy] at hx
 rcases List.mem_append.1 hx with hx | hx
 ·exact h x hx
 ·simp at hx; rw [hx]; exact hp
theorem q1k {l : List Int} {P : Int → Prop} {k j : Nat} {y : Int} (h : ∀ x ∈ List.take k l, P x) (hk : l.length ≤ k) (hy : l[j]? = some y) : P y := by
 rw [List.take_of_length_le hk] at h;exact h y (List.mem_of_getElem? hy)
theorem qut {y : Int} (h : 0 ≤ y ∧ y ≤ 99999) : 0 ≤ s188 y ∧ s188 y < 7 := by
 unfold s188;rw [wrap_i64 ⟨by omega, by omega⟩, Int.tmod_eq_emod_of_nonneg (by omega)]
 omega
theorem q1l {y b : Int} (h : ¬ s152 [s153 y, b] ≠ 0) : 0 ≤ y ∧ y ≤ 99999 := qmd (qoy (s153 y) b (Decidable.not_not.1 h)).1
end Go.Sim
set_option maxRecDepth 10000
namespace Go.Sim
open Go.Proofs
def s43_l1 (a1 : List S45) : List S45 → Nat → Option Bool
 | [], k2 => some true
 | y3 :: t4, k2 => bindO (ixO a1 ((k2 : Nat) : Int)) fun y5 => (bif !(eqAnd [decide (y3.fFrom = y5.fFrom), decide (y3.fTo = y5.fTo), decide (y3.Days = y5.Days)]) then some false else s43_l1 a1 t4 (k2 + 1))
def s43 (a0 : List S45) (a1 : List S45) : Option Bool :=
 (bif decide ((List.length a0 : Int) ≠ (List.length a1 : Int)) then some false else s43_l1 a1 a0 0)
theorem c43 {g : List (Nat × List Value)} (a0 : List S45) (a1 : List S45) {R : Bool}   (hR : s43 a0 a1 = some R) : Con (EG g) 15 [G.sl 3 (List.map S45.c a0), G.sl 3 (List.map S45.c a1)] (G.bool R) := by
 unfold s43 at hR;refine qn Tryz.func15 rfl rfl fun w0 M0 => ?_;refine zj (f := S45.c) (l := a0) 0 rfl fun hla0 => ?_;refine zj (f := S45.c) (l := a1) 1 rfl fun hla1 => ?_;refine qb ?_;refine qa [.p] ?_;refine sa rfl rfl ?_;refine qc ?_;refine qb ?_;refine qb ?_;refine qa [.p, .p, .p, .p, .p] ?_;refine sm rfl rfl ?_;refine su (zb (f := S45.c) (l := a0) rfl Tryz.underlying49 rfl) rfl ?_;refine sm rfl rfl ?_;refine su (zb (f := S45.c) (l := a1) rfl Tryz.underlying49 rfl) rfl ?_;refine su (zu rfl rfl rfl) rfl ?_;refine qc ?_;refine qh _ rfl (fun h1 => ?_) (fun h1 => ?_)
 ·replace h1 : (decide ((List.length a0 : Int) ≠ (List.length a1 : Int))) = true := h1;replace hR := zf hR h1;(try simp only [bB] at h1);refine qb ?_;refine qa [.p] ?_;refine sa rfl rfl ?_;refine qc ?_;refine qo ?_;obtain rfl := Option.some.inj hR;exact za rfl (rv_g rfl)
 ·replace h1 : (decide ((List.length a0 : Int) ≠ (List.length a1 : Int))) = false := h1;replace hR := zi hR h1;(try simp only [bB] at h1);refine ql ?_;refine qb ?_;refine qb ?_;refine qa [.p] ?_;refine sa rfl rfl ?_;refine qc ?_;refine qm ?_;refine qr (γ := Nat × (List S45)) (fun g => ([(0, .g (G.sl 3 (List.map S45.c a0))), (1, .g (G.sl 3 (List.map S45.c a1))), (5, .g (G.int ((g.1 : Nat) : Int)))], [])) (fun g => a0.drop g.1 = g.2 ∧ s43_l1 a1 g.2 g.1 = some R) (fun g => List.length g.2) ⟨rfl, (0, a0), ⟨rfl, rfl, rfl, trivial⟩, trivial, rfl, ⟨rfl, hR⟩, trivial⟩ ?_
  ·rintro ⟨k2, t4⟩ ⟨hd, hR⟩;replace hd : a0.drop k2 = t4 := hd;replace hR : s43_l1 a1 t4 k2 = some R := hR;refine qb ?_;refine qb ?_;refine qa [.p, .p, .p, .p] ?_;refine sm rfl rfl ?_;refine sm rfl rfl ?_;refine su (zb (f := S45.c) (l := a0) rfl Tryz.underlying49 rfl) rfl ?_;refine su (qx rfl rfl rfl) rfl ?_;refine qc ?_;refine zj (f := S45.c) (l := a0) 0 rfl fun hlz1 => ?_;refine qh _ rfl (fun h2 => ?_) (fun h2 => ?_)
   ·replace h2 : (decide (((k2 : Nat) : Int) < (List.length a0 : Int))) = true := h2;obtain ⟨y3, t4, rfl, hx1, hd⟩ := zk hd (decT h2);replace h2 := decT h2;rw [s43_l1] at hR;(try dsimp only at hR);refine ql ?_;refine qb ?_;refine qm ?_;refine qb ?_;obtain ⟨y5, by5, hR⟩ := qj hR;refine jf [.p, .p, .p, .p, .p, .p, .p, .p, .p] (by kernel_rfl) ?_;refine sm rfl rfl ?_;refine sm rfl rfl ?_;refine su (jb (f := S45.c) (l := a0) (a := y3) rfl Tryz.underlying49 ty46 rfl rfl (Int.natCast_nonneg _) hx1) rfl ?_;refine su (qt rfl ty46 rfl rfl rfl) rfl ?_;refine sm rfl rfl ?_;refine sm rfl rfl ?_;refine su (jb (f := S45.c) (l := a1) (a := y5) rfl Tryz.underlying49 ty46 rfl rfl (jd by5) (qv by5)) rfl ?_;refine su (qt rfl ty46 rfl rfl rfl) rfl ?_;refine su (qgc [.int .i64 y3.fFrom, .int .i64 y3.fTo, .int .i64 y3.Days] [.int .i64 y5.fFrom, .int .i64 y5.fTo, .int .i64 y5.Days] rfl qz9 rfl rfl rfl rfl rfl) rfl ?_;refine qc ?_;refine qh _ rfl (fun h4 => ?_) (fun h4 => ?_)
    ·replace h4 : (!(eqAnd [decide (y3.fFrom = y5.fFrom), decide (y3.fTo = y5.fTo), decide (y3.Days = y5.Days)])) = true := h4;replace hR := zf hR h4;(try simp only [bB] at h4);refine qb ?_;refine qa [.p] ?_;refine sa rfl rfl ?_;refine qc ?_;refine qo ?_;obtain rfl := Option.some.inj hR;exact za rfl (rv_g rfl)
    ·replace h4 : (!(eqAnd [decide (y3.fFrom = y5.fFrom), decide (y3.fTo = y5.fTo), decide (y3.Days = y5.Days)])) = false := h4;replace hR := zi hR h4;(try simp only [bB] at h4);refine ql ?_;refine qa [.p, .p, .p] ?_;refine sm rfl rfl ?_;refine su (zg rfl rfl rfl iE) rfl ?_;refine sa rfl rfl ?_;refine qc ?_;exact ⟨rfl, (k2 + 1, t4), ⟨rfl, rfl, rfl, trivial⟩, trivial, rfl, ⟨hd, hR⟩, by simp⟩
   ·replace h2 : (decide (((k2 : Nat) : Int) < (List.length a0 : Int))) = false := h2;obtain rfl := zt hd (decF h2);rw [s43_l1] at hR;refine zc ?_;refine qb ?_;refine qa [.p] ?_;refine sa rfl rfl ?_;refine qc ?_;refine qo ?_;obtain rfl := Option.some.inj hR;exact za rfl (rv_g rfl)
section
variable {E : Env} {ops : Array Oper} {o : Oper} {os : List Oper} {cs : List Cls} {s : ASt} {r : TV} {K : ASt → Prop}
theorem q3i {d i : Nat} {b : Blk} (hd : o.dst = some d) (hg : o.guard = none) (hb : lookO s.mem i = some b) (he : ∀ m, lookO m i = some b → Eff E o m (s.eval E) r) (hn : Nat.blt d s.n = true) (hk : AOps E ops os cs (s.put (some d) r) K) : AOps E ops (o :: os) (.rq i :: cs) s K :=
 ⟨s.put (some d) r, ⟨fun d' h => by rw [hd] at h; cases h; exact Nat.le_of_ble_eq_true hn, true, r, s.mem, none, by unfold Wanted; rw [hg], fun _ => ⟨rfl, rfl, b, hb, he⟩, (by intro h; cases h), by rw [hd]; rfl⟩, hk⟩
theorem q3j {d i : Nat} {blk : Blk} (hd : o.dst = some d) (hg : o.guard = none) (hb : lookO s.mem i = none) (he : ∀ m, lookO m i = none → EffW E o m (s.eval E) r ((i, blk) :: m) none) (hn : Nat.blt d s.n = true) (hk : AOps E ops os cs ⟨s.n, upd d r s.tmps, (i, blk) :: s.mem⟩ K) : AOps E ops (o :: os) (.al i :: cs) s K :=
 ⟨⟨s.n, upd d r s.tmps, (i, blk) :: s.mem⟩, ⟨fun d' h => by rw [hd] at h; cases h; exact Nat.le_of_ble_eq_true hn, true, r, (i, blk) :: s.mem, none, by unfold Wanted; rw [hg], fun _ => ⟨rfl, blk, rfl, hb, he⟩, (by intro h; cases h), by rw [hd]; rfl⟩, hk⟩
end
end Go.Sim
set_option maxRecDepth 10000
namespace Go.Sim
open Go.Proofs
def s160_j1 (rec3 : (List S45) → Int → Option ((List S45) × Int)) (x6 : List (Int × Int)) (x10 : List S45) (y13 : Int) (y14 : Int) (x16 : Int) (x17 : Int) : Option ((List S45) × Int) :=
 rec3 (x10 ++ [(S45.mk y14 x17 (mgetD x6 (s196 y13) 0))]) x16
def s160_j2 (rec4 : Int → Int → Int → Option ((List S45) × Int)) (a0 : List Int) (x18 : Int) (x22 : Int) : Option ((List S45) × Int) :=
 bindO (ixO a0 x18) fun y23 => rec4 (IntKind.i64.wrap (x18 + 1)) x22 y23
def s160_l4 (rec3 : (List S45) → Int → Option ((List S45) × Int)) (a0 : List Int) (x6 : List (Int × Int)) (x10 : List S45) (y13 : Int) (y14 : Int) : Nat → Int → Int → Int → Option ((List S45) × Int)
 | 0, _, _, _ => none
 | k21 + 1, x18, x19, x20 => (bif decide (x18 < (List.length a0 : Int)) then bindO (ixO a0 x18) fun y24 => (bif decide ((s196 y24) = x19) then s160_j2 (fun z0_ z1_ z2_ => s160_l4 rec3 a0 x6 x10 y13 y14 k21 z0_ z1_ z2_) a0 x18 x19 else (bif ((decide ((s196 y24) = IntKind.i64.wrap (x19 + 1))) && (decide ((mgetD x6 (s196 y24) 0) = (mgetD x6 (s196 y13) 0)))) && (decide (IntKind.i64.wrap ((s196 y24) - (s196 y13)) < 57)) then s160_j2 (fun z0_ z1_ z2_ => s160_l4 rec3 a0 x6 x10 y13 y14 k21 z0_ z1_ z2_) a0 x18 (s196 y24) else s160_j1 rec3 x6 x10 y13 y14 x18 x20)) else s160_j1 rec3 x6 x10 y13 y14 x18 x20)
def s160_l3 (a0 : List Int) (x6 : List (Int × Int)) : Nat → (List S45) → Int → Option ((List S45) × Int)
 | 0, _, _ => none
 | k12 + 1, x10, x11 => (bif decide (x11 < (List.length a0 : Int)) then bindO (ixO a0 x11) fun y13 => bindO (ixO a0 x11) fun y14 => bindO (ixO a0 x11) fun y15 => s160_l4 (fun z0_ z1_ => s160_l3 a0 x6 k12 z0_ z1_) a0 x6 x10 y13 y14 ((((List.length a0 : Int) - x11).toNat) + 1) x11 (s196 y13) y15 else some ((s197 x10), 0))
def s160_l2 (a0 : List Int) : List Int → Nat → (List (Int × Int)) → Option ((List S45) × Int)
 | [], k7, x6 => s160_l3 a0 x6 ((((List.length a0 : Int) - 0).toNat) + 1) [] 0
 | y8 :: t9, k7, x6 => s160_l2 a0 t9 (k7 + 1) (mset x6 (s196 y8) (orI (mgetD x6 (s196 y8) 0) (shlI 1 (s188 y8))))
def s160_l1 (a0 : List Int) : List Int → Nat → Option ((List S45) × Int)
 | [], k2 => s160_l2 a0 a0 0 []
 | y3 :: t4, k2 => bindO (bif decide (0 < ((k2 : Nat) : Int)) then ixO a0 (max 0 (IntKind.i64.wrap (((k2 : Nat) : Int) - 1))) else some default) fun y25 => (bif decide ((s152 [(s153 y3), (s154 ((decide (0 < ((k2 : Nat) : Int))) && (decide (y3 ≤ y25))) 11)]) ≠ 0) then some ([], (s152 [(s153 y3), (s154 ((decide (0 < ((k2 : Nat) : Int))) && (decide (y3 ≤ y25))) 11)])) else s160_l1 a0 t4 (k2 + 1))
def s160 (a0 : List Int) : Option ((List S45) × Int) :=
 (bif decide (512 < (List.length a0 : Int)) then some ([], 5) else s160_l1 a0 a0 0)
theorem c160 {g : List (Nat × List Value)} (a0 : List Int) {R : (List S45) × Int}  (hb0 : a0.length ≤ 401) (hR : s160 a0 = some R) : Con (EG g) 86 [G.sl 1 (List.map cInt a0)] (G.tup [G.sl 3 (List.map S45.c R.1), G.int R.2]) := by
 unfold s160 at hR;refine qn Tryz.func86 rfl rfl fun w0 M0 => ?_;refine zj (f := cInt) (l := a0) 0 rfl fun hla0 => ?_;refine qb ?_;refine qa [.p, .p] ?_;refine sa rfl rfl ?_;refine sa rfl rfl ?_;refine qc ?_;refine qb ?_;refine qb ?_;refine qa [.p, .p, .p] ?_;refine sm rfl rfl ?_;refine su (zb (f := cInt) (l := a0) rfl Tryz.underlying64 rfl) rfl ?_;refine su (jg rfl rfl rfl) rfl ?_;refine qc ?_;refine qh _ rfl (fun h1 => ?_) (fun h1 => ?_)
 ·replace h1 : (decide (512 < (List.length a0 : Int))) = true := h1;replace hR := zf hR h1;(try simp only [bB] at h1);refine qb ?_;refine qa [.p, .p] ?_;refine sa rfl rfl ?_;refine sa rfl rfl ?_;refine qc ?_;refine qo ?_;obtain rfl := Option.some.inj hR;exact resN rfl ⟨ww rfl (qef _), rv_g rfl, trivial⟩ (by simp)
 ·replace h1 : (decide (512 < (List.length a0 : Int))) = false := h1;replace hR := zi hR h1;(try simp only [bB] at h1);refine ql ?_;refine qb ?_;refine qb ?_;refine qa [.p, .p, .p] ?_;refine sm rfl rfl ?_;refine su (zb (f := cInt) (l := a0) rfl Tryz.underlying64 rfl) rfl ?_;refine sm rfl rfl ?_;refine qc ?_;refine qm ?_;refine qr (γ := Nat × (List Int)) (fun g => ([(0, .g (G.sl 1 (List.map cInt a0))), (19, .g (G.sl 1 (List.map cInt a0))), (20, .g (G.int (List.length a0 : Int))), (21, .g (G.int ((g.1 : Nat) : Int)))], [])) (fun g => (∀ x ∈ List.take g.1 a0, 0 ≤ x ∧ x ≤ 99999) ∧ a0.drop g.1 = g.2 ∧ s160_l1 a0 g.2 g.1 = some R) (fun g => List.length g.2) ⟨rfl, (0, a0), ⟨rfl, rfl, rfl, rfl, trivial⟩, trivial, rfl, ⟨(fun x hx => absurd hx (by simp)), rfl, hR⟩, trivial⟩ ?_
  ·rintro ⟨k2, t4⟩ ⟨iv1_0, hd, hR⟩;replace hd : a0.drop k2 = t4 := hd;replace hR : s160_l1 a0 t4 k2 = some R := hR;replace iv1_0 : (∀ x ∈ List.take k2 a0, 0 ≤ x ∧ x ≤ 99999) := iv1_0;refine qb ?_;refine qa [.p] ?_;refine su (qx rfl rfl rfl) rfl ?_;refine qc ?_;refine zj (f := cInt) (l := a0) 0 rfl fun hlz1 => ?_;refine qb ?_;refine qh _ rfl (fun h2 => ?_) (fun h2 => ?_)
   ·replace h2 : (decide (((k2 : Nat) : Int) < (List.length a0 : Int))) = true := h2;obtain ⟨y3, t4, rfl, hx1, hd⟩ := zk hd (decT h2);replace h2 := decT h2;rw [s160_l1] at hR;(try dsimp only at hR);refine ql ?_;refine qb ?_;refine qm ?_;refine qb ?_;refine qa [.p, .p, .p, .p, .p] ?_;refine sm rfl rfl ?_;refine su (jb (f := cInt) (l := a0) (a := y3) rfl Tryz.underlying64 ty3 rfl rfl (Int.natCast_nonneg _) hx1) rfl ?_;refine su (qg rfl ty3 rfl) rfl ?_;refine sa rfl rfl ?_;refine sa rfl rfl ?_;refine qc ?_;refine qb ?_;obtain ⟨y25, by25, hR⟩ := qj hR;refine qa [.p, .p, .p, .p, .p, .p, .p, .p, .p, .p, .p, .p, .p, .p, .p, .p, .p, .p] ?_;refine sm rfl rfl ?_;refine su (qf rfl K153 rfl (c153 y3) (qe rfl qi)) rfl ?_;refine sm rfl rfl ?_;refine su (jg rfl rfl rfl) rfl ?_;refine sm rfl rfl ?_;refine sg rfl rfl (fun h => qk rfl rfl) rfl ?_;refine sg rfl rfl (fun h => qk rfl rfl) rfl ?_;refine sg rfl rfl (fun h => qk rfl rfl) rfl ?_;refine sg rfl rfl (fun h => kr rfl (gd h rfl) rfl) rfl ?_;refine sg rfl rfl (fun h => qzl rfl rfl (gd h rfl)) rfl ?_;refine sg rfl rfl (fun h => jb (f := cInt) (l := a0) (a := y25) rfl Tryz.underlying64 ty3 (gd h rfl) (gd h rfl) (jd (ko by25 h)) (qv (ko by25 h))) rfl ?_;refine sg rfl rfl (fun h => qg rfl ty3 (gd h rfl)) rfl ?_;refine sg rfl rfl (fun h => vm rfl (gd h rfl) (gd h rfl)) rfl ?_;refine su (zl rfl rfl rfl rfl) rfl ?_;refine su (qf rfl K154 rfl (c154 ((decide (0 < ((k2 : Nat) : Int))) && (decide (y3 ≤ y25))) 11) (qe rfl (qe rfl qi))) rfl ?_;refine su (qq rfl Tryz.underlying156 ty37 z37 rfl (qu rfl (qu rfl j5)) rfl (by simp []) (by decide)) rfl ?_;refine su (qf rfl K152 rfl (c152 [(s153 y3), (s154 ((decide (0 < ((k2 : Nat) : Int))) && (decide (y3 ≤ y25))) 11)]) (qe rfl qi)) rfl ?_;refine sa rfl rfl ?_;refine qc ?_;refine qb ?_;refine qa [.p, .p] ?_;refine sm rfl rfl ?_;refine su (zu rfl rfl rfl) rfl ?_;refine qc ?_;refine qh _ rfl (fun h10 => ?_) (fun h10 => ?_)
    ·replace h10 : (decide ((s152 [(s153 y3), (s154 ((decide (0 < ((k2 : Nat) : Int))) && (decide (y3 ≤ y25))) 11)]) ≠ 0)) = true := h10;replace hR := zf hR h10;(try simp only [bB] at h10);refine qb ?_;refine qa [.p, .p, .p] ?_;refine sm rfl rfl ?_;refine sa rfl rfl ?_;refine sa rfl rfl ?_;refine qc ?_;refine qo ?_;obtain rfl := Option.some.inj hR;exact resN rfl ⟨ww rfl (qef _), rv_g rfl, trivial⟩ (by simp)
    ·replace h10 : (decide ((s152 [(s153 y3), (s154 ((decide (0 < ((k2 : Nat) : Int))) && (decide (y3 ≤ y25))) 11)]) ≠ 0)) = false := h10;replace hR := zi hR h10;(try simp only [bB] at h10);refine ql ?_;refine qa [.p, .p] ?_;refine su (zg rfl rfl rfl iE) rfl ?_;refine sm rfl rfl ?_;refine qc ?_;exact ⟨rfl, (k2 + 1, t4), ⟨rfl, rfl, rfl, rfl, trivial⟩, trivial, rfl, ⟨(qus iv1_0 hx1 (q1l h10)), hd, hR⟩, by simp⟩
   ·replace h2 : (decide (((k2 : Nat) : Int) < (List.length a0 : Int))) = false := h2;obtain rfl := zt hd (decF h2);rw [s160_l1] at hR;refine zc ?_;refine qb ?_;refine qa [.w, .p] ?_;refine sw (qek 47 rfl rfl) rfl ?_;refine su (qem rfl rfl) rfl ?_;refine qc ?_;refine qb ?_;refine qb ?_;refine qa [.p, .p, .p] ?_;refine sm rfl rfl ?_;refine su (zb (f := cInt) (l := a0) rfl Tryz.underlying64 rfl) rfl ?_;refine sm rfl rfl ?_;refine qc ?_;refine qm ?_;refine qr (γ := Nat × (List Int) × (List (Int × Int))) (fun g => ([(0, .g (G.sl 1 (List.map cInt a0))), (7, .omap 47), (48, .g (G.sl 1 (List.map cInt a0))), (49, .g (G.int (List.length a0 : Int))), (50, .g (G.int ((g.1 : Nat) : Int)))], [(47, mpB (K := Int) (V := Int) (Value.int .i64) (fun v => G.int v) g.2.2)])) (fun g => a0.drop g.1 = g.2.1 ∧ s160_l2 a0 g.2.1 g.1 g.2.2 = some R) (fun g => List.length g.2.1) ⟨rfl, (0, a0, []), ⟨rfl, rfl, rfl, rfl, rfl, trivial⟩, ⟨rfl, trivial⟩, rfl, ⟨rfl, hR⟩, trivial⟩ ?_
    ·rintro ⟨k7, t9, x6⟩ ⟨hd, hR⟩;replace hd : a0.drop k7 = t9 := hd;replace hR : s160_l2 a0 t9 k7 x6 = some R := hR;refine qb ?_;refine qa [.p] ?_;refine su (qx rfl rfl rfl) rfl ?_;refine qc ?_;refine zj (f := cInt) (l := a0) 0 rfl fun hlz2 => ?_;refine qb ?_;refine qh _ rfl (fun h4 => ?_) (fun h4 => ?_)
     ·replace h4 : (decide (((k7 : Nat) : Int) < (List.length a0 : Int))) = true := h4;obtain ⟨y8, t9, rfl, hx2, hd⟩ := zk hd (decT h4);replace h4 := decT h4;rw [s160_l2] at hR;(try dsimp only at hR);refine ql ?_;refine qb ?_;refine qm ?_;refine qb ?_;refine qa [.p, .p, .p] ?_;refine su (jb (f := cInt) (l := a0) (a := y8) rfl Tryz.underlying64 ty3 rfl rfl (Int.natCast_nonneg _) hx2) rfl ?_;refine su (qg rfl ty3 rfl) rfl ?_;refine sa rfl rfl ?_;refine qc ?_;have hv8 := qut (q1k iv1_0 (by have := decF h2; omega) hx2);refine jf [.p, .p, .p, .r, .p, .p, .p, .p, .w] (by kernel_rfl) ?_;refine su (qak rfl rfl) rfl ?_;refine sm rfl rfl ?_;refine su (qf rfl K196 rfl (c196 y8) (qe rfl qi)) rfl ?_;refine sr (qa2 (kf := Value.int .i64) (vf := (fun v => G.int v)) (m := x6) (k := (s196 y8)) (z := 0) rfl Tryz.underlying239 Tryz.underlying3 zr3 (fun _ _ => rfl) rfl rfl rfl) rfl ?_;refine sm rfl rfl ?_;refine su (qf rfl K188 rfl (c188 y8) (qe rfl qi)) rfl ?_;refine su (qpy rfl rfl rfl (by omega)) rfl ?_;refine su (qpx rfl rfl rfl) rfl ?_;refine ji rfl rfl (qfm (kf := Value.int .i64) (vf := (fun v => G.int v)) (m := x6) (k := (s196 y8)) (v := orI (mgetD x6 (s196 y8) 0) (shlI 1 (s188 y8))) (ins := false) rfl Tryz.underlying239 Tryz.underlying3 rfl rfl rfl rfl) ?_;refine qc ?_;refine qa [.p, .p] ?_;refine su (zg rfl rfl rfl iE) rfl ?_;refine sm rfl rfl ?_;refine qc ?_;exact ⟨rfl, (k7 + 1, t9, mset x6 (s196 y8) (orI (mgetD x6 (s196 y8) 0) (shlI 1 (s188 y8)))), ⟨rfl, rfl, rfl, rfl, rfl, trivial⟩, ⟨rfl, trivial⟩, rfl, ⟨hd, hR⟩, by simp⟩
     ·replace h4 : (decide (((k7 : Nat) : Int) < (List.length a0 : Int))) = false := h4;obtain rfl := zt hd (decF h4);rw [s160_l2] at hR;refine zc ?_;refine qb ?_;refine qa [.w] ?_;refine sw (jz 10 23 3 rfl rfl rfl) rfl ?_;refine qc ?_;refine qb ?_;refine qb ?_;refine qa [.p] ?_;refine sa rfl rfl ?_;refine qc ?_;refine qm ?_;refine qr (γ := Nat × (List S45) × Int) (fun g => ([(0, .g (G.sl 1 (List.map cInt a0))), (7, .omap 47), (10, .osl 10 3 0 (List.length g.2.1)), (11, .g (G.int g.2.2))], [(10, .arr 23 3 (List.map S45.c g.2.1)), (47, mpB (K := Int) (V := Int) (Value.int .i64) (fun v => G.int v) x6)])) (fun g => ((List.length a0 : Int) - g.2.2).toNat < g.1 ∧ 0 ≤ g.2.2 ∧ g.2.2 ≤ (List.length a0 : Int) ∧ (g.2.1.length : Int) ≤ g.2.2 ∧ s160_l3 a0 x6 g.1 g.2.1 g.2.2 = some R) (fun g => g.1) ⟨rfl, ((((List.length a0 : Int) - 0).toNat) + 1, [], 0), ⟨rfl, rfl, rfl, rfl, trivial⟩, ⟨rfl, rfl, trivial⟩, rfl, ⟨Nat.lt_succ_self _, iD, iD, iD, hR⟩, trivial⟩ ?_
      ·rintro ⟨k12, x10, x11⟩ ⟨hk3, iv3_0, iv3_1, iv3_2, hR⟩;replace hk3 : ((List.length a0 : Int) - x11).toNat < k12 := hk3;replace hR : s160_l3 a0 x6 k12 x10 x11 = some R := hR;replace iv3_0 : 0 ≤ x11 := iv3_0;replace iv3_1 : x11 ≤ (List.length a0 : Int) := iv3_1;replace iv3_2 : (x10.length : Int) ≤ x11 := iv3_2;obtain ⟨k12, rfl⟩ : ∃ m, k12 = m + 1 := ⟨k12 - 1, by omega⟩;rw [s160_l3] at hR;(try dsimp only at hR);refine qb ?_;refine qb ?_;refine qa [.p, .p, .p, .p] ?_;refine sm rfl rfl ?_;refine sm rfl rfl ?_;refine su (zb (f := cInt) (l := a0) rfl Tryz.underlying64 rfl) rfl ?_;refine su (qx rfl rfl rfl) rfl ?_;refine qc ?_;refine qh _ rfl (fun h6 => ?_) (fun h6 => ?_)
       ·replace h6 : (decide (x11 < (List.length a0 : Int))) = true := h6;replace hR := zf hR h6;(try simp only [bB] at h6);refine ql ?_;refine qm ?_;refine qur ?_;refine qb ?_;obtain ⟨y13, by13, hR⟩ := qj hR;refine qa [.p, .p, .p, .p, .p, .p] ?_;refine sm rfl rfl ?_;refine sm rfl rfl ?_;refine su (jb (f := cInt) (l := a0) (a := y13) rfl Tryz.underlying64 ty3 rfl rfl (jd by13) (qv by13)) rfl ?_;refine su (qg rfl ty3 rfl) rfl ?_;refine su (qf rfl K196 rfl (c196 y13) (qe rfl qi)) rfl ?_;refine sa rfl rfl ?_;refine qc ?_;refine qb ?_;obtain ⟨y14, by14, hR⟩ := qj hR;obtain ⟨y15, by15, hR⟩ := qj hR;refine jf [.p, .p, .p, .p, .p, .p, .p, .p, .p, .p, .rq 47, .p, .al 13, .w] (by kernel_rfl) ?_;refine sm rfl rfl ?_;refine sm rfl rfl ?_;refine su (jb (f := cInt) (l := a0) (a := y14) rfl Tryz.underlying64 ty3 rfl rfl (jd by14) (qv by14)) rfl ?_;refine su (qg rfl ty3 rfl) rfl ?_;refine sm rfl rfl ?_;refine sm rfl rfl ?_;refine su (jb (f := cInt) (l := a0) (a := y15) rfl Tryz.underlying64 ty3 rfl rfl (jd by15) (qv by15)) rfl ?_;refine su (qg rfl ty3 rfl) rfl ?_;refine su (qak rfl rfl) rfl ?_;refine sm rfl rfl ?_;refine q3i (i := 47) rfl rfl rfl (fun m_ hm_ => qa2 (kf := Value.int .i64) (vf := (fun v => G.int v)) (m := x6) (k := (s196 y13)) (z := 0) rfl Tryz.underlying239 Tryz.underlying3 zr3 (fun _ _ => rfl) rfl rfl hm_) rfl ?_;refine su (jy rfl z46 rfl pl46 (zx rfl (zx rfl (zx rfl vy))) rfl) rfl ?_;refine q3j (i := 13) rfl rfl rfl (fun m_ hm_ => zr 13 rfl z46 rfl hm_) rfl ?_;refine ji rfl rfl (qy (tv := .g (G.agg [G.int y14, G.int y15, G.int (mgetD x6 (s196 y13) 0)])) rfl ty46 rfl rfl rfl rfl rfl) ?_;refine qc ?_;refine qb ?_;refine qa [.p, .p] ?_;refine sm rfl rfl ?_;refine sa rfl rfl ?_;refine qc ?_;refine qb ?_;refine qsl ?_;refine j6 (γ := Int × Int) (fun g => ([(0, .g (G.sl 1 (List.map cInt a0))), (7, .omap 47), (10, .osl 10 3 0 (List.length x10)), (11, .g (G.int g.1)), (13, .ptr 13 0)], [(10, .arr 23 3 (List.map S45.c x10)), (13, .box [.g (G.int y14), .g (G.int g.2), .g (G.int (mgetD x6 (s196 y13) 0))]), (47, mpB (K := Int) (V := Int) (Value.int .i64) (fun v => G.int v) x6)])) (fun g => x11 < g.1 ∧ g.1 ≤ (List.length a0 : Int) ∧ s160_j1 (fun z0_ z1_ => s160_l3 a0 x6 k12 z0_ z1_) x6 x10 y13 y14 g.1 g.2 = some R) ?_ ?_
        ·refine qm ?_;refine qr (γ := Nat × Int × Int × Int) (fun g => ([(0, .g (G.sl 1 (List.map cInt a0))), (7, .omap 47), (10, .osl 10 3 0 (List.length x10)), (11, .g (G.int g.2.1)), (12, .g (G.int (s196 y13))), (13, .ptr 13 0), (14, .g (G.int g.2.2.1))], [(10, .arr 23 3 (List.map S45.c x10)), (13, .box [.g (G.int y14), .g (G.int g.2.2.2), .g (G.int (mgetD x6 (s196 y13) 0))]), (47, mpB (K := Int) (V := Int) (Value.int .i64) (fun v => G.int v) x6)])) (fun g => ((List.length a0 : Int) - g.2.1).toNat < g.1 ∧ 0 ≤ g.2.1 ∧ g.2.1 ≤ (List.length a0 : Int) ∧ x11 ≤ g.2.1 ∧ (g.2.1 = x11 → g.2.2.1 = s196 y13) ∧ s160_l4 (fun z0_ z1_ => s160_l3 a0 x6 k12 z0_ z1_) a0 x6 x10 y13 y14 g.1 g.2.1 g.2.2.1 g.2.2.2 = some R) (fun g => g.1) ⟨rfl, ((((List.length a0 : Int) - x11).toNat) + 1, x11, (s196 y13), y15), ⟨rfl, rfl, rfl, rfl, rfl, rfl, rfl, trivial⟩, ⟨rfl, rfl, rfl, trivial⟩, rfl, ⟨Nat.lt_succ_self _, iD, iD, iD, iD, hR⟩, trivial⟩ ?_
         ·rintro ⟨k21, x18, x19, x20⟩ ⟨hk4, iv4_0, iv4_1, iv4_2, iv4_3, hR⟩;replace hk4 : ((List.length a0 : Int) - x18).toNat < k21 := hk4;replace hR : s160_l4 (fun z0_ z1_ => s160_l3 a0 x6 k12 z0_ z1_) a0 x6 x10 y13 y14 k21 x18 x19 x20 = some R := hR;replace iv4_0 : 0 ≤ x18 := iv4_0;replace iv4_1 : x18 ≤ (List.length a0 : Int) := iv4_1;replace iv4_2 : x11 ≤ x18 := iv4_2;replace iv4_3 : (x18 = x11 → x19 = s196 y13) := iv4_3;obtain ⟨k21, rfl⟩ : ∃ m, k21 = m + 1 := ⟨k21 - 1, by omega⟩;rw [s160_l4] at hR;(try dsimp only at hR);refine qb ?_;refine qb ?_;refine qa [.p, .p, .p, .p] ?_;refine sm rfl rfl ?_;refine sm rfl rfl ?_;refine su (zb (f := cInt) (l := a0) rfl Tryz.underlying64 rfl) rfl ?_;refine su (qx rfl rfl rfl) rfl ?_;refine qc ?_;refine qh _ rfl (fun h7 => ?_) (fun h7 => ?_)
          ·replace h7 : (decide (x18 < (List.length a0 : Int))) = true := h7;replace hR := zf hR h7;(try simp only [bB] at h7);refine ql ?_;refine qb ?_;refine qm ?_;refine j6 (γ := Int) (fun g => ([(0, .g (G.sl 1 (List.map cInt a0))), (7, .omap 47), (10, .osl 10 3 0 (List.length x10)), (11, .g (G.int x18)), (12, .g (G.int (s196 y13))), (13, .ptr 13 0), (14, .g (G.int g))], [(10, .arr 23 3 (List.map S45.c x10)), (13, .box [.g (G.int y14), .g (G.int x20), .g (G.int (mgetD x6 (s196 y13) 0))]), (47, mpB (K := Int) (V := Int) (Value.int .i64) (fun v => G.int v) x6)])) (fun g => s160_j2 (fun z0_ z1_ z2_ => s160_l4 (fun z0_ z1_ => s160_l3 a0 x6 k12 z0_ z1_) a0 x6 x10 y13 y14 k21 z0_ z1_ z2_) a0 x18 g = some R) ?_ ?_
           ·refine qb ?_;obtain ⟨y24, by24, hR⟩ := qj hR
            have hy24 : x18 = x11 → s196 y24 = s196 y13 := fun e => by rw [e] at by24; rw [Option.some.inj (by24.symm.trans by13)]
            refine qa [.p, .p, .p, .p, .p, .p] ?_;refine sm rfl rfl ?_;refine sm rfl rfl ?_;refine su (jb (f := cInt) (l := a0) (a := y24) rfl Tryz.underlying64 ty3 rfl rfl (jd by24) (qv by24)) rfl ?_;refine su (qg rfl ty3 rfl) rfl ?_;refine su (qf rfl K196 rfl (c196 y24) (qe rfl qi)) rfl ?_;refine sa rfl rfl ?_;refine qc ?_;refine qm ?_;refine qb ?_;refine qa [.p, .p, .p, .p] ?_;refine sm rfl rfl ?_;refine sm rfl rfl ?_;refine su (j9 rfl rfl rfl) rfl ?_;refine sa rfl rfl ?_;refine qc ?_;refine qh _ rfl (fun h8 => ?_) (fun h8 => ?_)
            ·replace h8 : (decide ((s196 y24) = x19)) = true := h8;replace hR := zf hR h8;(try simp only [bB] at h8);refine ql ?_;exact ⟨rfl, x19, ⟨rfl, rfl, rfl, rfl, rfl, rfl, rfl, trivial⟩, ⟨rfl, rfl, rfl, trivial⟩, rfl, hR, trivial⟩
            ·replace h8 : (decide ((s196 y24) = x19)) = false := h8;replace hR := zi hR h8;(try simp only [bB] at h8);refine qb ?_;refine qa [.p, .p, .p, .p, .p, .p, .p, .r, .p, .r, .p, .p, .p, .p, .p, .p, .p, .p, .p] ?_;refine sm rfl rfl ?_;refine sm rfl rfl ?_;refine su (jx rfl rfl rfl) rfl ?_;refine su (j9 rfl rfl rfl) rfl ?_;refine sm rfl rfl ?_;refine sg rfl rfl (fun h => qak rfl rfl) rfl ?_;refine sg rfl rfl (fun h => qk rfl rfl) rfl ?_;refine qcr rfl rfl rfl (v6 _ _) (fun h => qa2 (kf := Value.int .i64) (vf := (fun v => G.int v)) (m := x6) (k := (s196 y24)) (z := 0) rfl Tryz.underlying239 Tryz.underlying3 zr3 (fun _ _ => rfl) (gd h rfl) (gd h rfl) rfl) rfl ?_;refine sg rfl rfl (fun h => zo rfl qe4 rfl) rfl ?_;refine qcr rfl rfl rfl (v6 _ _) (fun h => jl rfl ty3 (gd h rfl) rfl rfl) rfl ?_;refine sg rfl rfl (fun h => j9 rfl (gd h rfl) (gd h rfl)) rfl ?_;refine su (zl rfl rfl rfl rfl) rfl ?_;refine sm rfl rfl ?_;refine sg rfl rfl (fun h => qk rfl rfl) rfl ?_;refine sg rfl rfl (fun h => qk rfl rfl) rfl ?_;refine sg rfl rfl (fun h => kr rfl (gd h rfl) (gd h rfl)) rfl ?_;refine sg rfl rfl (fun h => qx rfl (gd h rfl) rfl) rfl ?_;refine su (zl rfl rfl rfl rfl) rfl ?_;refine sa rfl rfl ?_;refine qc ?_;refine qh _ rfl (fun h9 => ?_) (fun h9 => ?_)
             ·replace h9 : (((decide ((s196 y24) = IntKind.i64.wrap (x19 + 1))) && (decide ((mgetD x6 (s196 y24) 0) = (mgetD x6 (s196 y13) 0)))) && (decide (IntKind.i64.wrap ((s196 y24) - (s196 y13)) < 57))) = true := h9;replace hR := zf hR h9;(try simp only [bB] at h9);refine qa [.p, .p] ?_;refine sm rfl rfl ?_;refine sa rfl rfl ?_;refine qc ?_;exact ⟨rfl, (s196 y24), ⟨rfl, rfl, rfl, rfl, rfl, rfl, rfl, trivial⟩, ⟨rfl, rfl, rfl, trivial⟩, rfl, hR, trivial⟩
             ·replace h9 : (((decide ((s196 y24) = IntKind.i64.wrap (x19 + 1))) && (decide ((mgetD x6 (s196 y24) 0) = (mgetD x6 (s196 y13) 0)))) && (decide (IntKind.i64.wrap ((s196 y24) - (s196 y13)) < 57))) = false := h9;replace hR := zi hR h9;(try simp only [bB] at h9);refine zc ?_;exact ⟨rfl, (x18, x20), ⟨rfl, rfl, rfl, rfl, rfl, trivial⟩, ⟨rfl, rfl, rfl, trivial⟩, rfl, ⟨iB, iB, hR⟩, trivial⟩
           ·rintro x22 hR;replace hR : s160_j2 (fun z0_ z1_ z2_ => s160_l4 (fun z0_ z1_ => s160_l3 a0 x6 k12 z0_ z1_) a0 x6 x10 y13 y14 k21 z0_ z1_ z2_) a0 x18 x22 = some R := hR;unfold s160_j2 at hR;obtain ⟨y23, by23, hR⟩ := qj hR;refine qa [.p, .p, .p, .p, .p, .w] ?_;refine sm rfl rfl ?_;refine sm rfl rfl ?_;refine su (jb (f := cInt) (l := a0) (a := y23) rfl Tryz.underlying64 ty3 rfl rfl (jd by23) (qv by23)) rfl ?_;refine su (qg rfl ty3 rfl) rfl ?_;refine su (zo rfl qc3 rfl) rfl ?_;refine ji rfl rfl (qy (tv := .g (G.int y23)) rfl ty3 rfl rfl rfl rfl rfl) ?_;refine qc ?_;have hw := wrap_i64 (n := x18 + 1) ⟨by omega, by omega⟩;refine qa [.p, .p, .p] ?_;refine sm rfl rfl ?_;refine su (jx rfl rfl rfl) rfl ?_;refine sa rfl rfl ?_;refine qc ?_;exact ⟨rfl, (k21, IntKind.i64.wrap (x18 + 1), x22, y23), ⟨rfl, rfl, rfl, rfl, rfl, rfl, rfl, trivial⟩, ⟨rfl, rfl, rfl, trivial⟩, rfl, ⟨iB, iB, iB, iB, iB, hR⟩, by simp⟩
          ·replace h7 : (decide (x18 < (List.length a0 : Int))) = false := h7;replace hR := zi hR h7;(try simp only [bB] at h7);refine zc ?_;exact ⟨rfl, (x18, x20), ⟨rfl, rfl, rfl, rfl, rfl, trivial⟩, ⟨rfl, rfl, rfl, trivial⟩, rfl, ⟨iB, iB, hR⟩, trivial⟩
        ·rintro ⟨x16, x17⟩ ⟨jv2_0, jv2_1, hR⟩;replace jv2_0 : x11 < x16 := jv2_0;replace jv2_1 : x16 ≤ (List.length a0 : Int) := jv2_1;replace hR : s160_j1 (fun z0_ z1_ => s160_l3 a0 x6 k12 z0_ z1_) x6 x10 y13 y14 x16 x17 = some R := hR;unfold s160_j1 at hR;refine qa [.p, .r, .p, .k, .p] ?_;refine su (qp rfl rfl) rfl ?_;refine sr (zw rfl ty46 rfl rfl rfl rfl) rfl ?_;refine su (qq rfl Tryz.underlying49 ty46 z46 rfl (qu rfl j5) rfl (by exact lens rfl) (by decide)) rfl ?_;refine st_k rfl rfl (vw (f := S45.c) (out := x10) (new := [(S45.mk y14 x17 (mgetD x6 (s196 y13) 0))]) rfl q2q rfl rfl (qab rfl (qac (by decide) (by simp [S45.c]))) (qd3 rfl) (by simp; omega)) rfl ?_;refine su (zh rfl rfl) rfl ?_;refine qc ?_;exact ⟨rfl, (k12, x10 ++ [(S45.mk y14 x17 (mgetD x6 (s196 y13) 0))], x16), ⟨rfl, rfl, rfl, rfl, trivial⟩, ⟨rfl, rfl, trivial⟩, rfl, ⟨iB, iB, iB, iB, hR⟩, by simp⟩
       ·replace h6 : (decide (x11 < (List.length a0 : Int))) = false := h6;replace hR := zi hR h6;(try simp only [bB] at h6);refine zc ?_;refine qb ?_;refine qag (l := [(10, .g (G.sl 3 (List.map S45.c x10)))]) (m := []) 10 rfl ⟨.inr (qp7 rfl), trivial⟩ trivial rfl rfl ?_;refine qa [.p, .p, .p, .p] ?_;refine sm rfl rfl ?_;refine su (qf rfl K197 rfl (c197 x10) (qe rfl qi)) rfl ?_;refine sa rfl rfl ?_;refine sa rfl rfl ?_;refine qc ?_;refine qo ?_;obtain rfl := Option.some.inj hR;exact resN rfl ⟨rv_g rfl, rv_g rfl, trivial⟩ (by simp)
theorem c69' {g : List (Nat × List Value)} (a0 : S45) : Con (EG g) 16 [G.agg [G.int a0.fFrom, G.int a0.fTo, G.int a0.Days]] (G.tup [G.sl 1 (List.map cInt ((s69 a0)).1), G.int ((s69 a0)).2]) := by
 intro w M vs hM hgl hv;refine (c69 a0 w M vs hM hgl hv).mono ?_;rintro e w' ⟨v, h1, h2, us, h3, h4⟩;refine ⟨v, h1, h2, us, h3, ?_⟩
 match us, h4 with
 | [u1, u2], ⟨k1, k2, k3⟩ => exact ⟨qow k1, k2, k3⟩
theorem wo {p : S45} (h : s102 p = 0) : (s104 p).length ≤ 401 ∧ ∀ d ∈ s104 p, 0 ≤ d ∧ d ≤ 99999 := by
 obtain ⟨q1, q2, q3, q4, q5, q6⟩ := period_ok p h;rw [qcy p h];refine ⟨?_, fun d hd => ?_⟩
 ·have := qat p.Days (p.fTo + 1 - p.fFrom).toNat p.fFrom
  omega
 ·have := vu p.Days (p.fTo + 1 - p.fFrom).toNat p.fFrom d hd
  omega
theorem qhc {p : S45} (h : s102 p = 0) : (s69 p).1 = s104 p := by
 rw [qcy p h];unfold s69;rw [decide_eq_false (by simpa using h), cond_false]
theorem quu {p : S45} (h : s102 p = 0) : ((s69 p).1).length ≤ 401 := by
 rw [qhc h]; exact (wo h).1
end Go.Sim
set_option maxRecDepth 10000
namespace Go.Sim
open Go.Proofs
def s108_j1 (rec2 : Nat → (List Int) → Option ((List S45) × Int)) (k9 : Nat) (x13 : List Int) : Option ((List S45) × Int) :=
 rec2 (k9 + 1) x13
def s108_l2 (a1 : S67) : List Int → Nat → (List Int) → Option ((List S45) × Int)
 | [], k9, x7 => bindO (s160 x7) fun r12 => some (r12.1, r12.2)
 | y10 :: t11, k9, x7 => bindO (s159 y10 a1) fun r14 => (bif decide (r14.2 = 0) then s108_j1 (fun k_ z0_ => s108_l2 a1 t11 k_ z0_) k9 (x7 ++ [r14.1]) else s108_j1 (fun k_ z0_ => s108_l2 a1 t11 k_ z0_) k9 x7)
def s108_l1 (a0 : S45) (a1 : S67) : List Int → Nat → Int → ByteArray → Option ((List S45) × Int)
 | [], k4, x2, x3 => (bif (decide (0 < (List.length ((s69 a0).1) : Int))) && (!decide (x3 = a1.Kind)) then some ([], 13) else s108_l2 a1 ((s69 a0).1) 0 [])
 | y5 :: t6, k4, x2, x3 => bindO (s158 y5) fun r15 => (bif (decide (r15.2 ≠ 0)) || ((decide (0 < ((k4 : Nat) : Int))) && (!(eqAnd [decide (r15.1.Year = x2), decide (r15.1.Kind = x3)]))) then some ([], 30) else s108_l1 a0 a1 t6 (k4 + 1) r15.1.Year r15.1.Kind)
def s108 (a0 : S45) (a1 : S67) : Option ((List S45) × Int) :=
 s108_l1 a0 a1 ((s69 a0).1) 0 0 ByteArray.empty
theorem c108 (a0 : S45) (a1 : S67) {R : (List S45) × Int}  (hp : s102 a0 = 0) (hR : s108 a0 a1 = some R) : Con (EG glT) 42 [G.agg [G.int a0.fFrom, G.int a0.fTo, G.int a0.Days], G.agg [G.int a1.Year, G.str a1.Kind]] (G.tup [G.sl 3 (List.map S45.c R.1), G.int R.2]) := by
 unfold s108 at hR;refine qn Tryz.func42 rfl rfl fun w0 M0 => ?_;have hl := quu hp;refine qb ?_;refine qa [.p, .p, .p, .p] ?_;refine su (zp rfl rfl) rfl ?_;refine su (zp rfl rfl) rfl ?_;refine sa rfl rfl ?_;refine sa rfl rfl ?_;refine qc ?_;refine qb ?_;refine qa [.p, .p, .p, .p, .p, .p, .p] ?_;refine su (qt rfl ty46 rfl rfl rfl) rfl ?_;refine su (qf rfl K69 rfl (c69' a0) (qe rfl qi)) rfl ?_;refine sm rfl rfl ?_;refine su (qz rfl rfl rfl) rfl ?_;refine su (qz rfl rfl rfl) rfl ?_;refine sa rfl rfl ?_;refine sa rfl rfl ?_;refine qc ?_;refine qb ?_;refine qa [.w] ?_;refine sw (zr 8 rfl z68 rfl rfl) rfl ?_;refine qc ?_;refine qb ?_;refine qb ?_;refine qa [.p, .p, .p] ?_;refine sm rfl rfl ?_;refine su (zb (f := cInt) (l := (s69 a0).1) rfl Tryz.underlying64 rfl) rfl ?_;refine sm rfl rfl ?_;refine qc ?_;refine qm ?_;refine qr (γ := Nat × (List Int) × Int × ByteArray) (fun g => ([(3, .g (G.ref [G.int a1.Year, G.str a1.Kind])), (6, .g (G.sl 1 (List.map cInt ((s69 a0).1)))), (8, .ptr 8 0), (23, .g (G.sl 1 (List.map cInt ((s69 a0).1)))), (24, .g (G.int (List.length ((s69 a0).1) : Int))), (25, .g (G.int ((g.1 : Nat) : Int)))], [(8, .box [.g (G.int g.2.2.1), .g (G.str g.2.2.2)])])) (fun g => ((s69 a0).1).drop g.1 = g.2.1 ∧ s108_l1 a0 a1 g.2.1 g.1 g.2.2.1 g.2.2.2 = some R) (fun g => List.length g.2.1) ⟨rfl, (0, ((s69 a0).1), 0, ByteArray.empty), ⟨rfl, rfl, rfl, rfl, rfl, rfl, trivial⟩, ⟨rfl, trivial⟩, rfl, ⟨rfl, hR⟩, trivial⟩ ?_
 ·rintro ⟨k4, t6, x2, x3⟩ ⟨hd, hR⟩;replace hd : ((s69 a0).1).drop k4 = t6 := hd;replace hR : s108_l1 a0 a1 t6 k4 x2 x3 = some R := hR;refine qb ?_;refine qa [.p] ?_;refine su (qx rfl rfl rfl) rfl ?_;refine qc ?_;refine zj (f := cInt) (l := (s69 a0).1) 6 rfl fun hlz1 => ?_;refine qb ?_;refine qh _ rfl (fun h1 => ?_) (fun h1 => ?_)
  ·replace h1 : (decide (((k4 : Nat) : Int) < (List.length ((s69 a0).1) : Int))) = true := h1;obtain ⟨y5, t6, rfl, hx1, hd⟩ := zk hd (decT h1);replace h1 := decT h1;rw [s108_l1] at hR;(try dsimp only at hR);refine ql ?_;refine qb ?_;refine qm ?_;refine qb ?_;refine qa [.p, .p, .p, .p, .p] ?_;refine sm rfl rfl ?_;refine su (jb (f := cInt) (l := (s69 a0).1) (a := y5) rfl Tryz.underlying64 ty3 rfl rfl (Int.natCast_nonneg _) hx1) rfl ?_;refine su (qg rfl ty3 rfl) rfl ?_;refine sa rfl rfl ?_;refine sa rfl rfl ?_;refine qc ?_;refine qb ?_;obtain ⟨r15, br15, hR⟩ := qj hR;refine qa [.p, .p, .p, .p, .p, .w, .w, .p] ?_;refine sm rfl rfl ?_;refine su (qf rfl K158 rfl (c158 y5 br15) (qe rfl qi)) rfl ?_;refine sm rfl rfl ?_;refine su (qz rfl rfl rfl) rfl ?_;refine su (qz rfl rfl rfl) rfl ?_;refine sw (zr 11 rfl z68 rfl rfl) rfl ?_;refine ji rfl rfl (qy (tv := .g (G.agg [G.int r15.1.Year, G.str r15.1.Kind])) rfl ty68 rfl rfl rfl rfl rfl) ?_;refine sa rfl rfl ?_;refine qc ?_;refine qb ?_;refine qb ?_;refine qa [.p, .p, .p, .p, .p, .p, .r, .r, .p, .p, .p] ?_;refine sm rfl rfl ?_;refine su (zu rfl rfl rfl) rfl ?_;refine sm rfl rfl ?_;refine sg rfl rfl (fun h => qk rfl rfl) rfl ?_;refine sg rfl rfl (fun h => jg rfl (gd h rfl) rfl) rfl ?_;refine sg rfl rfl (fun h => qk rfl (gd h rfl)) rfl ?_;refine qcr rfl rfl rfl (je _ _ _) (fun h => zw rfl ty68 rfl rfl rfl rfl) rfl ?_;refine qcr rfl rfl rfl (je _ _ _) (fun h => zw rfl ty68 rfl rfl rfl rfl) rfl ?_;refine st_g rfl rfl rfl (je _ _ _) (fun h => qgc [.int .i64 r15.1.Year, .string r15.1.Kind] [.int .i64 x2, .string x3] rfl q0a (gd h rfl) (gd h rfl) rfl rfl rfl) rfl ?_;refine sg rfl rfl (fun h => zl rfl (gd h rfl) rfl (gd2 h rfl)) rfl ?_;refine su (jr rfl rfl rfl rfl) rfl ?_;refine qc ?_;refine qh _ rfl (fun h7 => ?_) (fun h7 => ?_)
   ·replace h7 : ((decide (r15.2 ≠ 0)) || ((decide (0 < ((k4 : Nat) : Int))) && (!(eqAnd [decide (r15.1.Year = x2), decide (r15.1.Kind = x3)])))) = true := h7;replace hR := zf hR h7;(try simp only [bB] at h7);refine qb ?_;refine qa [.p, .p] ?_;refine sa rfl rfl ?_;refine sa rfl rfl ?_;refine qc ?_;refine qo ?_;obtain rfl := Option.some.inj hR;exact resN rfl ⟨ww rfl (qef _), rv_g rfl, trivial⟩ (by simp)
   ·replace h7 : ((decide (r15.2 ≠ 0)) || ((decide (0 < ((k4 : Nat) : Int))) && (!(eqAnd [decide (r15.1.Year = x2), decide (r15.1.Kind = x3)])))) = false := h7;replace hR := zi hR h7;(try simp only [bB] at h7);refine ql ?_;refine qa [.r, .w] ?_;refine sr (zw rfl ty68 rfl rfl rfl rfl) rfl ?_;refine ji rfl rfl (qy (tv := .g (G.agg [G.int r15.1.Year, G.str r15.1.Kind])) rfl ty68 rfl rfl rfl rfl rfl) ?_;refine qc ?_;refine qa [.p, .p] ?_;refine su (zg rfl rfl rfl iE) rfl ?_;refine sm rfl rfl ?_;refine qc ?_;exact ⟨rfl, (k4 + 1, t6, r15.1.Year, r15.1.Kind), ⟨rfl, rfl, rfl, rfl, rfl, rfl, trivial⟩, ⟨rfl, trivial⟩, rfl, ⟨hd, hR⟩, by simp⟩
  ·replace h1 : (decide (((k4 : Nat) : Int) < (List.length ((s69 a0).1) : Int))) = false := h1;obtain rfl := zt hd (decF h1);rw [s108_l1] at hR;refine zc ?_;refine qb ?_;refine qb ?_;refine qa [.p, .p, .p, .p, .p, .r, .p, .p, .p, .p] ?_;refine sm rfl rfl ?_;refine su (zb (f := cInt) (l := (s69 a0).1) rfl Tryz.underlying64 rfl) rfl ?_;refine su (jg rfl rfl rfl) rfl ?_;refine sm rfl rfl ?_;refine sg rfl rfl (fun h => zo rfl qc4 rfl) rfl ?_;refine qcr rfl rfl rfl (v6 _ _) (fun h => jl rfl ty9 (gd h rfl) rfl rfl) rfl ?_;refine sg rfl rfl (fun h => qd rfl qc4 rfl) rfl ?_;refine sg rfl rfl (fun h => qg rfl ty9 (gd h rfl)) rfl ?_;refine sg rfl rfl (fun h => kw rfl (gd h rfl) (gd h rfl)) rfl ?_;refine su (zl rfl rfl rfl rfl) rfl ?_;refine qc ?_;refine qh _ rfl (fun h3 => ?_) (fun h3 => ?_)
   ·replace h3 : ((decide (0 < (List.length ((s69 a0).1) : Int))) && (!decide (x3 = a1.Kind))) = true := h3;replace hR := zf hR h3;(try simp only [bB] at h3);refine qb ?_;refine qa [.p, .p] ?_;refine sa rfl rfl ?_;refine sa rfl rfl ?_;refine qc ?_;refine qo ?_;obtain rfl := Option.some.inj hR;exact resN rfl ⟨ww rfl (qef _), rv_g rfl, trivial⟩ (by simp)
   ·replace h3 : ((decide (0 < (List.length ((s69 a0).1) : Int))) && (!decide (x3 = a1.Kind))) = false := h3;replace hR := zi hR h3;(try simp only [bB] at h3);refine ql ?_;refine qb ?_;refine qa [.w] ?_;refine sw (jz 13 3 1 rfl rfl rfl) rfl ?_;refine qc ?_;refine qb ?_;refine qb ?_;refine qa [.p, .p, .p] ?_;refine sm rfl rfl ?_;refine su (zb (f := cInt) (l := (s69 a0).1) rfl Tryz.underlying64 rfl) rfl ?_;refine sm rfl rfl ?_;refine qc ?_;refine qm ?_;refine qr (γ := Nat × (List Int) × (List Int)) (fun g => ([(3, .g (G.ref [G.int a1.Year, G.str a1.Kind])), (13, .osl 13 1 0 (List.length g.2.2)), (58, .g (G.sl 1 (List.map cInt ((s69 a0).1)))), (59, .g (G.int (List.length ((s69 a0).1) : Int))), (60, .g (G.int ((g.1 : Nat) : Int)))], [(13, .arr 3 1 (List.map cInt g.2.2))])) (fun g => g.2.2.length ≤ g.1 ∧ g.1 ≤ ((s69 a0).1).length ∧ g.2.2.length ≤ g.1 ∧ ((s69 a0).1).drop g.1 = g.2.1 ∧ s108_l2 a1 g.2.1 g.1 g.2.2 = some R) (fun g => List.length g.2.1) ⟨rfl, (0, ((s69 a0).1), []), ⟨rfl, rfl, rfl, rfl, rfl, trivial⟩, ⟨rfl, trivial⟩, rfl, ⟨iH, iH, iH, rfl, hR⟩, trivial⟩ ?_
    ·rintro ⟨k9, t11, x7⟩ ⟨iv2_0, iv2_1, iv2_2, hd, hR⟩;replace hd : ((s69 a0).1).drop k9 = t11 := hd;replace hR : s108_l2 a1 t11 k9 x7 = some R := hR;replace iv2_0 : x7.length ≤ k9 := iv2_0;replace iv2_1 : k9 ≤ ((s69 a0).1).length := iv2_1;replace iv2_2 : x7.length ≤ k9 := iv2_2;refine qb ?_;refine qa [.p] ?_;refine su (qx rfl rfl rfl) rfl ?_;refine qc ?_;refine zj (f := cInt) (l := (s69 a0).1) 58 rfl fun hlz2 => ?_;refine qb ?_;refine qh _ rfl (fun h4 => ?_) (fun h4 => ?_)
     ·replace h4 : (decide (((k9 : Nat) : Int) < (List.length ((s69 a0).1) : Int))) = true := h4;obtain ⟨y10, t11, rfl, hx2, hd⟩ := zk hd (decT h4);replace h4 := decT h4;rw [s108_l2] at hR;(try dsimp only at hR);refine ql ?_;refine j6 (γ := (List Int)) (fun g => ([(3, .g (G.ref [G.int a1.Year, G.str a1.Kind])), (13, .osl 13 1 0 (List.length g)), (58, .g (G.sl 1 (List.map cInt ((s69 a0).1)))), (59, .g (G.int (List.length ((s69 a0).1) : Int))), (60, .g (G.int ((k9 : Nat) : Int)))], [(13, .arr 3 1 (List.map cInt g))])) (fun g => g.length ≤ k9 + 1 ∧ s108_j1 (fun k_ z0_ => s108_l2 a1 t11 k_ z0_) k9 g = some R) ?_ ?_
      ·refine qm ?_;refine qb ?_;refine qa [.p, .p, .p] ?_;refine su (jb (f := cInt) (l := (s69 a0).1) (a := y10) rfl Tryz.underlying64 ty3 rfl rfl (Int.natCast_nonneg _) hx2) rfl ?_;refine su (qg rfl ty3 rfl) rfl ?_;refine sa rfl rfl ?_;refine qc ?_;refine qb ?_;obtain ⟨r14, br14, hR⟩ := qj hR;refine qa [.p, .p, .p, .p, .p, .p, .p, .p] ?_;refine sm rfl rfl ?_;refine su (qt rfl ty68 rfl rfl rfl) rfl ?_;refine su (qf rfl K159 rfl (c159 y10 a1 br14) (qe rfl (qe rfl qi))) rfl ?_;refine sm rfl rfl ?_;refine su (qz rfl rfl rfl) rfl ?_;refine su (qz rfl rfl rfl) rfl ?_;refine sa rfl rfl ?_;refine sa rfl rfl ?_;refine qc ?_;refine qb ?_;refine qa [.p, .p] ?_;refine sm rfl rfl ?_;refine su (j9 rfl rfl rfl) rfl ?_;refine qc ?_;refine qh _ rfl (fun h6 => ?_) (fun h6 => ?_)
       ·replace h6 : (decide (r14.2 = 0)) = true := h6;replace hR := zf hR h6;(try simp only [bB] at h6);refine qa [.p, .p, .p, .k, .p] ?_;refine su (qp rfl rfl) rfl ?_;refine sm rfl rfl ?_;refine su (qq rfl Tryz.underlying64 ty3 z3 rfl (qu rfl j5) rfl (by simp []) (by decide)) rfl ?_;refine st_k rfl rfl (vw (f := cInt) (out := x7) (new := [r14.1]) rfl qz4 rfl rfl (qab rfl (qac (by decide) (by simp []))) (qd3 rfl) (by simp; omega)) rfl ?_;refine su (zh rfl rfl) rfl ?_;refine qc ?_;exact ⟨rfl, x7 ++ [r14.1], ⟨rfl, rfl, rfl, rfl, rfl, trivial⟩, ⟨rfl, trivial⟩, rfl, ⟨iC, hR⟩, trivial⟩
       ·replace h6 : (decide (r14.2 = 0)) = false := h6;replace hR := zi hR h6;(try simp only [bB] at h6);refine ql ?_;exact ⟨rfl, x7, ⟨rfl, rfl, rfl, rfl, rfl, trivial⟩, ⟨rfl, trivial⟩, rfl, ⟨iC, hR⟩, trivial⟩
      ·rintro x13 ⟨jv1_0, hR⟩;replace jv1_0 : x13.length ≤ k9 + 1 := jv1_0;replace hR : s108_j1 (fun k_ z0_ => s108_l2 a1 t11 k_ z0_) k9 x13 = some R := hR;unfold s108_j1 at hR;refine qa [.p, .p] ?_;refine su (zg rfl rfl rfl iE) rfl ?_;refine sm rfl rfl ?_;refine qc ?_;exact ⟨rfl, (k9 + 1, t11, x13), ⟨rfl, rfl, rfl, rfl, rfl, trivial⟩, ⟨rfl, trivial⟩, rfl, ⟨iB, iB, iB, hd, hR⟩, by simp⟩
     ·replace h4 : (decide (((k9 : Nat) : Int) < (List.length ((s69 a0).1) : Int))) = false := h4;obtain rfl := zt hd (decF h4);rw [s108_l2] at hR;refine zc ?_;refine qb ?_;refine qag (l := [(13, .g (G.sl 1 (List.map cInt x7)))]) (m := []) 13 rfl ⟨.inr (qp7 rfl), trivial⟩ trivial rfl rfl ?_;obtain ⟨r12, br12, hR⟩ := qj hR;refine qa [.p, .p, .p, .p, .p, .p] ?_;refine sm rfl rfl ?_;refine su (qf rfl K160 rfl (c160 x7 iA br12) (qe rfl qi)) rfl ?_;refine su (qz rfl rfl rfl) rfl ?_;refine su (qz rfl rfl rfl) rfl ?_;refine sa rfl rfl ?_;refine sa rfl rfl ?_;refine qc ?_;refine qo ?_;obtain rfl := Option.some.inj hR;exact resN rfl ⟨rv_g rfl, rv_g rfl, trivial⟩ (by simp)
end Go.Sim
set_option maxRecDepth 10000
namespace Go.Sim
open Go.Proofs
def s106 (a0 : S23) (a1 : S55) : Bool :=
 (decide (0 < a1.Due)) && (decide (IntKind.i64.wrap (a0.Share * a1.Due) ≤ IntKind.i64.wrap (100 * a1.Flown)))
theorem c106 {g : List (Nat × List Value)} (a0 : S23) (a1 : S55)    : Con (EG g) 40 [G.agg [G.int a0.Before, G.int a0.After, G.int a0.Notice, G.int a0.Share, G.sl 1 (List.map cStr a0.Causes), G.int a0.Off, G.int a0.Run], G.agg [G.int a1.Flown, G.int a1.Due]] (G.bool (s106 a0 a1)) := by
 generalize hR : s106 a0 a1 = R;unfold s106 at hR;refine qn Tryz.func40 rfl rfl fun w0 M0 => ?_;refine qb ?_;refine qa [.p, .p, .p] ?_;refine su (zp rfl rfl) rfl ?_;refine su (zp rfl rfl) rfl ?_;refine sa rfl rfl ?_;refine qc ?_;refine qb ?_;refine qa [.p, .p, .p, .p, .p, .p, .p, .p, .p, .p, .p, .p, .p, .p, .p] ?_;refine su (qd rfl qe5 rfl) rfl ?_;refine su (qg rfl ty3 rfl) rfl ?_;refine su (jg rfl rfl rfl) rfl ?_;refine sm rfl rfl ?_;refine sg rfl rfl (fun h => qd rfl qhk rfl) rfl ?_;refine sg rfl rfl (fun h => qg rfl ty3 (gd h rfl)) rfl ?_;refine sg rfl rfl (fun h => qlh rfl rfl (gd h rfl)) rfl ?_;refine sg rfl rfl (fun h => qd rfl qvb rfl) rfl ?_;refine sg rfl rfl (fun h => qg rfl ty3 (gd h rfl)) rfl ?_;refine sg rfl rfl (fun h => qd rfl qe5 rfl) rfl ?_;refine sg rfl rfl (fun h => qg rfl ty3 (gd h rfl)) rfl ?_;refine sg rfl rfl (fun h => qlh rfl (gd h rfl) (gd h rfl)) rfl ?_;refine sg rfl rfl (fun h => vv rfl (gd h rfl) (gd h rfl)) rfl ?_;refine su (zl rfl rfl rfl rfl) rfl ?_;refine sa rfl rfl ?_;refine qc ?_;refine qo ?_;subst hR;exact za rfl (rv_g rfl)
theorem qtd {a b c : Int} (h : s90 a b c = 0) : b ≤ a ∧ a ≤ c := qgf h
theorem q3k {a0 : S45} {a1 : S67} (h : s84 [s102 a0, s107 a1] = 0) : s102 a0 = 0 := qau h _ (by simp)
end Go.Sim
set_option maxRecDepth 10000
namespace Go.Sim
open Go.Proofs
def s39 (a0 : S45) (a1 : S67) : Option ((List S45) × Int) :=
 (bif decide ((s84 [(s102 a0), (s107 a1)]) ≠ 0) then some ([], (s84 [(s102 a0), (s107 a1)])) else bindO (s108 a0 a1) fun r1 => some (r1.1, r1.2))
theorem c39 (a0 : S45) (a1 : S67) {R : (List S45) × Int}   (hR : s39 a0 a1 = some R) : Con (EG glT) 13 [G.agg [G.int a0.fFrom, G.int a0.fTo, G.int a0.Days], G.agg [G.int a1.Year, G.str a1.Kind]] (G.tup [G.sl 3 (List.map S45.c R.1), G.int R.2]) := by
 unfold s39 at hR;refine qn Tryz.func13 rfl rfl fun w0 M0 => ?_;refine qb ?_;refine qa [.p, .p, .p, .p] ?_;refine su (zp rfl rfl) rfl ?_;refine su (zp rfl rfl) rfl ?_;refine sa rfl rfl ?_;refine sa rfl rfl ?_;refine qc ?_;refine qb ?_;refine qb ?_;refine jf [.p, .p, .p, .p, .p, .p, .p] (by kernel_rfl) ?_;refine su (qt rfl ty46 rfl rfl rfl) rfl ?_;refine su (qf rfl K102 rfl (c102 a0) (qe rfl qi)) rfl ?_;refine su (qt rfl ty68 rfl rfl rfl) rfl ?_;refine su (qf rfl K107 rfl (c107 a1) (qe rfl qi)) rfl ?_;refine su (qq rfl Tryz.underlying156 ty37 z37 rfl (qu rfl (qu rfl j5)) rfl (by simp []) (by decide)) rfl ?_;refine su (qf rfl K84 rfl (c84 [(s102 a0), (s107 a1)]) (qe rfl qi)) rfl ?_;refine sa rfl rfl ?_;refine qc ?_;refine qb ?_;refine qa [.p, .p] ?_;refine sm rfl rfl ?_;refine su (zu rfl rfl rfl) rfl ?_;refine qc ?_;refine qh _ rfl (fun h1 => ?_) (fun h1 => ?_)
 ·replace h1 : (decide ((s84 [(s102 a0), (s107 a1)]) ≠ 0)) = true := h1;replace hR := zf hR h1;(try simp only [bB] at h1);refine qb ?_;refine qa [.p, .p, .p] ?_;refine sm rfl rfl ?_;refine sa rfl rfl ?_;refine sa rfl rfl ?_;refine qc ?_;refine qo ?_;obtain rfl := Option.some.inj hR;exact resN rfl ⟨ww rfl (qef _), rv_g rfl, trivial⟩ (by simp)
 ·replace h1 : (decide ((s84 [(s102 a0), (s107 a1)]) ≠ 0)) = false := h1;replace hR := zi hR h1;(try simp only [bB] at h1);have hp := q3k (Decidable.not_not.1 h1);refine ql ?_;refine qb ?_;obtain ⟨r1, br1, hR⟩ := qj hR;refine qa [.p, .p, .p, .p, .p, .p, .p] ?_;refine su (qt rfl ty46 rfl rfl rfl) rfl ?_;refine su (qt rfl ty68 rfl rfl rfl) rfl ?_;refine su (qf rfl K108 rfl (c108 a0 a1 iA br1) (qe rfl (qe rfl qi))) rfl ?_;refine su (qz rfl rfl rfl) rfl ?_;refine su (qz rfl rfl rfl) rfl ?_;refine sa rfl rfl ?_;refine sa rfl rfl ?_;refine qc ?_;refine qo ?_;obtain rfl := Option.some.inj hR;exact resN rfl ⟨rv_g rfl, rv_g rfl, trivial⟩ (by simp)
end Go.Sim
set_option maxRecDepth 10000
namespace Go.Sim
open Go.Proofs
def s202 (a0 : Int) : Bool :=
 decide (a0 ≠ a0)
theorem c202 {g : List (Nat × List Value)} (a0 : Int)    : Con (EG g) 196 [G.int a0] (G.bool (s202 a0)) := by
 generalize hR : s202 a0 = R;unfold s202 at hR;refine qn Tryz.func196 rfl rfl fun w0 M0 => ?_;refine qb ?_;refine qa [.p] ?_;refine sa rfl rfl ?_;refine qc ?_;refine qb ?_;refine qa [.p, .p, .p, .p] ?_;refine sm rfl rfl ?_;refine sm rfl rfl ?_;refine su (zu rfl rfl rfl) rfl ?_;refine sa rfl rfl ?_;refine qc ?_;refine qo ?_;subst hR;exact za rfl (rv_g rfl)
def s252_l2 (rec1 : Int → (List Int) → Option (List Int)) (a1 : Int) (a3 : Int → Int → Option Int) (x1 : Int) : Nat → Int → (List Int) → Option (List Int)
 | 0, _, _ => none
 | k8 + 1, x5, x6 => bindO (bif decide (a1 < x5) then ixO x6 x5 else some default) fun y9 => bindO (bif decide (a1 < x5) then ixO x6 (x5 - 1) else some default) fun y10 => bindO (bif decide (a1 < x5) then a3 y9 y10 else some default) fun r11 => (bif (decide (a1 < x5)) && (decide (r11 < 0)) then bindO (ixO x6 (x5 - 1)) fun y12 => bindO (ixO x6 x5) fun y13 => bindO (ixO x6 x5) fun y14 => bindO (ixO (List.set x6 (Int.toNat x5) y12) (x5 - 1)) fun y15 => s252_l2 rec1 a1 a3 x1 k8 (x5 - 1) (List.set (List.set x6 (Int.toNat x5) y12) (Int.toNat (x5 - 1)) y13) else rec1 (x1 + 1) x6)
def s252_l1 (a1 : Int) (a3 : Int → Int → Option Int) : Nat → Int → (List Int) → Option (List Int)
 | 0, x1, x2 => some x2
 | k4 + 1, x1, x2 => s252_l2 (fun z0_ z1_ => s252_l1 a1 a3 k4 z0_ z1_) a1 a3 x1 (((x1 - a1).toNat) + 1) x1 x2
def s252 (a0 : List Int) (a1 : Int) (a2 : Int) (a3 : Int → Int → Option Int) : Option (List Int) :=
 s252_l1 a1 a3 ((a2 - (a1 + 1)).toNat) (a1 + 1) a0
theorem c252 {g : List (Nat × List Value)} (a0 : List Int) (a1 : Int) (a2 : Int) (a3 : Int → Int → Option Int) {R : List Int} {N0 : Nat} (hN0 : List.length a0 = N0) {ca3 : G} {ia3 : FuncId} {ka3 : List G} (ha3 : FnIs ca3 ia3 ka3) (Ka3 : Known Tryz.prog ia3) (Ha3 : ∀ (x0 : Int) (x1 : Int) (r : Int), a3 x0 x1 = some r → Con (EG g) ia3 ([G.int x0, G.int x1] ++ ka3) (G.int r)) (hA : 0 ≤ a1) (hA2 : a1 ≤ 1000000) (hB : a2 ≤ 1000000) (hR : s252 a0 a1 a2 a3 = some R) : ConB (EG g) 215 [.osl 0 1 0 N0, .g (G.int a1), .g (G.int a2), .g (ca3)] [(0, .arr 3 1 (List.map cInt a0))] (G.tup []) [(0, .arr 3 1 (List.map cInt R))] := by
 unfold s252 at hR;refine kc Tryz.func215 rfl rfl rfl fun w0 M0 x => ?_;refine we (f := cInt) (l := a0) 0 rfl fun hla0 => ?_;refine qb ?_;refine qa [.p, .p, .p] ?_;refine sm rfl rfl ?_;refine su (zg rfl rfl rfl iF) rfl ?_;refine sa rfl rfl ?_;refine qc ?_;refine qm ?_;refine qr (γ := Nat × Int × (List Int)) (fun g => ([(0, .osl 0 1 0 (N0)), (1, .g (G.int a1)), (2, .g (G.int a2)), (3, .g (ca3)), (8, .g (G.int g.2.1))], [(0, .arr 3 1 (List.map cInt g.2.2))])) (fun g => g.1 = (a2 - g.2.1).toNat ∧ (a1 + 1) ≤ g.2.1 ∧ List.length g.2.2 = N0 ∧ s252_l1 a1 a3 g.1 g.2.1 g.2.2 = some R) (fun g => g.1) ⟨rfl, ((a2 - (a1 + 1)).toNat, a1 + 1, a0), ⟨rfl, rfl, rfl, rfl, rfl, trivial⟩, ⟨rfl, trivial⟩, rfl, ⟨rfl, iD, hN0, hR⟩, trivial⟩ ?_
 ·rintro ⟨k4, x1, x2⟩ ⟨hk1, iv1_0, ln3, hR⟩;replace hk1 : k4 = (a2 - x1).toNat := hk1;replace hR : s252_l1 a1 a3 k4 x1 x2 = some R := hR;replace iv1_0 : (a1 + 1) ≤ x1 := iv1_0;replace ln3 : List.length x2 = N0 := ln3;refine qb ?_;refine qb ?_;refine qa [.p, .p, .p] ?_;refine sm rfl rfl ?_;refine sm rfl rfl ?_;refine su (qx rfl rfl rfl) rfl ?_;refine qc ?_;refine qh _ rfl (fun h1 => ?_) (fun h1 => ?_)
  ·replace h1 : (decide (x1 < a2)) = true := h1;replace h1 := decT h1;obtain ⟨k4, rfl⟩ : ∃ m, k4 = m + 1 := ⟨k4 - 1, by omega⟩;rw [s252_l1] at hR;(try dsimp only at hR);refine ql ?_;refine qb ?_;refine qm ?_;refine qb ?_;refine qa [.p, .p] ?_;refine sm rfl rfl ?_;refine sa rfl rfl ?_;refine qc ?_;refine qm ?_;refine qr (γ := Nat × Int × (List Int)) (fun g => ([(0, .osl 0 1 0 (N0)), (1, .g (G.int a1)), (2, .g (G.int a2)), (3, .g (ca3)), (8, .g (G.int x1)), (9, .g (G.int g.2.1))], [(0, .arr 3 1 (List.map cInt g.2.2))])) (fun g => (g.2.1 - a1).toNat < g.1 ∧ a1 ≤ g.2.1 ∧ g.2.1 ≤ 1000000 ∧ List.length g.2.2 = N0 ∧ s252_l2 (fun z0_ z1_ => s252_l1 a1 a3 k4 z0_ z1_) a1 a3 x1 g.1 g.2.1 g.2.2 = some R) (fun g => g.1) ⟨rfl, (((x1 - a1).toNat) + 1, x1, x2), ⟨rfl, rfl, rfl, rfl, rfl, rfl, trivial⟩, ⟨rfl, trivial⟩, rfl, ⟨Nat.lt_succ_self _, iD, iD, ln3, hR⟩, trivial⟩ ?_
   ·rintro ⟨k8, x5, x6⟩ ⟨hk2, iv2_0, iv2_1, ln7, hR⟩;replace hk2 : (x5 - a1).toNat < k8 := hk2;replace hR : s252_l2 (fun z0_ z1_ => s252_l1 a1 a3 k4 z0_ z1_) a1 a3 x1 k8 x5 x6 = some R := hR;replace iv2_0 : a1 ≤ x5 := iv2_0;replace iv2_1 : x5 ≤ 1000000 := iv2_1;replace ln7 : List.length x6 = N0 := ln7;obtain ⟨k8, rfl⟩ : ∃ m, k8 = m + 1 := ⟨k8 - 1, by omega⟩;rw [s252_l2] at hR;(try dsimp only at hR);refine qb ?_;refine qb ?_;obtain ⟨y9, by9, hR⟩ := qj hR;obtain ⟨y10, by10, hR⟩ := qj hR;obtain ⟨r11, br11, hR⟩ := qj hR;refine jf [.p, .p, .p, .p, .p, .p, .p, .p, .r, .p, .p, .p, .p, .r, .p, .p, .p] (by kernel_rfl) ?_;refine sm rfl rfl ?_;refine sm rfl rfl ?_;refine su (jg rfl rfl rfl) rfl ?_;refine sm rfl rfl ?_;refine sg rfl rfl (fun h => qk rfl rfl) rfl ?_;refine sg rfl rfl (fun h => qp rfl rfl) rfl ?_;refine sg rfl rfl (fun h => qk rfl rfl) rfl ?_;refine sg rfl rfl (fun h => jv rfl Tryz.underlying64 ty3 (gd h rfl) (gd h rfl) (jd (ko by9 h)) (Nat.lt_of_lt_of_eq (jp (qv (ko by9 h))) ln7)) rfl ?_;refine qcr rfl rfl rfl (v6 _ _) (fun h => vp (f := cInt) (l := x6) (a := y9) rfl ty3 (gd h rfl) rfl (qv (ko by9 h)) rfl) rfl ?_;refine sg rfl rfl (fun h => qp rfl rfl) rfl ?_;refine sg rfl rfl (fun h => qk rfl rfl) rfl ?_;refine sg rfl rfl (fun h => ve rfl (gd h rfl) rfl iF) rfl ?_;refine sg rfl rfl (fun h => jv rfl Tryz.underlying64 ty3 (gd h rfl) (gd h rfl) (jd (ko by10 h)) (Nat.lt_of_lt_of_eq (jp (qv (ko by10 h))) ln7)) rfl ?_;refine qcr rfl rfl rfl (v6 _ _) (fun h => vp (f := cInt) (l := x6) (a := y10) rfl ty3 (gd h rfl) rfl (qv (ko by10 h)) rfl) rfl ?_;refine sg rfl rfl (fun h => ku rfl ha3 Ka3 (gd h rfl) (Con.lend (Ha3 y9 y10 _ (ko br11 h))) (qe (gd h rfl) (qe (gd h rfl) qi))) rfl ?_;refine sg rfl rfl (fun h => qx rfl (gd h rfl) rfl) rfl ?_;refine su (zl rfl rfl rfl rfl) rfl ?_;refine qc ?_;refine qh _ rfl (fun h3 => ?_) (fun h3 => ?_)
    ·replace h3 : ((decide (a1 < x5)) && (decide (r11 < 0))) = true := h3;replace hR := zf hR h3;(try simp only [bB] at h3);refine ql ?_;refine qb ?_;refine qm ?_;obtain ⟨y12, by12, hR⟩ := qj hR;obtain ⟨y13, by13, hR⟩ := qj hR;obtain ⟨y14, by14, hR⟩ := qj hR;obtain ⟨y15, by15, hR⟩ := qj hR;refine jf [.p, .p, .p, .p, .p, .p, .p, .p, .p, .r, .p, .p, .p, .r, .p, .w, .p, .w] (by kernel_rfl) ?_;refine su (qp rfl rfl) rfl ?_;refine sm rfl rfl ?_;refine su (qp rfl rfl) rfl ?_;refine sm rfl rfl ?_;refine su (ve rfl rfl rfl iF) rfl ?_;refine su (qp rfl rfl) rfl ?_;refine sm rfl rfl ?_;refine su (ve rfl rfl rfl iF) rfl ?_;refine su (jv rfl Tryz.underlying64 ty3 rfl rfl (jd by12) (Nat.lt_of_lt_of_eq (jp (qv by12)) ln7)) rfl ?_;refine sr (vp (f := cInt) (l := x6) (a := y12) rfl ty3 rfl rfl (qv by12) rfl) rfl ?_;refine su (qp rfl rfl) rfl ?_;refine sm rfl rfl ?_;refine su (jv rfl Tryz.underlying64 ty3 rfl rfl (jd by13) (Nat.lt_of_lt_of_eq (jp (qv by13)) ln7)) rfl ?_;refine sr (vp (f := cInt) (l := x6) (a := y13) rfl ty3 rfl rfl (qv by13) rfl) rfl ?_;refine su (jv rfl Tryz.underlying64 ty3 rfl rfl (jd by14) (Nat.lt_of_lt_of_eq (jp (qv by14)) ln7)) rfl ?_;refine ji rfl rfl (xf (f := cInt) (l := x6) (a' := y12) rfl ty3 rfl rfl rfl (Nat.lt_of_lt_of_eq (Nat.lt_of_lt_of_eq (jp (qv by14)) ln7) (Eq.symm ln7)) rfl (fun _ => rfl)) ?_;refine su (jv rfl Tryz.underlying64 ty3 rfl rfl (jd by15) (Nat.lt_of_lt_of_eq (jp (qv by15)) ((List.length_set ..).trans ln7))) rfl ?_;refine ji rfl rfl (xf (f := cInt) (l := List.set x6 (Int.toNat x5) y12) (a' := y13) rfl ty3 rfl rfl rfl (Nat.lt_of_lt_of_eq (Nat.lt_of_lt_of_eq (jp (qv by15)) ((List.length_set ..).trans ln7)) (Eq.symm ((List.length_set ..).trans ln7))) rfl (fun _ => rfl)) ?_;refine qc ?_;refine qa [.p, .p, .p] ?_;refine sm rfl rfl ?_;refine su (ve rfl rfl rfl iF) rfl ?_;refine sa rfl rfl ?_;refine qc ?_;exact ⟨rfl, (k8, x5 - 1, List.set (List.set x6 (Int.toNat x5) y12) (Int.toNat (x5 - 1)) y13), ⟨(by simp only [List.length_set]; rfl), rfl, rfl, rfl, rfl, rfl, trivial⟩, ⟨rfl, trivial⟩, rfl, ⟨iB, iB, iB, ((List.length_set ..).trans ((List.length_set ..).trans ln7)), hR⟩, by simp⟩
    ·replace h3 : ((decide (a1 < x5)) && (decide (r11 < 0))) = false := h3;replace hR := zi hR h3;(try simp only [bB] at h3);refine zc ?_;refine qa [.p, .p, .p] ?_;refine sm rfl rfl ?_;refine su (zg rfl rfl rfl iG) rfl ?_;refine sa rfl rfl ?_;refine qc ?_;exact ⟨rfl, (k4, x1 + 1, x6), ⟨rfl, rfl, rfl, rfl, rfl, trivial⟩, ⟨rfl, trivial⟩, rfl, ⟨iB, iB, ln7, hR⟩, by simp⟩
  ·replace h1 : (decide (x1 < a2)) = false := h1;replace h1 := decF h1
   obtain rfl : k4 = 0 := by omega
   rw [s252_l1] at hR;refine zc ?_;obtain rfl := Option.some.inj hR;show ResOk _ _ _ _ ∧ MemL _ _;exact ⟨res0 rfl, ⟨rfl, trivial⟩⟩
theorem qi9 (rec1 : Int → List Int → Option (List Int)) (hrec : ∀ x l r, rec1 x l = some r → r.length = l.length) (a1 : Int) (a3 : Int → Int → Option Int) (x1 : Int) : ∀ (k : Nat) (x : Int) (l r : List Int), s252_l2 rec1 a1 a3 x1 k x l = some r → r.length = l.length
 | 0, _, _, _, h => by rw [s252_l2] at h; cases h
 | k + 1, x, l, r, h => by
  rw [s252_l2] at h;obtain ⟨y1, _, h⟩ := qj h;obtain ⟨y2, _, h⟩ := qj h;obtain ⟨y3, _, h⟩ := qj h
  cases hc : (decide (a1 < x) && decide (y3 < 0)) with
  | true =>
   have h := zf h hc;obtain ⟨y4, _, h⟩ := qj h;obtain ⟨y5, _, h⟩ := qj h;obtain ⟨y6, _, h⟩ := qj h;obtain ⟨y7, _, h⟩ := qj h;have := qi9 rec1 hrec a1 a3 x1 k _ _ _ h
   simpa using this
  | false => exact hrec _ _ _ (zi h hc)
theorem qja (a1 : Int) (a3 : Int → Int → Option Int) : ∀ (k : Nat) (x : Int) (l r : List Int), s252_l1 a1 a3 k x l = some r → r.length = l.length
 | 0, _, _, _, h => by rw [s252_l1] at h; cases h; rfl
 | k + 1, x, l, r, h => by
  rw [s252_l1] at h;exact qi9 _ (fun x l r h => qja a1 a3 k x l r h) a1 a3 x _ _ _ _ h
theorem q1m {a0 : List Int} {a1 a2 : Int} {a3 : Int → Int → Option Int} {R : List Int} (h : s252 a0 a1 a2 a3 = some R) : R.length = a0.length := qja _ _ _ _ _ _ h
end Go.Sim
