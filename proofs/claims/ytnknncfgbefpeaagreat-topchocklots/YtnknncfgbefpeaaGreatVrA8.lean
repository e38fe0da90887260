/-
  What is proved: lemmas and contracts of functions on the way to the law topChockLots (part 8).
-/
import Derived.Test.YtnknncfgbefpeaaGreatVrA7
import Derived.Test.YtnknncfgbefpeaaGreatVrA5
import Derived.Scope
import Derived.Test.YtnknncfgbefpeaaGreatVrA2
import Derived.Maps.RangeRun
set_option linter.unusedSectionVars false
set_option linter.unusedSimpArgs false
set_option linter.unusedVariables false
set_option linter.unnecessarySimpa false
set_option linter.deprecated false
set_option maxRecDepth 10000
namespace Go.Sim
open Go.Proofs
def s83_l1 (a1 : List Int) : List Int → Nat → Option Bool
 | [], k2 => some true
 | y3 :: t4, k2 => bindO (ixO a1 ((k2 : Nat) : Int)) fun y5 => (bif decide (y3 ≠ y5) then some false else s83_l1 a1 t4 (k2 + 1))
def s83 (a0 : List Int) (a1 : List Int) : Option Bool :=
 (bif decide ((List.length a0 : Int) ≠ (List.length a1 : Int)) then some false else s83_l1 a1 a0 0)
theorem c83 {g : List (Nat × List Value)} (a0 : List Int) (a1 : List Int) {R : Bool}   (hR : s83 a0 a1 = some R) : Con (EG g) 18 [G.sl 1 (List.map cInt a0), G.sl 1 (List.map cInt a1)] (G.bool R) := by
 unfold s83 at hR;refine qk Tryz.func18 rfl rfl fun w0 M0 => ?_;refine zl (f := cInt) (l := a0) 0 rfl fun hla0 => ?_;refine zl (f := cInt) (l := a1) 1 rfl fun hla1 => ?_;refine qd ?_;refine qb [.p] ?_;refine st rfl rfl (qc rfl rfl) rfl ?_;refine qe ?_;refine qd ?_;refine qd ?_;refine qb [.p, .p, .p, .p, .p] ?_;refine st rfl rfl (qa rfl rfl) rfl ?_;refine st rfl rfl (qx (f := cInt) (l := a0) rfl Tryz.underlying34 rfl) rfl ?_;refine st rfl rfl (qa rfl rfl) rfl ?_;refine st rfl rfl (qx (f := cInt) (l := a1) rfl Tryz.underlying34 rfl) rfl ?_;refine st rfl rfl (zo rfl rfl rfl) rfl ?_;refine qe ?_;refine qp _ rfl (fun h1 => ?_) (fun h1 => ?_)
 ·replace h1 : (decide ((List.length a0 : Int) ≠ (List.length a1 : Int))) = true := h1;replace hR := jc hR h1;(try simp only [Bool.or_eq_true, Bool.and_eq_true, Bool.or_eq_false_iff, Bool.and_eq_false_iff, Bool.not_eq_true', Bool.not_eq_false', decide_eq_true_eq, decide_eq_false_iff_not] at h1);refine qd ?_;refine qb [.p] ?_;refine st rfl rfl (qc rfl rfl) rfl ?_;refine qe ?_;refine qn ?_;obtain rfl := Option.some.inj hR;exact qy rfl (rv_g rfl)
 ·replace h1 : (decide ((List.length a0 : Int) ≠ (List.length a1 : Int))) = false := h1;replace hR := jd hR h1;(try simp only [Bool.or_eq_true, Bool.and_eq_true, Bool.or_eq_false_iff, Bool.and_eq_false_iff, Bool.not_eq_true', Bool.not_eq_false', decide_eq_true_eq, decide_eq_false_iff_not] at h1);refine qq ?_;refine qd ?_;refine qd ?_;refine qb [.p] ?_;refine st rfl rfl (qc rfl rfl) rfl ?_;refine qe ?_;refine qt ?_;refine zc (γ := Nat × (List Int)) (fun g => ([(0, .g (G.sl 1 (List.map cInt a0))), (1, .g (G.sl 1 (List.map cInt a1))), (5, .g (G.int ((g.1 : Nat) : Int)))], [])) (fun g => a0.drop g.1 = g.2 ∧ s83_l1 a1 g.2 g.1 = some R) (fun g => List.length g.2) ⟨rfl, (0, a0), ⟨rfl, rfl, rfl, trivial⟩, trivial, rfl, ⟨rfl, (by exact hR)⟩, trivial⟩ ?_
  ·rintro ⟨k2, t4⟩ ⟨hd, hR⟩;replace hd : a0.drop k2 = t4 := hd;replace hR : s83_l1 a1 t4 k2 = some R := hR;refine qd ?_;refine qd ?_;refine qb [.p, .p, .p, .p] ?_;refine st rfl rfl (qa rfl rfl) rfl ?_;refine st rfl rfl (qa rfl rfl) rfl ?_;refine st rfl rfl (qx (f := cInt) (l := a0) rfl Tryz.underlying34 rfl) rfl ?_;refine st rfl rfl (zi rfl rfl rfl) rfl ?_;refine qe ?_;refine zl (f := cInt) (l := a0) 0 rfl fun hlz1 => ?_;refine qp _ rfl (fun h2 => ?_) (fun h2 => ?_)
   ·replace h2 : (decide (((k2 : Nat) : Int) < (List.length a0 : Int))) = true := h2;obtain ⟨y3, t4, rfl, hx1, hd⟩ := zp hd (decT h2);replace h2 := decT h2;rw [s83_l1] at hR;(try dsimp only at hR);refine qq ?_;refine qd ?_;refine qt ?_;refine qd ?_;obtain ⟨y5, by5, hR⟩ := qm hR;refine zz [.p, .p, .p, .p, .p, .p, .p, .p, .p] (by kernel_rfl) ?_;refine st rfl rfl (qa rfl rfl) rfl ?_;refine st rfl rfl (qa rfl rfl) rfl ?_;refine st rfl rfl (zt (f := cInt) (l := a0) (a := y3) rfl Tryz.underlying34 ty3 rfl rfl (Int.natCast_nonneg _) hx1) rfl ?_;refine st rfl rfl (qj rfl ty3 rfl) rfl ?_;refine st rfl rfl (qa rfl rfl) rfl ?_;refine st rfl rfl (qa rfl rfl) rfl ?_;refine st rfl rfl (zt (f := cInt) (l := a1) (a := y5) rfl Tryz.underlying34 ty3 rfl rfl (jn by5) (zd by5)) rfl ?_;refine st rfl rfl (qj rfl ty3 rfl) rfl ?_;refine st rfl rfl (zo rfl rfl rfl) rfl ?_;refine qe ?_;refine qp _ rfl (fun h4 => ?_) (fun h4 => ?_)
    ·replace h4 : (decide (y3 ≠ y5)) = true := h4;replace hR := jc hR h4;(try simp only [Bool.or_eq_true, Bool.and_eq_true, Bool.or_eq_false_iff, Bool.and_eq_false_iff, Bool.not_eq_true', Bool.not_eq_false', decide_eq_true_eq, decide_eq_false_iff_not] at h4);refine qd ?_;refine qb [.p] ?_;refine st rfl rfl (qc rfl rfl) rfl ?_;refine qe ?_;refine qn ?_;obtain rfl := Option.some.inj hR;exact qy rfl (rv_g rfl)
    ·replace h4 : (decide (y3 ≠ y5)) = false := h4;replace hR := jd hR h4;(try simp only [Bool.or_eq_true, Bool.and_eq_true, Bool.or_eq_false_iff, Bool.and_eq_false_iff, Bool.not_eq_true', Bool.not_eq_false', decide_eq_true_eq, decide_eq_false_iff_not] at h4);refine qq ?_;refine qb [.p, .p, .p] ?_;refine st rfl rfl (qa rfl rfl) rfl ?_;refine st rfl rfl (z0 rfl rfl rfl (by unfold I64; omega)) rfl ?_;refine st rfl rfl (qc rfl rfl) rfl ?_;refine qe ?_;exact ⟨rfl, (k2 + 1, t4), ⟨rfl, rfl, rfl, trivial⟩, trivial, rfl, ⟨hd, hR⟩, by simp⟩
   ·replace h2 : (decide (((k2 : Nat) : Int) < (List.length a0 : Int))) = false := h2;obtain rfl := je hd (decF h2);rw [s83_l1] at hR;refine zy ?_;refine qd ?_;refine qb [.p] ?_;refine st rfl rfl (qc rfl rfl) rfl ?_;refine qe ?_;refine qn ?_;obtain rfl := Option.some.inj hR;exact qy rfl (rv_g rfl)
def s4061_l1 (a1 : S4026 → Bool) : List S4026 → Nat → Int
 | [], k2 => (-1)
 | y3 :: t4, k2 => (bif (a1 y3) then ((k2 : Nat) : Int) else s4061_l1 a1 t4 (k2 + 1))
def s4061 (a0 : List S4026) (a1 : S4026 → Bool) : Int :=
 s4061_l1 a1 a0 0
theorem qzt {g : List (Nat × List Value)} (a0 : List S4026) (a1 : S4026 → Bool) {ca1 : G} {ia1 : FuncId} {ka1 : List G} (ha1 : FnIs ca1 ia1 ka1) (Ka1 : Known Tryz.prog ia1) (Ha1 : ∀ (x0 : S4026), Con (EG g) ia1 ([G.agg [G.str x0.Request.Name, G.str x0.Request.Carrier, G.str x0.Request.Kind, G.str x0.Request.Terminal, G.str x0.Request.Partner, G.str x0.Request.Link, G.int x0.Request.Period.fFrom, G.int x0.Request.Period.fTo, G.int x0.Request.Period.Days, G.int x0.Request.Minute, G.int x0.Request.Seats, G.int x0.Request.Size, G.int x0.Request.Noise, G.bool x0.Historic, G.bool x0.Retimed, G.bool x0.Newcomer, G.bool x0.Yearround, G.int x0.Distance]] ++ ka1) (G.bool (a1 x0)))   : Con (EG g) 61 [G.sl 18 (List.map S4026.c a0), ca1] (G.int (s4061 a0 a1)) := by
 generalize hR : s4061 a0 a1 = R;unfold s4061 at hR;refine qk Tryz.func61 rfl rfl fun w0 M0 => ?_;refine zl (f := S4026.c) (l := a0) 0 rfl fun hla0 => ?_;refine qd ?_;refine qb [.p] ?_;refine st rfl rfl (qc rfl rfl) rfl ?_;refine qe ?_;refine qd ?_;refine qd ?_;refine qb [.p, .p, .p] ?_;refine st rfl rfl (qa rfl rfl) rfl ?_;refine st rfl rfl (qx (f := S4026.c) (l := a0) rfl Tryz.underlying31 rfl) rfl ?_;refine st rfl rfl (qa rfl rfl) rfl ?_;refine qe ?_;refine qt ?_;refine zc (γ := Nat × (List S4026)) (fun g => ([(0, .g (G.sl 18 (List.map S4026.c a0))), (1, .g (ca1)), (7, .g (G.int (List.length a0 : Int))), (8, .g (G.int ((g.1 : Nat) : Int)))], [])) (fun g => a0.drop g.1 = g.2 ∧ s4061_l1 a1 g.2 g.1 = R) (fun g => List.length g.2) ⟨rfl, (0, a0), ⟨rfl, rfl, rfl, rfl, trivial⟩, trivial, rfl, ⟨rfl, (by exact hR)⟩, trivial⟩ ?_
 ·rintro ⟨k2, t4⟩ ⟨hd, hR⟩;replace hd : a0.drop k2 = t4 := hd;replace hR : s4061_l1 a1 t4 k2 = R := hR;refine qd ?_;refine qb [.p] ?_;refine st rfl rfl (zi rfl rfl rfl) rfl ?_;refine qe ?_;refine zl (f := S4026.c) (l := a0) 0 rfl fun hlz1 => ?_;refine qd ?_;refine qp _ rfl (fun h1 => ?_) (fun h1 => ?_)
  ·replace h1 : (decide (((k2 : Nat) : Int) < (List.length a0 : Int))) = true := h1;obtain ⟨y3, t4, rfl, hx1, hd⟩ := zp hd (decT h1);replace h1 := decT h1;rw [s4061_l1] at hR;(try dsimp only at hR);refine qq ?_;refine qd ?_;refine qt ?_;refine qd ?_;refine qb [.p, .p] ?_;refine st rfl rfl (qa rfl rfl) rfl ?_;refine st rfl rfl (qc rfl rfl) rfl ?_;refine qe ?_;refine qd ?_;refine qb [.p, .p, .p, .p, .p, .p] ?_;refine st rfl rfl (qa rfl rfl) rfl ?_;refine st rfl rfl (qa rfl rfl) rfl ?_;refine st rfl rfl (qa rfl rfl) rfl ?_;refine st rfl rfl (zt (f := S4026.c) (l := a0) (a := y3) rfl Tryz.underlying31 jf rfl rfl (Int.natCast_nonneg _) hx1) rfl ?_;refine st rfl rfl (qw rfl jf rfl rfl rfl) rfl ?_;refine st rfl rfl (jm rfl ha1 Ka1 rfl (Ha1 y3) (qg rfl ql)) rfl ?_;refine qe ?_;refine qp _ rfl (fun h3 => ?_) (fun h3 => ?_)
   ·replace h3 : ((a1 y3)) = true := h3;replace hR := jc hR h3;(try simp only [Bool.or_eq_true, Bool.and_eq_true, Bool.or_eq_false_iff, Bool.and_eq_false_iff, Bool.not_eq_true', Bool.not_eq_false', decide_eq_true_eq, decide_eq_false_iff_not] at h3);refine qd ?_;refine qb [.p, .p] ?_;refine st rfl rfl (qa rfl rfl) rfl ?_;refine st rfl rfl (qc rfl rfl) rfl ?_;refine qe ?_;refine qn ?_;subst hR;exact qy rfl (rv_g rfl)
   ·replace h3 : ((a1 y3)) = false := h3;replace hR := jd hR h3;(try simp only [Bool.or_eq_true, Bool.and_eq_true, Bool.or_eq_false_iff, Bool.and_eq_false_iff, Bool.not_eq_true', Bool.not_eq_false', decide_eq_true_eq, decide_eq_false_iff_not] at h3);refine qq ?_;refine qb [.p, .p] ?_;refine st rfl rfl (z0 rfl rfl rfl (by unfold I64; omega)) rfl ?_;refine st rfl rfl (qa rfl rfl) rfl ?_;refine qe ?_;exact ⟨rfl, (k2 + 1, t4), ⟨rfl, rfl, rfl, rfl, trivial⟩, trivial, rfl, ⟨hd, hR⟩, by simp⟩
  ·replace h1 : (decide (((k2 : Nat) : Int) < (List.length a0 : Int))) = false := h1;obtain rfl := je hd (decF h1);rw [s4061_l1] at hR;refine zy ?_;refine qd ?_;refine qb [.p] ?_;refine st rfl rfl (qc rfl rfl) rfl ?_;refine qe ?_;refine qn ?_;subst hR;exact qy rfl (rv_g rfl)
def s4040 (a0 : S4026) (a1 : S4026) : Bool :=
 decide (a0.Request.Name = a1.Request.Name)
theorem qzu {g : List (Nat × List Value)} (a0 : S4026) (a1 : S4026)    : Con (EG g) 40 [G.agg [G.str a0.Request.Name, G.str a0.Request.Carrier, G.str a0.Request.Kind, G.str a0.Request.Terminal, G.str a0.Request.Partner, G.str a0.Request.Link, G.int a0.Request.Period.fFrom, G.int a0.Request.Period.fTo, G.int a0.Request.Period.Days, G.int a0.Request.Minute, G.int a0.Request.Seats, G.int a0.Request.Size, G.int a0.Request.Noise, G.bool a0.Historic, G.bool a0.Retimed, G.bool a0.Newcomer, G.bool a0.Yearround, G.int a0.Distance], G.ref [G.str a1.Request.Name, G.str a1.Request.Carrier, G.str a1.Request.Kind, G.str a1.Request.Terminal, G.str a1.Request.Partner, G.str a1.Request.Link, G.int a1.Request.Period.fFrom, G.int a1.Request.Period.fTo, G.int a1.Request.Period.Days, G.int a1.Request.Minute, G.int a1.Request.Seats, G.int a1.Request.Size, G.int a1.Request.Noise, G.bool a1.Historic, G.bool a1.Retimed, G.bool a1.Newcomer, G.bool a1.Yearround, G.int a1.Distance]] (G.bool (s4040 a0 a1)) := by
 generalize hR : s4040 a0 a1 = R;unfold s4040 at hR;refine qk Tryz.func40 rfl rfl fun w0 M0 => ?_;refine qd ?_;refine qb [.p, .p] ?_;refine st rfl rfl (zj rfl rfl) rfl ?_;refine st rfl rfl (qc rfl rfl) rfl ?_;refine qe ?_;refine qd ?_;refine qb [.p, .p, .p, .p, .p, .p, .p, .p] ?_;refine st rfl rfl (qf rfl js rfl) rfl ?_;refine st rfl rfl (qf rfl vw rfl) rfl ?_;refine st rfl rfl (qj rfl ty9 rfl) rfl ?_;refine st rfl rfl (qf rfl js rfl) rfl ?_;refine st rfl rfl (qf rfl vw rfl) rfl ?_;refine st rfl rfl (qj rfl ty9 rfl) rfl ?_;refine st rfl rfl (xj rfl rfl rfl) rfl ?_;refine st rfl rfl (qc rfl rfl) rfl ?_;refine qe ?_;refine qn ?_;subst hR;exact qy rfl (rv_g rfl)
def s4039 (a0 : List S4026) (a1 : S4026 → Bool) : Bool :=
 decide (0 ≤ (s4061 a0 a1))
theorem qzv {g : List (Nat × List Value)} (a0 : List S4026) (a1 : S4026 → Bool) {ca1 : G} {ia1 : FuncId} {ka1 : List G} (ha1 : FnIs ca1 ia1 ka1) (Ka1 : Known Tryz.prog ia1) (Ha1 : ∀ (x0 : S4026), Con (EG g) ia1 ([G.agg [G.str x0.Request.Name, G.str x0.Request.Carrier, G.str x0.Request.Kind, G.str x0.Request.Terminal, G.str x0.Request.Partner, G.str x0.Request.Link, G.int x0.Request.Period.fFrom, G.int x0.Request.Period.fTo, G.int x0.Request.Period.Days, G.int x0.Request.Minute, G.int x0.Request.Seats, G.int x0.Request.Size, G.int x0.Request.Noise, G.bool x0.Historic, G.bool x0.Retimed, G.bool x0.Newcomer, G.bool x0.Yearround, G.int x0.Distance]] ++ ka1) (G.bool (a1 x0)))   : Con (EG g) 39 [G.sl 18 (List.map S4026.c a0), ca1] (G.bool (s4039 a0 a1)) := by
 generalize hR : s4039 a0 a1 = R;unfold s4039 at hR;refine qk Tryz.func39 rfl rfl fun w0 M0 => ?_;refine zl (f := S4026.c) (l := a0) 0 rfl fun hla0 => ?_;refine qd ?_;refine qb [.p] ?_;refine st rfl rfl (qc rfl rfl) rfl ?_;refine qe ?_;refine qd ?_;refine qb [.p, .p, .p, .p, .p] ?_;refine st rfl rfl (qa rfl rfl) rfl ?_;refine st rfl rfl (qa rfl rfl) rfl ?_;refine st rfl rfl (qh rfl qxp rfl (qzt a0 a1 ha1 Ka1 Ha1) (qg rfl (qg rfl ql))) rfl ?_;refine st rfl rfl (xa rfl rfl rfl) rfl ?_;refine st rfl rfl (qc rfl rfl) rfl ?_;refine qe ?_;refine qn ?_;subst hR;exact qy rfl (rv_g rfl)
def s4037_l1 (a0 : List S4026) (a1 : (List S4026) → S4026 → Int) : List S4026 → Nat → Int
 | [], k2 => 0
 | y3 :: t4, k2 => (bif decide ((a1 (List.take (Int.toNat ((k2 : Nat) : Int)) a0) y3) ≠ 0) then (a1 (List.take (Int.toNat ((k2 : Nat) : Int)) a0) y3) else s4037_l1 a0 a1 t4 (k2 + 1))
def s4037 (a0 : List S4026) (a1 : (List S4026) → S4026 → Int) : Int :=
 s4037_l1 a0 a1 a0 0
theorem qzw {g : List (Nat × List Value)} (a0 : List S4026) (a1 : (List S4026) → S4026 → Int) {ca1 : G} {ia1 : FuncId} {ka1 : List G} (ha1 : FnIs ca1 ia1 ka1) (Ka1 : Known Tryz.prog ia1) (Ha1 : ∀ (x0 : List S4026) (x1 : S4026), Con (EG g) ia1 ([G.sl 18 (List.map S4026.c x0), G.agg [G.str x1.Request.Name, G.str x1.Request.Carrier, G.str x1.Request.Kind, G.str x1.Request.Terminal, G.str x1.Request.Partner, G.str x1.Request.Link, G.int x1.Request.Period.fFrom, G.int x1.Request.Period.fTo, G.int x1.Request.Period.Days, G.int x1.Request.Minute, G.int x1.Request.Seats, G.int x1.Request.Size, G.int x1.Request.Noise, G.bool x1.Historic, G.bool x1.Retimed, G.bool x1.Newcomer, G.bool x1.Yearround, G.int x1.Distance]] ++ ka1) (G.int (a1 x0 x1)))   : Con (EG g) 37 [G.sl 18 (List.map S4026.c a0), ca1] (G.int (s4037 a0 a1)) := by
 generalize hR : s4037 a0 a1 = R;unfold s4037 at hR;refine qk Tryz.func37 rfl rfl fun w0 M0 => ?_;refine zl (f := S4026.c) (l := a0) 0 rfl fun hla0 => ?_;refine qd ?_;refine qb [.p] ?_;refine st rfl rfl (qc rfl rfl) rfl ?_;refine qe ?_;refine qd ?_;refine qd ?_;refine qb [.p, .p, .p] ?_;refine st rfl rfl (qa rfl rfl) rfl ?_;refine st rfl rfl (qx (f := S4026.c) (l := a0) rfl Tryz.underlying31 rfl) rfl ?_;refine st rfl rfl (qa rfl rfl) rfl ?_;refine qe ?_;refine qt ?_;refine zc (γ := Nat × (List S4026)) (fun g => ([(0, .g (G.sl 18 (List.map S4026.c a0))), (1, .g (ca1)), (8, .g (G.sl 18 (List.map S4026.c a0))), (9, .g (G.int (List.length a0 : Int))), (10, .g (G.int ((g.1 : Nat) : Int)))], [])) (fun g => a0.drop g.1 = g.2 ∧ s4037_l1 a0 a1 g.2 g.1 = R) (fun g => List.length g.2) ⟨rfl, (0, a0), ⟨rfl, rfl, rfl, rfl, rfl, trivial⟩, trivial, rfl, ⟨rfl, (by exact hR)⟩, trivial⟩ ?_
 ·rintro ⟨k2, t4⟩ ⟨hd, hR⟩;replace hd : a0.drop k2 = t4 := hd;replace hR : s4037_l1 a0 a1 t4 k2 = R := hR;refine qd ?_;refine qb [.p] ?_;refine st rfl rfl (zi rfl rfl rfl) rfl ?_;refine qe ?_;refine zl (f := S4026.c) (l := a0) 0 rfl fun hlz1 => ?_;refine qd ?_;refine qp _ rfl (fun h1 => ?_) (fun h1 => ?_)
  ·replace h1 : (decide (((k2 : Nat) : Int) < (List.length a0 : Int))) = true := h1;obtain ⟨y3, t4, rfl, hx1, hd⟩ := zp hd (decT h1);replace h1 := decT h1;rw [s4037_l1] at hR;(try dsimp only at hR);refine qq ?_;refine qd ?_;refine qt ?_;refine qd ?_;refine qb [.p, .p, .p, .w, .p, .w] ?_;refine st rfl rfl (qa rfl rfl) rfl ?_;refine st rfl rfl (zt (f := S4026.c) (l := a0) (a := y3) rfl Tryz.underlying31 jf rfl rfl (Int.natCast_nonneg _) hx1) rfl ?_;refine st rfl rfl (qw rfl jf rfl rfl rfl) rfl ?_;refine st_w rfl rfl (zw 6 rfl qd9 rfl rfl) rfl ?_;refine st rfl rfl (qc rfl rfl) rfl ?_;refine kc rfl rfl (q8 (tv := .g (G.agg [G.str y3.Request.Name, G.str y3.Request.Carrier, G.str y3.Request.Kind, G.str y3.Request.Terminal, G.str y3.Request.Partner, G.str y3.Request.Link, G.int y3.Request.Period.fFrom, G.int y3.Request.Period.fTo, G.int y3.Request.Period.Days, G.int y3.Request.Minute, G.int y3.Request.Seats, G.int y3.Request.Size, G.int y3.Request.Noise, G.bool y3.Historic, G.bool y3.Retimed, G.bool y3.Newcomer, G.bool y3.Yearround, G.int y3.Distance])) rfl jf rfl rfl rfl rfl rfl) ?_;refine qe ?_;refine qd ?_;refine zz [.p, .p, .p, .p, .r, .p, .p] (by kernel_rfl) ?_;refine st rfl rfl (qa rfl rfl) rfl ?_;refine st rfl rfl (qa rfl rfl) rfl ?_;refine st rfl rfl (qa rfl rfl) rfl ?_;refine st rfl rfl (qel (f := S4026.c) (l := a0) rfl Tryz.underlying31 jf rfl qax (wv rfl (Int.natCast_nonneg _)) (Nat.zero_le _) (qko hx1)) rfl ?_;refine st_r rfl rfl (zk rfl jf rfl rfl rfl rfl) rfl ?_;refine st rfl rfl (jm rfl ha1 Ka1 rfl (Ha1 (List.take (Int.toNat ((k2 : Nat) : Int)) a0) y3) (qg rfl (qg rfl ql))) rfl ?_;refine st rfl rfl (qc rfl rfl) rfl ?_;refine qe ?_;refine qd ?_;refine qb [.p, .p] ?_;refine st rfl rfl (qa rfl rfl) rfl ?_;refine st rfl rfl (zo rfl rfl rfl) rfl ?_;refine qe ?_;refine qp _ rfl (fun h3 => ?_) (fun h3 => ?_)
   ·replace h3 : (decide ((a1 (List.take (Int.toNat ((k2 : Nat) : Int)) a0) y3) ≠ 0)) = true := h3;replace hR := jc hR h3;(try simp only [Bool.or_eq_true, Bool.and_eq_true, Bool.or_eq_false_iff, Bool.and_eq_false_iff, Bool.not_eq_true', Bool.not_eq_false', decide_eq_true_eq, decide_eq_false_iff_not] at h3);refine qd ?_;refine qb [.p, .p] ?_;refine st rfl rfl (qa rfl rfl) rfl ?_;refine st rfl rfl (qc rfl rfl) rfl ?_;refine qe ?_;refine qn ?_;subst hR;exact qy rfl (rv_g rfl)
   ·replace h3 : (decide ((a1 (List.take (Int.toNat ((k2 : Nat) : Int)) a0) y3) ≠ 0)) = false := h3;replace hR := jd hR h3;(try simp only [Bool.or_eq_true, Bool.and_eq_true, Bool.or_eq_false_iff, Bool.and_eq_false_iff, Bool.not_eq_true', Bool.not_eq_false', decide_eq_true_eq, decide_eq_false_iff_not] at h3);refine qq ?_;refine qb [.p, .p] ?_;refine st rfl rfl (z0 rfl rfl rfl (by unfold I64; omega)) rfl ?_;refine st rfl rfl (qa rfl rfl) rfl ?_;refine qe ?_;exact ⟨rfl, (k2 + 1, t4), ⟨rfl, rfl, rfl, rfl, rfl, trivial⟩, trivial, rfl, ⟨hd, hR⟩, by simp⟩
  ·replace h1 : (decide (((k2 : Nat) : Int) < (List.length a0 : Int))) = false := h1;obtain rfl := je hd (decF h1);rw [s4037_l1] at hR;refine zy ?_;refine qd ?_;refine qb [.p] ?_;refine st rfl rfl (qc rfl rfl) rfl ?_;refine qe ?_;refine qn ?_;subst hR;exact qy rfl (rv_g rfl)
def s4038 (a0 : List S4026) (a1 : S4026) : Int :=
 (s4019 [(s4034 a1), (s4028 (s4039 a0 (fun x0 => s4040 x0 a1)) 9)])
theorem qzx {g : List (Nat × List Value)} (a0 : List S4026) (a1 : S4026)    : Con (EG g) 38 [G.sl 18 (List.map S4026.c a0), G.agg [G.str a1.Request.Name, G.str a1.Request.Carrier, G.str a1.Request.Kind, G.str a1.Request.Terminal, G.str a1.Request.Partner, G.str a1.Request.Link, G.int a1.Request.Period.fFrom, G.int a1.Request.Period.fTo, G.int a1.Request.Period.Days, G.int a1.Request.Minute, G.int a1.Request.Seats, G.int a1.Request.Size, G.int a1.Request.Noise, G.bool a1.Historic, G.bool a1.Retimed, G.bool a1.Newcomer, G.bool a1.Yearround, G.int a1.Distance]] (G.int (s4038 a0 a1)) := by
 generalize hR : s4038 a0 a1 = R;unfold s4038 at hR;refine qk Tryz.func38 rfl rfl fun w0 M0 => ?_;refine zl (f := S4026.c) (l := a0) 0 rfl fun hla0 => ?_;refine qd ?_;refine qb [.p, .p] ?_;refine st rfl rfl (zj rfl rfl) rfl ?_;refine st rfl rfl (qc rfl rfl) rfl ?_;refine qe ?_;refine qd ?_;refine qb [.p, .p, .p, .p] ?_;refine st rfl rfl (qa rfl rfl) rfl ?_;refine st rfl rfl (xh rfl rfl rfl) rfl ?_;refine st rfl rfl (qh rfl qxg rfl (qzv a0 (fun x0 => s4040 x0 a1) qcm qxh (fun x0 => qzu x0 a1)) (qg rfl (qg rfl ql))) rfl ?_;refine st rfl rfl (qc rfl rfl) rfl ?_;refine qe ?_;refine qd ?_;refine qb [.p, .p, .p, .p, .p, .p, .p] ?_;refine st rfl rfl (qw rfl jf rfl rfl rfl) rfl ?_;refine st rfl rfl (qh rfl qur rfl (qva a1) (qg rfl ql)) rfl ?_;refine st rfl rfl (qa rfl rfl) rfl ?_;refine st rfl rfl (qh rfl qa7 rfl (qba (s4039 a0 (fun x0 => s4040 x0 a1)) 9) (qg rfl (qg rfl ql))) rfl ?_;refine st rfl rfl (qo rfl Tryz.underlying83 ty37 z37 rfl (qr rfl (qr rfl jg)) rfl (by simp []) (by decide)) rfl ?_;refine st rfl rfl (qh rfl qbl rfl (qbz [(s4034 a1), (s4028 (s4039 a0 (fun x0 => s4040 x0 a1)) 9)]) (qg rfl ql)) rfl ?_;refine st rfl rfl (qc rfl rfl) rfl ?_;refine qe ?_;refine qn ?_;subst hR;exact qy rfl (rv_g rfl)
def s4113_l1 (a1 : S4069 → Bool) : List S4069 → Nat → Int
 | [], k2 => (-1)
 | y3 :: t4, k2 => (bif (a1 y3) then ((k2 : Nat) : Int) else s4113_l1 a1 t4 (k2 + 1))
def s4113 (a0 : List S4069) (a1 : S4069 → Bool) : Int :=
 s4113_l1 a1 a0 0
theorem qzy {g : List (Nat × List Value)} (a0 : List S4069) (a1 : S4069 → Bool) {ca1 : G} {ia1 : FuncId} {ka1 : List G} (ha1 : FnIs ca1 ia1 ka1) (Ka1 : Known Tryz.prog ia1) (Ha1 : ∀ (x0 : S4069), Con (EG g) ia1 ([G.agg [G.str x0.Name, G.sl 3 (List.map S4065.c x0.When), G.sl 2 (List.map S4063.c x0.By)]] ++ ka1) (G.bool (a1 x0)))   : Con (EG g) 113 [G.sl 3 (List.map S4069.c a0), ca1] (G.int (s4113 a0 a1)) := by
 generalize hR : s4113 a0 a1 = R;unfold s4113 at hR;refine qk Tryz.func113 rfl rfl fun w0 M0 => ?_;refine zl (f := S4069.c) (l := a0) 0 rfl fun hla0 => ?_;refine qd ?_;refine qb [.p] ?_;refine st rfl rfl (qc rfl rfl) rfl ?_;refine qe ?_;refine qd ?_;refine qd ?_;refine qb [.p, .p, .p] ?_;refine st rfl rfl (qa rfl rfl) rfl ?_;refine st rfl rfl (qx (f := S4069.c) (l := a0) rfl Tryz.underlying39 rfl) rfl ?_;refine st rfl rfl (qa rfl rfl) rfl ?_;refine qe ?_;refine qt ?_;refine zc (γ := Nat × (List S4069)) (fun g => ([(0, .g (G.sl 3 (List.map S4069.c a0))), (1, .g (ca1)), (7, .g (G.int (List.length a0 : Int))), (8, .g (G.int ((g.1 : Nat) : Int)))], [])) (fun g => a0.drop g.1 = g.2 ∧ s4113_l1 a1 g.2 g.1 = R) (fun g => List.length g.2) ⟨rfl, (0, a0), ⟨rfl, rfl, rfl, rfl, trivial⟩, trivial, rfl, ⟨rfl, (by exact hR)⟩, trivial⟩ ?_
 ·rintro ⟨k2, t4⟩ ⟨hd, hR⟩;replace hd : a0.drop k2 = t4 := hd;replace hR : s4113_l1 a1 t4 k2 = R := hR;refine qd ?_;refine qb [.p] ?_;refine st rfl rfl (zi rfl rfl rfl) rfl ?_;refine qe ?_;refine zl (f := S4069.c) (l := a0) 0 rfl fun hlz1 => ?_;refine qd ?_;refine qp _ rfl (fun h1 => ?_) (fun h1 => ?_)
  ·replace h1 : (decide (((k2 : Nat) : Int) < (List.length a0 : Int))) = true := h1;obtain ⟨y3, t4, rfl, hx1, hd⟩ := zp hd (decT h1);replace h1 := decT h1;rw [s4113_l1] at hR;(try dsimp only at hR);refine qq ?_;refine qd ?_;refine qt ?_;refine qd ?_;refine qb [.p, .p] ?_;refine st rfl rfl (qa rfl rfl) rfl ?_;refine st rfl rfl (qc rfl rfl) rfl ?_;refine qe ?_;refine qd ?_;refine qb [.p, .p, .p, .p, .p, .p] ?_;refine st rfl rfl (qa rfl rfl) rfl ?_;refine st rfl rfl (qa rfl rfl) rfl ?_;refine st rfl rfl (qa rfl rfl) rfl ?_;refine st rfl rfl (zt (f := S4069.c) (l := a0) (a := y3) rfl Tryz.underlying39 wd rfl rfl (Int.natCast_nonneg _) hx1) rfl ?_;refine st rfl rfl (qw rfl wd rfl rfl rfl) rfl ?_;refine st rfl rfl (jm rfl ha1 Ka1 rfl (Ha1 y3) (qg rfl ql)) rfl ?_;refine qe ?_;refine qp _ rfl (fun h3 => ?_) (fun h3 => ?_)
   ·replace h3 : ((a1 y3)) = true := h3;replace hR := jc hR h3;(try simp only [Bool.or_eq_true, Bool.and_eq_true, Bool.or_eq_false_iff, Bool.and_eq_false_iff, Bool.not_eq_true', Bool.not_eq_false', decide_eq_true_eq, decide_eq_false_iff_not] at h3);refine qd ?_;refine qb [.p, .p] ?_;refine st rfl rfl (qa rfl rfl) rfl ?_;refine st rfl rfl (qc rfl rfl) rfl ?_;refine qe ?_;refine qn ?_;subst hR;exact qy rfl (rv_g rfl)
   ·replace h3 : ((a1 y3)) = false := h3;replace hR := jd hR h3;(try simp only [Bool.or_eq_true, Bool.and_eq_true, Bool.or_eq_false_iff, Bool.and_eq_false_iff, Bool.not_eq_true', Bool.not_eq_false', decide_eq_true_eq, decide_eq_false_iff_not] at h3);refine qq ?_;refine qb [.p, .p] ?_;refine st rfl rfl (z0 rfl rfl rfl (by unfold I64; omega)) rfl ?_;refine st rfl rfl (qa rfl rfl) rfl ?_;refine qe ?_;exact ⟨rfl, (k2 + 1, t4), ⟨rfl, rfl, rfl, rfl, trivial⟩, trivial, rfl, ⟨hd, hR⟩, by simp⟩
  ·replace h1 : (decide (((k2 : Nat) : Int) < (List.length a0 : Int))) = false := h1;obtain rfl := je hd (decF h1);rw [s4113_l1] at hR;refine zy ?_;refine qd ?_;refine qb [.p] ?_;refine st rfl rfl (qc rfl rfl) rfl ?_;refine qe ?_;refine qn ?_;subst hR;exact qy rfl (rv_g rfl)
def s4102 (a0 : List S4069) (a1 : S4069 → Bool) : Bool :=
 decide (0 ≤ (s4113 a0 a1))
theorem qzz {g : List (Nat × List Value)} (a0 : List S4069) (a1 : S4069 → Bool) {ca1 : G} {ia1 : FuncId} {ka1 : List G} (ha1 : FnIs ca1 ia1 ka1) (Ka1 : Known Tryz.prog ia1) (Ha1 : ∀ (x0 : S4069), Con (EG g) ia1 ([G.agg [G.str x0.Name, G.sl 3 (List.map S4065.c x0.When), G.sl 2 (List.map S4063.c x0.By)]] ++ ka1) (G.bool (a1 x0)))   : Con (EG g) 102 [G.sl 3 (List.map S4069.c a0), ca1] (G.bool (s4102 a0 a1)) := by
 generalize hR : s4102 a0 a1 = R;unfold s4102 at hR;refine qk Tryz.func102 rfl rfl fun w0 M0 => ?_;refine zl (f := S4069.c) (l := a0) 0 rfl fun hla0 => ?_;refine qd ?_;refine qb [.p] ?_;refine st rfl rfl (qc rfl rfl) rfl ?_;refine qe ?_;refine qd ?_;refine qb [.p, .p, .p, .p, .p] ?_;refine st rfl rfl (qa rfl rfl) rfl ?_;refine st rfl rfl (qa rfl rfl) rfl ?_;refine st rfl rfl (qh rfl qyc rfl (qzy a0 a1 ha1 Ka1 Ha1) (qg rfl (qg rfl ql))) rfl ?_;refine st rfl rfl (xa rfl rfl rfl) rfl ?_;refine st rfl rfl (qc rfl rfl) rfl ?_;refine qe ?_;refine qn ?_;subst hR;exact qy rfl (rv_g rfl)
def s4103 (a0 : S4069) (a1 : S4069) : Bool :=
 decide (a0.Name = a1.Name)
theorem qz0 {g : List (Nat × List Value)} (a0 : S4069) (a1 : S4069)    : Con (EG g) 103 [G.agg [G.str a0.Name, G.sl 3 (List.map S4065.c a0.When), G.sl 2 (List.map S4063.c a0.By)], G.ref [G.str a1.Name, G.sl 3 (List.map S4065.c a1.When), G.sl 2 (List.map S4063.c a1.By)]] (G.bool (s4103 a0 a1)) := by
 generalize hR : s4103 a0 a1 = R;unfold s4103 at hR;refine qk Tryz.func103 rfl rfl fun w0 M0 => ?_;refine qd ?_;refine qb [.p, .p] ?_;refine st rfl rfl (zj rfl rfl) rfl ?_;refine st rfl rfl (qc rfl rfl) rfl ?_;refine qe ?_;refine qd ?_;refine qb [.p, .p, .p, .p, .p, .p] ?_;refine st rfl rfl (qf rfl qf5 rfl) rfl ?_;refine st rfl rfl (qj rfl ty9 rfl) rfl ?_;refine st rfl rfl (qf rfl qf5 rfl) rfl ?_;refine st rfl rfl (qj rfl ty9 rfl) rfl ?_;refine st rfl rfl (xj rfl rfl rfl) rfl ?_;refine st rfl rfl (qc rfl rfl) rfl ?_;refine qe ?_;refine qn ?_;subst hR;exact qy rfl (rv_g rfl)
def s4114_l1 (a0 : List S4065) (a1 : (List S4065) → S4065 → Int) : List S4065 → Nat → Int
 | [], k2 => 0
 | y3 :: t4, k2 => (bif decide ((a1 (List.take (Int.toNat ((k2 : Nat) : Int)) a0) y3) ≠ 0) then (a1 (List.take (Int.toNat ((k2 : Nat) : Int)) a0) y3) else s4114_l1 a0 a1 t4 (k2 + 1))
def s4114 (a0 : List S4065) (a1 : (List S4065) → S4065 → Int) : Int :=
 s4114_l1 a0 a1 a0 0
theorem qz1 {g : List (Nat × List Value)} (a0 : List S4065) (a1 : (List S4065) → S4065 → Int) {ca1 : G} {ia1 : FuncId} {ka1 : List G} (ha1 : FnIs ca1 ia1 ka1) (Ka1 : Known Tryz.prog ia1) (Ha1 : ∀ (x0 : List S4065) (x1 : S4065), Con (EG g) ia1 ([G.sl 3 (List.map S4065.c x0), G.agg [G.str x1.Fact, G.str x1.Op, G.int x1.Value]] ++ ka1) (G.int (a1 x0 x1)))   : Con (EG g) 114 [G.sl 3 (List.map S4065.c a0), ca1] (G.int (s4114 a0 a1)) := by
 generalize hR : s4114 a0 a1 = R;unfold s4114 at hR;refine qk Tryz.func114 rfl rfl fun w0 M0 => ?_;refine zl (f := S4065.c) (l := a0) 0 rfl fun hla0 => ?_;refine qd ?_;refine qb [.p] ?_;refine st rfl rfl (qc rfl rfl) rfl ?_;refine qe ?_;refine qd ?_;refine qd ?_;refine qb [.p, .p, .p] ?_;refine st rfl rfl (qa rfl rfl) rfl ?_;refine st rfl rfl (qx (f := S4065.c) (l := a0) rfl Tryz.underlying67 rfl) rfl ?_;refine st rfl rfl (qa rfl rfl) rfl ?_;refine qe ?_;refine qt ?_;refine zc (γ := Nat × (List S4065)) (fun g => ([(0, .g (G.sl 3 (List.map S4065.c a0))), (1, .g (ca1)), (8, .g (G.sl 3 (List.map S4065.c a0))), (9, .g (G.int (List.length a0 : Int))), (10, .g (G.int ((g.1 : Nat) : Int)))], [])) (fun g => a0.drop g.1 = g.2 ∧ s4114_l1 a0 a1 g.2 g.1 = R) (fun g => List.length g.2) ⟨rfl, (0, a0), ⟨rfl, rfl, rfl, rfl, rfl, trivial⟩, trivial, rfl, ⟨rfl, (by exact hR)⟩, trivial⟩ ?_
 ·rintro ⟨k2, t4⟩ ⟨hd, hR⟩;replace hd : a0.drop k2 = t4 := hd;replace hR : s4114_l1 a0 a1 t4 k2 = R := hR;refine qd ?_;refine qb [.p] ?_;refine st rfl rfl (zi rfl rfl rfl) rfl ?_;refine qe ?_;refine zl (f := S4065.c) (l := a0) 0 rfl fun hlz1 => ?_;refine qd ?_;refine qp _ rfl (fun h1 => ?_) (fun h1 => ?_)
  ·replace h1 : (decide (((k2 : Nat) : Int) < (List.length a0 : Int))) = true := h1;obtain ⟨y3, t4, rfl, hx1, hd⟩ := zp hd (decT h1);replace h1 := decT h1;rw [s4114_l1] at hR;(try dsimp only at hR);refine qq ?_;refine qd ?_;refine qt ?_;refine qd ?_;refine qb [.p, .p, .p, .w, .p, .w] ?_;refine st rfl rfl (qa rfl rfl) rfl ?_;refine st rfl rfl (zt (f := S4065.c) (l := a0) (a := y3) rfl Tryz.underlying67 wc rfl rfl (Int.natCast_nonneg _) hx1) rfl ?_;refine st rfl rfl (qw rfl wc rfl rfl rfl) rfl ?_;refine st_w rfl rfl (zw 6 rfl qf8 rfl rfl) rfl ?_;refine st rfl rfl (qc rfl rfl) rfl ?_;refine kc rfl rfl (q8 (tv := .g (G.agg [G.str y3.Fact, G.str y3.Op, G.int y3.Value])) rfl wc rfl rfl rfl rfl rfl) ?_;refine qe ?_;refine qd ?_;refine zz [.p, .p, .p, .p, .r, .p, .p] (by kernel_rfl) ?_;refine st rfl rfl (qa rfl rfl) rfl ?_;refine st rfl rfl (qa rfl rfl) rfl ?_;refine st rfl rfl (qa rfl rfl) rfl ?_;refine st rfl rfl (qel (f := S4065.c) (l := a0) rfl Tryz.underlying67 wc rfl qax (wv rfl (Int.natCast_nonneg _)) (Nat.zero_le _) (qko hx1)) rfl ?_;refine st_r rfl rfl (zk rfl wc rfl rfl rfl rfl) rfl ?_;refine st rfl rfl (jm rfl ha1 Ka1 rfl (Ha1 (List.take (Int.toNat ((k2 : Nat) : Int)) a0) y3) (qg rfl (qg rfl ql))) rfl ?_;refine st rfl rfl (qc rfl rfl) rfl ?_;refine qe ?_;refine qd ?_;refine qb [.p, .p] ?_;refine st rfl rfl (qa rfl rfl) rfl ?_;refine st rfl rfl (zo rfl rfl rfl) rfl ?_;refine qe ?_;refine qp _ rfl (fun h3 => ?_) (fun h3 => ?_)
   ·replace h3 : (decide ((a1 (List.take (Int.toNat ((k2 : Nat) : Int)) a0) y3) ≠ 0)) = true := h3;replace hR := jc hR h3;(try simp only [Bool.or_eq_true, Bool.and_eq_true, Bool.or_eq_false_iff, Bool.and_eq_false_iff, Bool.not_eq_true', Bool.not_eq_false', decide_eq_true_eq, decide_eq_false_iff_not] at h3);refine qd ?_;refine qb [.p, .p] ?_;refine st rfl rfl (qa rfl rfl) rfl ?_;refine st rfl rfl (qc rfl rfl) rfl ?_;refine qe ?_;refine qn ?_;subst hR;exact qy rfl (rv_g rfl)
   ·replace h3 : (decide ((a1 (List.take (Int.toNat ((k2 : Nat) : Int)) a0) y3) ≠ 0)) = false := h3;replace hR := jd hR h3;(try simp only [Bool.or_eq_true, Bool.and_eq_true, Bool.or_eq_false_iff, Bool.and_eq_false_iff, Bool.not_eq_true', Bool.not_eq_false', decide_eq_true_eq, decide_eq_false_iff_not] at h3);refine qq ?_;refine qb [.p, .p] ?_;refine st rfl rfl (z0 rfl rfl rfl (by unfold I64; omega)) rfl ?_;refine st rfl rfl (qa rfl rfl) rfl ?_;refine qe ?_;exact ⟨rfl, (k2 + 1, t4), ⟨rfl, rfl, rfl, rfl, rfl, trivial⟩, trivial, rfl, ⟨hd, hR⟩, by simp⟩
  ·replace h1 : (decide (((k2 : Nat) : Int) < (List.length a0 : Int))) = false := h1;obtain rfl := je hd (decF h1);rw [s4114_l1] at hR;refine zy ?_;refine qd ?_;refine qb [.p] ?_;refine st rfl rfl (qc rfl rfl) rfl ?_;refine qe ?_;refine qn ?_;subst hR;exact qy rfl (rv_g rfl)
def s4117_l1 (a0 : List S4063) (a1 : (List S4063) → S4063 → Int) : List S4063 → Nat → Int
 | [], k2 => 0
 | y3 :: t4, k2 => (bif decide ((a1 (List.take (Int.toNat ((k2 : Nat) : Int)) a0) y3) ≠ 0) then (a1 (List.take (Int.toNat ((k2 : Nat) : Int)) a0) y3) else s4117_l1 a0 a1 t4 (k2 + 1))
def s4117 (a0 : List S4063) (a1 : (List S4063) → S4063 → Int) : Int :=
 s4117_l1 a0 a1 a0 0
theorem qz2 {g : List (Nat × List Value)} (a0 : List S4063) (a1 : (List S4063) → S4063 → Int) {ca1 : G} {ia1 : FuncId} {ka1 : List G} (ha1 : FnIs ca1 ia1 ka1) (Ka1 : Known Tryz.prog ia1) (Ha1 : ∀ (x0 : List S4063) (x1 : S4063), Con (EG g) ia1 ([G.sl 2 (List.map S4063.c x0), G.agg [G.str x1.Fact, G.bool x1.Down]] ++ ka1) (G.int (a1 x0 x1)))   : Con (EG g) 117 [G.sl 2 (List.map S4063.c a0), ca1] (G.int (s4117 a0 a1)) := by
 generalize hR : s4117 a0 a1 = R;unfold s4117 at hR;refine qk Tryz.func117 rfl rfl fun w0 M0 => ?_;refine zl (f := S4063.c) (l := a0) 0 rfl fun hla0 => ?_;refine qd ?_;refine qb [.p] ?_;refine st rfl rfl (qc rfl rfl) rfl ?_;refine qe ?_;refine qd ?_;refine qd ?_;refine qb [.p, .p, .p] ?_;refine st rfl rfl (qa rfl rfl) rfl ?_;refine st rfl rfl (qx (f := S4063.c) (l := a0) rfl Tryz.underlying68 rfl) rfl ?_;refine st rfl rfl (qa rfl rfl) rfl ?_;refine qe ?_;refine qt ?_;refine zc (γ := Nat × (List S4063)) (fun g => ([(0, .g (G.sl 2 (List.map S4063.c a0))), (1, .g (ca1)), (8, .g (G.sl 2 (List.map S4063.c a0))), (9, .g (G.int (List.length a0 : Int))), (10, .g (G.int ((g.1 : Nat) : Int)))], [])) (fun g => a0.drop g.1 = g.2 ∧ s4117_l1 a0 a1 g.2 g.1 = R) (fun g => List.length g.2) ⟨rfl, (0, a0), ⟨rfl, rfl, rfl, rfl, rfl, trivial⟩, trivial, rfl, ⟨rfl, (by exact hR)⟩, trivial⟩ ?_
 ·rintro ⟨k2, t4⟩ ⟨hd, hR⟩;replace hd : a0.drop k2 = t4 := hd;replace hR : s4117_l1 a0 a1 t4 k2 = R := hR;refine qd ?_;refine qb [.p] ?_;refine st rfl rfl (zi rfl rfl rfl) rfl ?_;refine qe ?_;refine zl (f := S4063.c) (l := a0) 0 rfl fun hlz1 => ?_;refine qd ?_;refine qp _ rfl (fun h1 => ?_) (fun h1 => ?_)
  ·replace h1 : (decide (((k2 : Nat) : Int) < (List.length a0 : Int))) = true := h1;obtain ⟨y3, t4, rfl, hx1, hd⟩ := zp hd (decT h1);replace h1 := decT h1;rw [s4117_l1] at hR;(try dsimp only at hR);refine qq ?_;refine qd ?_;refine qt ?_;refine qd ?_;refine qb [.p, .p, .p, .w, .p, .w] ?_;refine st rfl rfl (qa rfl rfl) rfl ?_;refine st rfl rfl (zt (f := S4063.c) (l := a0) (a := y3) rfl Tryz.underlying68 j6 rfl rfl (Int.natCast_nonneg _) hx1) rfl ?_;refine st rfl rfl (qw rfl j6 rfl rfl rfl) rfl ?_;refine st_w rfl rfl (zw 6 rfl qcg rfl rfl) rfl ?_;refine st rfl rfl (qc rfl rfl) rfl ?_;refine kc rfl rfl (q8 (tv := .g (G.agg [G.str y3.Fact, G.bool y3.Down])) rfl j6 rfl rfl rfl rfl rfl) ?_;refine qe ?_;refine qd ?_;refine zz [.p, .p, .p, .p, .r, .p, .p] (by kernel_rfl) ?_;refine st rfl rfl (qa rfl rfl) rfl ?_;refine st rfl rfl (qa rfl rfl) rfl ?_;refine st rfl rfl (qa rfl rfl) rfl ?_;refine st rfl rfl (qel (f := S4063.c) (l := a0) rfl Tryz.underlying68 j6 rfl qax (wv rfl (Int.natCast_nonneg _)) (Nat.zero_le _) (qko hx1)) rfl ?_;refine st_r rfl rfl (zk rfl j6 rfl rfl rfl rfl) rfl ?_;refine st rfl rfl (jm rfl ha1 Ka1 rfl (Ha1 (List.take (Int.toNat ((k2 : Nat) : Int)) a0) y3) (qg rfl (qg rfl ql))) rfl ?_;refine st rfl rfl (qc rfl rfl) rfl ?_;refine qe ?_;refine qd ?_;refine qb [.p, .p] ?_;refine st rfl rfl (qa rfl rfl) rfl ?_;refine st rfl rfl (zo rfl rfl rfl) rfl ?_;refine qe ?_;refine qp _ rfl (fun h3 => ?_) (fun h3 => ?_)
   ·replace h3 : (decide ((a1 (List.take (Int.toNat ((k2 : Nat) : Int)) a0) y3) ≠ 0)) = true := h3;replace hR := jc hR h3;(try simp only [Bool.or_eq_true, Bool.and_eq_true, Bool.or_eq_false_iff, Bool.and_eq_false_iff, Bool.not_eq_true', Bool.not_eq_false', decide_eq_true_eq, decide_eq_false_iff_not] at h3);refine qd ?_;refine qb [.p, .p] ?_;refine st rfl rfl (qa rfl rfl) rfl ?_;refine st rfl rfl (qc rfl rfl) rfl ?_;refine qe ?_;refine qn ?_;subst hR;exact qy rfl (rv_g rfl)
   ·replace h3 : (decide ((a1 (List.take (Int.toNat ((k2 : Nat) : Int)) a0) y3) ≠ 0)) = false := h3;replace hR := jd hR h3;(try simp only [Bool.or_eq_true, Bool.and_eq_true, Bool.or_eq_false_iff, Bool.and_eq_false_iff, Bool.not_eq_true', Bool.not_eq_false', decide_eq_true_eq, decide_eq_false_iff_not] at h3);refine qq ?_;refine qb [.p, .p] ?_;refine st rfl rfl (z0 rfl rfl rfl (by unfold I64; omega)) rfl ?_;refine st rfl rfl (qa rfl rfl) rfl ?_;refine qe ?_;exact ⟨rfl, (k2 + 1, t4), ⟨rfl, rfl, rfl, rfl, rfl, trivial⟩, trivial, rfl, ⟨hd, hR⟩, by simp⟩
  ·replace h1 : (decide (((k2 : Nat) : Int) < (List.length a0 : Int))) = false := h1;obtain rfl := je hd (decF h1);rw [s4117_l1] at hR;refine zy ?_;refine qd ?_;refine qb [.p] ?_;refine st rfl rfl (qc rfl rfl) rfl ?_;refine qe ?_;refine qn ?_;subst hR;exact qy rfl (rv_g rfl)
def s4125_l1 (a1 : S4063 → Bool) : List S4063 → Nat → Int
 | [], k2 => (-1)
 | y3 :: t4, k2 => (bif (a1 y3) then ((k2 : Nat) : Int) else s4125_l1 a1 t4 (k2 + 1))
def s4125 (a0 : List S4063) (a1 : S4063 → Bool) : Int :=
 s4125_l1 a1 a0 0
theorem qz3 {g : List (Nat × List Value)} (a0 : List S4063) (a1 : S4063 → Bool) {ca1 : G} {ia1 : FuncId} {ka1 : List G} (ha1 : FnIs ca1 ia1 ka1) (Ka1 : Known Tryz.prog ia1) (Ha1 : ∀ (x0 : S4063), Con (EG g) ia1 ([G.agg [G.str x0.Fact, G.bool x0.Down]] ++ ka1) (G.bool (a1 x0)))   : Con (EG g) 125 [G.sl 2 (List.map S4063.c a0), ca1] (G.int (s4125 a0 a1)) := by
 generalize hR : s4125 a0 a1 = R;unfold s4125 at hR;refine qk Tryz.func125 rfl rfl fun w0 M0 => ?_;refine zl (f := S4063.c) (l := a0) 0 rfl fun hla0 => ?_;refine qd ?_;refine qb [.p] ?_;refine st rfl rfl (qc rfl rfl) rfl ?_;refine qe ?_;refine qd ?_;refine qd ?_;refine qb [.p, .p, .p] ?_;refine st rfl rfl (qa rfl rfl) rfl ?_;refine st rfl rfl (qx (f := S4063.c) (l := a0) rfl Tryz.underlying68 rfl) rfl ?_;refine st rfl rfl (qa rfl rfl) rfl ?_;refine qe ?_;refine qt ?_;refine zc (γ := Nat × (List S4063)) (fun g => ([(0, .g (G.sl 2 (List.map S4063.c a0))), (1, .g (ca1)), (7, .g (G.int (List.length a0 : Int))), (8, .g (G.int ((g.1 : Nat) : Int)))], [])) (fun g => a0.drop g.1 = g.2 ∧ s4125_l1 a1 g.2 g.1 = R) (fun g => List.length g.2) ⟨rfl, (0, a0), ⟨rfl, rfl, rfl, rfl, trivial⟩, trivial, rfl, ⟨rfl, (by exact hR)⟩, trivial⟩ ?_
 ·rintro ⟨k2, t4⟩ ⟨hd, hR⟩;replace hd : a0.drop k2 = t4 := hd;replace hR : s4125_l1 a1 t4 k2 = R := hR;refine qd ?_;refine qb [.p] ?_;refine st rfl rfl (zi rfl rfl rfl) rfl ?_;refine qe ?_;refine zl (f := S4063.c) (l := a0) 0 rfl fun hlz1 => ?_;refine qd ?_;refine qp _ rfl (fun h1 => ?_) (fun h1 => ?_)
  ·replace h1 : (decide (((k2 : Nat) : Int) < (List.length a0 : Int))) = true := h1;obtain ⟨y3, t4, rfl, hx1, hd⟩ := zp hd (decT h1);replace h1 := decT h1;rw [s4125_l1] at hR;(try dsimp only at hR);refine qq ?_;refine qd ?_;refine qt ?_;refine qd ?_;refine qb [.p, .p] ?_;refine st rfl rfl (qa rfl rfl) rfl ?_;refine st rfl rfl (qc rfl rfl) rfl ?_;refine qe ?_;refine qd ?_;refine qb [.p, .p, .p, .p, .p, .p] ?_;refine st rfl rfl (qa rfl rfl) rfl ?_;refine st rfl rfl (qa rfl rfl) rfl ?_;refine st rfl rfl (qa rfl rfl) rfl ?_;refine st rfl rfl (zt (f := S4063.c) (l := a0) (a := y3) rfl Tryz.underlying68 j6 rfl rfl (Int.natCast_nonneg _) hx1) rfl ?_;refine st rfl rfl (qw rfl j6 rfl rfl rfl) rfl ?_;refine st rfl rfl (jm rfl ha1 Ka1 rfl (Ha1 y3) (qg rfl ql)) rfl ?_;refine qe ?_;refine qp _ rfl (fun h3 => ?_) (fun h3 => ?_)
   ·replace h3 : ((a1 y3)) = true := h3;replace hR := jc hR h3;(try simp only [Bool.or_eq_true, Bool.and_eq_true, Bool.or_eq_false_iff, Bool.and_eq_false_iff, Bool.not_eq_true', Bool.not_eq_false', decide_eq_true_eq, decide_eq_false_iff_not] at h3);refine qd ?_;refine qb [.p, .p] ?_;refine st rfl rfl (qa rfl rfl) rfl ?_;refine st rfl rfl (qc rfl rfl) rfl ?_;refine qe ?_;refine qn ?_;subst hR;exact qy rfl (rv_g rfl)
   ·replace h3 : ((a1 y3)) = false := h3;replace hR := jd hR h3;(try simp only [Bool.or_eq_true, Bool.and_eq_true, Bool.or_eq_false_iff, Bool.and_eq_false_iff, Bool.not_eq_true', Bool.not_eq_false', decide_eq_true_eq, decide_eq_false_iff_not] at h3);refine qq ?_;refine qb [.p, .p] ?_;refine st rfl rfl (z0 rfl rfl rfl (by unfold I64; omega)) rfl ?_;refine st rfl rfl (qa rfl rfl) rfl ?_;refine qe ?_;exact ⟨rfl, (k2 + 1, t4), ⟨rfl, rfl, rfl, rfl, trivial⟩, trivial, rfl, ⟨hd, hR⟩, by simp⟩
  ·replace h1 : (decide (((k2 : Nat) : Int) < (List.length a0 : Int))) = false := h1;obtain rfl := je hd (decF h1);rw [s4125_l1] at hR;refine zy ?_;refine qd ?_;refine qb [.p] ?_;refine st rfl rfl (qc rfl rfl) rfl ?_;refine qe ?_;refine qn ?_;subst hR;exact qy rfl (rv_g rfl)
def s4119 (a0 : List S4063) (a1 : S4063 → Bool) : Bool :=
 decide (0 ≤ (s4125 a0 a1))
theorem qz4 {g : List (Nat × List Value)} (a0 : List S4063) (a1 : S4063 → Bool) {ca1 : G} {ia1 : FuncId} {ka1 : List G} (ha1 : FnIs ca1 ia1 ka1) (Ka1 : Known Tryz.prog ia1) (Ha1 : ∀ (x0 : S4063), Con (EG g) ia1 ([G.agg [G.str x0.Fact, G.bool x0.Down]] ++ ka1) (G.bool (a1 x0)))   : Con (EG g) 119 [G.sl 2 (List.map S4063.c a0), ca1] (G.bool (s4119 a0 a1)) := by
 generalize hR : s4119 a0 a1 = R;unfold s4119 at hR;refine qk Tryz.func119 rfl rfl fun w0 M0 => ?_;refine zl (f := S4063.c) (l := a0) 0 rfl fun hla0 => ?_;refine qd ?_;refine qb [.p] ?_;refine st rfl rfl (qc rfl rfl) rfl ?_;refine qe ?_;refine qd ?_;refine qb [.p, .p, .p, .p, .p] ?_;refine st rfl rfl (qa rfl rfl) rfl ?_;refine st rfl rfl (qa rfl rfl) rfl ?_;refine st rfl rfl (qh rfl qyl rfl (qz3 a0 a1 ha1 Ka1 Ha1) (qg rfl (qg rfl ql))) rfl ?_;refine st rfl rfl (xa rfl rfl rfl) rfl ?_;refine st rfl rfl (qc rfl rfl) rfl ?_;refine qe ?_;refine qn ?_;subst hR;exact qy rfl (rv_g rfl)
def s4120 (a0 : S4063) (a1 : S4063) : Bool :=
 decide (a0.Fact = a1.Fact)
theorem qz5 {g : List (Nat × List Value)} (a0 : S4063) (a1 : S4063)    : Con (EG g) 120 [G.agg [G.str a0.Fact, G.bool a0.Down], G.ref [G.str a1.Fact, G.bool a1.Down]] (G.bool (s4120 a0 a1)) := by
 generalize hR : s4120 a0 a1 = R;unfold s4120 at hR;refine qk Tryz.func120 rfl rfl fun w0 M0 => ?_;refine qd ?_;refine qb [.p, .p] ?_;refine st rfl rfl (zj rfl rfl) rfl ?_;refine st rfl rfl (qc rfl rfl) rfl ?_;refine qe ?_;refine qd ?_;refine qb [.p, .p, .p, .p, .p, .p] ?_;refine st rfl rfl (qf rfl qbn rfl) rfl ?_;refine st rfl rfl (qj rfl ty9 rfl) rfl ?_;refine st rfl rfl (qf rfl qbn rfl) rfl ?_;refine st rfl rfl (qj rfl ty9 rfl) rfl ?_;refine st rfl rfl (xj rfl rfl rfl) rfl ?_;refine st rfl rfl (qc rfl rfl) rfl ?_;refine qe ?_;refine qn ?_;subst hR;exact qy rfl (rv_g rfl)
def s148_l1 (a1 : ByteArray) : List ByteArray → Nat → Int
 | [], k2 => (-1)
 | y3 :: t4, k2 => (bif decide (a1 = y3) then ((k2 : Nat) : Int) else s148_l1 a1 t4 (k2 + 1))
def s148 (a0 : List ByteArray) (a1 : ByteArray) : Int :=
 s148_l1 a1 a0 0
theorem c148 {g : List (Nat × List Value)} (a0 : List ByteArray) (a1 : ByteArray)    : Con (EG g) 126 [G.sl 1 (List.map cStr a0), G.str a1] (G.int (s148 a0 a1)) := by
 generalize hR : s148 a0 a1 = R;unfold s148 at hR;refine qk Tryz.func126 rfl rfl fun w0 M0 => ?_;refine zl (f := cStr) (l := a0) 0 rfl fun hla0 => ?_;refine qd ?_;refine qb [.p] ?_;refine st rfl rfl (qc rfl rfl) rfl ?_;refine qe ?_;refine qd ?_;refine qd ?_;refine qb [.p, .p, .p] ?_;refine st rfl rfl (qa rfl rfl) rfl ?_;refine st rfl rfl (qx (f := cStr) (l := a0) rfl Tryz.underlying33 rfl) rfl ?_;refine st rfl rfl (qa rfl rfl) rfl ?_;refine qe ?_;refine qt ?_;refine zc (γ := Nat × (List ByteArray)) (fun g => ([(0, .g (G.sl 1 (List.map cStr a0))), (1, .g (G.str a1)), (7, .g (G.int (List.length a0 : Int))), (8, .g (G.int ((g.1 : Nat) : Int)))], [])) (fun g => a0.drop g.1 = g.2 ∧ s148_l1 a1 g.2 g.1 = R) (fun g => List.length g.2) ⟨rfl, (0, a0), ⟨rfl, rfl, rfl, rfl, trivial⟩, trivial, rfl, ⟨rfl, (by exact hR)⟩, trivial⟩ ?_
 ·rintro ⟨k2, t4⟩ ⟨hd, hR⟩;replace hd : a0.drop k2 = t4 := hd;replace hR : s148_l1 a1 t4 k2 = R := hR;refine qd ?_;refine qb [.p] ?_;refine st rfl rfl (zi rfl rfl rfl) rfl ?_;refine qe ?_;refine zl (f := cStr) (l := a0) 0 rfl fun hlz1 => ?_;refine qd ?_;refine qp _ rfl (fun h1 => ?_) (fun h1 => ?_)
  ·replace h1 : (decide (((k2 : Nat) : Int) < (List.length a0 : Int))) = true := h1;obtain ⟨y3, t4, rfl, hx1, hd⟩ := zp hd (decT h1);replace h1 := decT h1;rw [s148_l1] at hR;(try dsimp only at hR);refine qq ?_;refine qd ?_;refine qt ?_;refine qd ?_;refine qb [.p, .p] ?_;refine st rfl rfl (qa rfl rfl) rfl ?_;refine st rfl rfl (qc rfl rfl) rfl ?_;refine qe ?_;refine qd ?_;refine qb [.p, .p, .p, .p, .p, .p] ?_;refine st rfl rfl (qa rfl rfl) rfl ?_;refine st rfl rfl (qa rfl rfl) rfl ?_;refine st rfl rfl (qa rfl rfl) rfl ?_;refine st rfl rfl (zt (f := cStr) (l := a0) (a := y3) rfl Tryz.underlying33 ty9 rfl rfl (Int.natCast_nonneg _) hx1) rfl ?_;refine st rfl rfl (qj rfl ty9 rfl) rfl ?_;refine st rfl rfl (xj rfl rfl rfl) rfl ?_;refine qe ?_;refine qp _ rfl (fun h3 => ?_) (fun h3 => ?_)
   ·replace h3 : (decide (a1 = y3)) = true := h3;replace hR := jc hR h3;(try simp only [Bool.or_eq_true, Bool.and_eq_true, Bool.or_eq_false_iff, Bool.and_eq_false_iff, Bool.not_eq_true', Bool.not_eq_false', decide_eq_true_eq, decide_eq_false_iff_not] at h3);refine qd ?_;refine qb [.p, .p] ?_;refine st rfl rfl (qa rfl rfl) rfl ?_;refine st rfl rfl (qc rfl rfl) rfl ?_;refine qe ?_;refine qn ?_;subst hR;exact qy rfl (rv_g rfl)
   ·replace h3 : (decide (a1 = y3)) = false := h3;replace hR := jd hR h3;(try simp only [Bool.or_eq_true, Bool.and_eq_true, Bool.or_eq_false_iff, Bool.and_eq_false_iff, Bool.not_eq_true', Bool.not_eq_false', decide_eq_true_eq, decide_eq_false_iff_not] at h3);refine qq ?_;refine qb [.p, .p] ?_;refine st rfl rfl (z0 rfl rfl rfl (by unfold I64; omega)) rfl ?_;refine st rfl rfl (qa rfl rfl) rfl ?_;refine qe ?_;exact ⟨rfl, (k2 + 1, t4), ⟨rfl, rfl, rfl, rfl, trivial⟩, trivial, rfl, ⟨hd, hR⟩, by simp⟩
  ·replace h1 : (decide (((k2 : Nat) : Int) < (List.length a0 : Int))) = false := h1;obtain rfl := je hd (decF h1);rw [s148_l1] at hR;refine zy ?_;refine qd ?_;refine qb [.p] ?_;refine st rfl rfl (qc rfl rfl) rfl ?_;refine qe ?_;refine qn ?_;subst hR;exact qy rfl (rv_g rfl)
def s88 (a0 : List ByteArray) (a1 : ByteArray) : Bool :=
 decide (0 ≤ (s148 a0 a1))
theorem c88 {g : List (Nat × List Value)} (a0 : List ByteArray) (a1 : ByteArray)    : Con (EG g) 121 [G.sl 1 (List.map cStr a0), G.str a1] (G.bool (s88 a0 a1)) := by
 generalize hR : s88 a0 a1 = R;unfold s88 at hR;refine qk Tryz.func121 rfl rfl fun w0 M0 => ?_;refine zl (f := cStr) (l := a0) 0 rfl fun hla0 => ?_;refine qd ?_;refine qb [.p] ?_;refine st rfl rfl (qc rfl rfl) rfl ?_;refine qe ?_;refine qd ?_;refine qb [.p, .p, .p, .p, .p] ?_;refine st rfl rfl (qa rfl rfl) rfl ?_;refine st rfl rfl (qa rfl rfl) rfl ?_;refine st rfl rfl (qh rfl K148 rfl (c148 a0 a1) (qg rfl (qg rfl ql))) rfl ?_;refine st rfl rfl (xa rfl rfl rfl) rfl ?_;refine st rfl rfl (qc rfl rfl) rfl ?_;refine qe ?_;refine qn ?_;subst hR;exact qy rfl (rv_g rfl)
def s1170_l1 (a1 : Int → Option Bool) : List Int → Nat → Option Int
 | [], k2 => some (-1)
 | y3 :: t4, k2 => bindO (a1 y3) fun r5 => (bif r5 then some ((k2 : Nat) : Int) else s1170_l1 a1 t4 (k2 + 1))
def s1170 (a0 : List Int) (a1 : Int → Option Bool) : Option Int :=
 s1170_l1 a1 a0 0
theorem qy0 {g : List (Nat × List Value)} (a0 : List Int) (a1 : Int → Option Bool) {R : Int} {ca1 : G} {ia1 : FuncId} {ka1 : List G} (ha1 : FnIs ca1 ia1 ka1) (Ka1 : Known Tryz.prog ia1) (Ha1 : ∀ (x0 : Int) (r : Bool), a1 x0 = some r → Con (EG g) ia1 ([G.int x0] ++ ka1) (G.bool r))  (hR : s1170 a0 a1 = some R) : Con (EG g) 48 [G.sl 1 (List.map cInt a0), ca1] (G.int R) := by
 unfold s1170 at hR;refine qk Tryz.func48 rfl rfl fun w0 M0 => ?_;refine zl (f := cInt) (l := a0) 0 rfl fun hla0 => ?_;refine qd ?_;refine qb [.p] ?_;refine st rfl rfl (qc rfl rfl) rfl ?_;refine qe ?_;refine qd ?_;refine qd ?_;refine qb [.p, .p, .p] ?_;refine st rfl rfl (qa rfl rfl) rfl ?_;refine st rfl rfl (qx (f := cInt) (l := a0) rfl Tryz.underlying34 rfl) rfl ?_;refine st rfl rfl (qa rfl rfl) rfl ?_;refine qe ?_;refine qt ?_;refine zc (γ := Nat × (List Int)) (fun g => ([(0, .g (G.sl 1 (List.map cInt a0))), (1, .g (ca1)), (7, .g (G.int (List.length a0 : Int))), (8, .g (G.int ((g.1 : Nat) : Int)))], [])) (fun g => a0.drop g.1 = g.2 ∧ s1170_l1 a1 g.2 g.1 = some R) (fun g => List.length g.2) ⟨rfl, (0, a0), ⟨rfl, rfl, rfl, rfl, trivial⟩, trivial, rfl, ⟨rfl, (by exact hR)⟩, trivial⟩ ?_
 ·rintro ⟨k2, t4⟩ ⟨hd, hR⟩;replace hd : a0.drop k2 = t4 := hd;replace hR : s1170_l1 a1 t4 k2 = some R := hR;refine qd ?_;refine qb [.p] ?_;refine st rfl rfl (zi rfl rfl rfl) rfl ?_;refine qe ?_;refine zl (f := cInt) (l := a0) 0 rfl fun hlz1 => ?_;refine qd ?_;refine qp _ rfl (fun h1 => ?_) (fun h1 => ?_)
  ·replace h1 : (decide (((k2 : Nat) : Int) < (List.length a0 : Int))) = true := h1;obtain ⟨y3, t4, rfl, hx1, hd⟩ := zp hd (decT h1);replace h1 := decT h1;rw [s1170_l1] at hR;(try dsimp only at hR);refine qq ?_;refine qd ?_;refine qt ?_;refine qd ?_;refine qb [.p, .p] ?_;refine st rfl rfl (qa rfl rfl) rfl ?_;refine st rfl rfl (qc rfl rfl) rfl ?_;refine qe ?_;refine qd ?_;obtain ⟨r5, br5, hR⟩ := qm hR;refine qb [.p, .p, .p, .p, .p, .p] ?_;refine st rfl rfl (qa rfl rfl) rfl ?_;refine st rfl rfl (qa rfl rfl) rfl ?_;refine st rfl rfl (qa rfl rfl) rfl ?_;refine st rfl rfl (zt (f := cInt) (l := a0) (a := y3) rfl Tryz.underlying34 ty3 rfl rfl (Int.natCast_nonneg _) hx1) rfl ?_;refine st rfl rfl (qj rfl ty3 rfl) rfl ?_;refine st rfl rfl (jm rfl ha1 Ka1 rfl (Ha1 y3 _ br5) (qg rfl ql)) rfl ?_;refine qe ?_;refine qp _ rfl (fun h3 => ?_) (fun h3 => ?_)
   ·replace h3 : (r5) = true := h3;replace hR := jc hR h3;(try simp only [Bool.or_eq_true, Bool.and_eq_true, Bool.or_eq_false_iff, Bool.and_eq_false_iff, Bool.not_eq_true', Bool.not_eq_false', decide_eq_true_eq, decide_eq_false_iff_not] at h3);refine qd ?_;refine qb [.p, .p] ?_;refine st rfl rfl (qa rfl rfl) rfl ?_;refine st rfl rfl (qc rfl rfl) rfl ?_;refine qe ?_;refine qn ?_;obtain rfl := Option.some.inj hR;exact qy rfl (rv_g rfl)
   ·replace h3 : (r5) = false := h3;replace hR := jd hR h3;(try simp only [Bool.or_eq_true, Bool.and_eq_true, Bool.or_eq_false_iff, Bool.and_eq_false_iff, Bool.not_eq_true', Bool.not_eq_false', decide_eq_true_eq, decide_eq_false_iff_not] at h3);refine qq ?_;refine qb [.p, .p] ?_;refine st rfl rfl (z0 rfl rfl rfl (by unfold I64; omega)) rfl ?_;refine st rfl rfl (qa rfl rfl) rfl ?_;refine qe ?_;exact ⟨rfl, (k2 + 1, t4), ⟨rfl, rfl, rfl, rfl, trivial⟩, trivial, rfl, ⟨hd, hR⟩, by simp⟩
  ·replace h1 : (decide (((k2 : Nat) : Int) < (List.length a0 : Int))) = false := h1;obtain rfl := je hd (decF h1);rw [s1170_l1] at hR;refine zy ?_;refine qd ?_;refine qb [.p] ?_;refine st rfl rfl (qc rfl rfl) rfl ?_;refine qe ?_;refine qn ?_;obtain rfl := Option.some.inj hR;exact qy rfl (rv_g rfl)
def s4029_l1 (a1 : List Int) : List Int → Nat → Option Bool
 | [], k2 => some true
 | y3 :: t4, k2 => bindO (ixO a1 ((k2 : Nat) : Int)) fun y5 => (bif decide (y3 ≠ y5) then some false else s4029_l1 a1 t4 (k2 + 1))
def s4029 (a0 : List Int) (a1 : List Int) : Option Bool :=
 (bif decide ((List.length a0 : Int) ≠ (List.length a1 : Int)) then some false else s4029_l1 a1 a0 0)
theorem qz6 {g : List (Nat × List Value)} (a0 : List Int) (a1 : List Int) {R : Bool}   (hR : s4029 a0 a1 = some R) : Con (EG g) 29 [G.sl 1 (List.map cInt a0), G.sl 1 (List.map cInt a1)] (G.bool R) := by
 unfold s4029 at hR;refine qk Tryz.func29 rfl rfl fun w0 M0 => ?_;refine zl (f := cInt) (l := a0) 0 rfl fun hla0 => ?_;refine zl (f := cInt) (l := a1) 1 rfl fun hla1 => ?_;refine qd ?_;refine qb [.p] ?_;refine st rfl rfl (qc rfl rfl) rfl ?_;refine qe ?_;refine qd ?_;refine qd ?_;refine qb [.p, .p, .p, .p, .p] ?_;refine st rfl rfl (qa rfl rfl) rfl ?_;refine st rfl rfl (qx (f := cInt) (l := a0) rfl Tryz.underlying34 rfl) rfl ?_;refine st rfl rfl (qa rfl rfl) rfl ?_;refine st rfl rfl (qx (f := cInt) (l := a1) rfl Tryz.underlying34 rfl) rfl ?_;refine st rfl rfl (zo rfl rfl rfl) rfl ?_;refine qe ?_;refine qp _ rfl (fun h1 => ?_) (fun h1 => ?_)
 ·replace h1 : (decide ((List.length a0 : Int) ≠ (List.length a1 : Int))) = true := h1;replace hR := jc hR h1;(try simp only [Bool.or_eq_true, Bool.and_eq_true, Bool.or_eq_false_iff, Bool.and_eq_false_iff, Bool.not_eq_true', Bool.not_eq_false', decide_eq_true_eq, decide_eq_false_iff_not] at h1);refine qd ?_;refine qb [.p] ?_;refine st rfl rfl (qc rfl rfl) rfl ?_;refine qe ?_;refine qn ?_;obtain rfl := Option.some.inj hR;exact qy rfl (rv_g rfl)
 ·replace h1 : (decide ((List.length a0 : Int) ≠ (List.length a1 : Int))) = false := h1;replace hR := jd hR h1;(try simp only [Bool.or_eq_true, Bool.and_eq_true, Bool.or_eq_false_iff, Bool.and_eq_false_iff, Bool.not_eq_true', Bool.not_eq_false', decide_eq_true_eq, decide_eq_false_iff_not] at h1);refine qq ?_;refine qd ?_;refine qd ?_;refine qb [.p, .p, .p] ?_;refine st rfl rfl (qa rfl rfl) rfl ?_;refine st rfl rfl (qx (f := cInt) (l := a0) rfl Tryz.underlying34 rfl) rfl ?_;refine st rfl rfl (qa rfl rfl) rfl ?_;refine qe ?_;refine qt ?_;refine zc (γ := Nat × (List Int)) (fun g => ([(0, .g (G.sl 1 (List.map cInt a0))), (1, .g (G.sl 1 (List.map cInt a1))), (12, .g (G.int (List.length a0 : Int))), (13, .g (G.int ((g.1 : Nat) : Int)))], [])) (fun g => a0.drop g.1 = g.2 ∧ s4029_l1 a1 g.2 g.1 = some R) (fun g => List.length g.2) ⟨rfl, (0, a0), ⟨rfl, rfl, rfl, rfl, trivial⟩, trivial, rfl, ⟨rfl, (by exact hR)⟩, trivial⟩ ?_
  ·rintro ⟨k2, t4⟩ ⟨hd, hR⟩;replace hd : a0.drop k2 = t4 := hd;replace hR : s4029_l1 a1 t4 k2 = some R := hR;refine qd ?_;refine qb [.p] ?_;refine st rfl rfl (zi rfl rfl rfl) rfl ?_;refine qe ?_;refine zl (f := cInt) (l := a0) 0 rfl fun hlz1 => ?_;refine qd ?_;refine qp _ rfl (fun h2 => ?_) (fun h2 => ?_)
   ·replace h2 : (decide (((k2 : Nat) : Int) < (List.length a0 : Int))) = true := h2;obtain ⟨y3, t4, rfl, hx1, hd⟩ := zp hd (decT h2);replace h2 := decT h2;rw [s4029_l1] at hR;(try dsimp only at hR);refine qq ?_;refine qd ?_;refine qt ?_;refine qd ?_;refine qb [.p, .p] ?_;refine st rfl rfl (qa rfl rfl) rfl ?_;refine st rfl rfl (qc rfl rfl) rfl ?_;refine qe ?_;refine qd ?_;obtain ⟨y5, by5, hR⟩ := qm hR;refine zz [.p, .p, .p, .p, .p, .p, .p, .p, .p] (by kernel_rfl) ?_;refine st rfl rfl (qa rfl rfl) rfl ?_;refine st rfl rfl (qa rfl rfl) rfl ?_;refine st rfl rfl (zt (f := cInt) (l := a0) (a := y3) rfl Tryz.underlying34 ty3 rfl rfl (Int.natCast_nonneg _) hx1) rfl ?_;refine st rfl rfl (qj rfl ty3 rfl) rfl ?_;refine st rfl rfl (qa rfl rfl) rfl ?_;refine st rfl rfl (qa rfl rfl) rfl ?_;refine st rfl rfl (zt (f := cInt) (l := a1) (a := y5) rfl Tryz.underlying34 ty3 rfl rfl (jn by5) (zd by5)) rfl ?_;refine st rfl rfl (qj rfl ty3 rfl) rfl ?_;refine st rfl rfl (zo rfl rfl rfl) rfl ?_;refine qe ?_;refine qp _ rfl (fun h4 => ?_) (fun h4 => ?_)
    ·replace h4 : (decide (y3 ≠ y5)) = true := h4;replace hR := jc hR h4;(try simp only [Bool.or_eq_true, Bool.and_eq_true, Bool.or_eq_false_iff, Bool.and_eq_false_iff, Bool.not_eq_true', Bool.not_eq_false', decide_eq_true_eq, decide_eq_false_iff_not] at h4);refine qd ?_;refine qb [.p] ?_;refine st rfl rfl (qc rfl rfl) rfl ?_;refine qe ?_;refine qn ?_;obtain rfl := Option.some.inj hR;exact qy rfl (rv_g rfl)
    ·replace h4 : (decide (y3 ≠ y5)) = false := h4;replace hR := jd hR h4;(try simp only [Bool.or_eq_true, Bool.and_eq_true, Bool.or_eq_false_iff, Bool.and_eq_false_iff, Bool.not_eq_true', Bool.not_eq_false', decide_eq_true_eq, decide_eq_false_iff_not] at h4);refine qq ?_;refine qb [.p, .p] ?_;refine st rfl rfl (z0 rfl rfl rfl (by unfold I64; omega)) rfl ?_;refine st rfl rfl (qa rfl rfl) rfl ?_;refine qe ?_;exact ⟨rfl, (k2 + 1, t4), ⟨rfl, rfl, rfl, rfl, trivial⟩, trivial, rfl, ⟨hd, hR⟩, by simp⟩
   ·replace h2 : (decide (((k2 : Nat) : Int) < (List.length a0 : Int))) = false := h2;obtain rfl := je hd (decF h2);rw [s4029_l1] at hR;refine zy ?_;refine qd ?_;refine qb [.p] ?_;refine st rfl rfl (qc rfl rfl) rfl ?_;refine qe ?_;refine qn ?_;obtain rfl := Option.some.inj hR;exact qy rfl (rv_g rfl)
def s4011_l2 (rec1 : Nat → Option Bool) (a0 : List Int) (k2 : Nat) (y3 : Int) : Nat → Int → Option Bool
 | 0, x5 => rec1 (k2 + 1)
 | k7 + 1, x5 => bindO (ixO a0 x5) fun y8 => (bif decide (y8 = y3) then some false else s4011_l2 rec1 a0 k2 y3 k7 (x5 + 1))
def s4011_l1 (a0 : List Int) : List Int → Nat → Option Bool
 | [], k2 => some true
 | y3 :: t4, k2 => (bif (decide (y3 < 0)) || (decide ((List.length a0 : Int) ≤ y3)) then some false else s4011_l2 (fun k_ => s4011_l1 a0 t4 k_) a0 k2 y3 ((((k2 : Nat) : Int) - 0).toNat) 0)
def s4011 (a0 : List Int) : Option Bool :=
 s4011_l1 a0 a0 0
theorem qvq {g : List (Nat × List Value)} (a0 : List Int) {R : Bool}   (hR : s4011 a0 = some R) : Con (EG g) 11 [G.sl 1 (List.map cInt a0)] (G.bool R) := by
 unfold s4011 at hR;refine qk Tryz.func11 rfl rfl fun w0 M0 => ?_;refine zl (f := cInt) (l := a0) 0 rfl fun hla0 => ?_;refine qd ?_;refine qb [.p] ?_;refine st rfl rfl (qc rfl rfl) rfl ?_;refine qe ?_;refine qd ?_;refine qd ?_;refine qb [.p] ?_;refine st rfl rfl (qc rfl rfl) rfl ?_;refine qe ?_;refine qt ?_;refine zc (γ := Nat × (List Int)) (fun g => ([(0, .g (G.sl 1 (List.map cInt a0))), (3, .g (G.int ((g.1 : Nat) : Int)))], [])) (fun g => a0.drop g.1 = g.2 ∧ s4011_l1 a0 g.2 g.1 = some R) (fun g => List.length g.2) ⟨rfl, (0, a0), ⟨rfl, rfl, trivial⟩, trivial, rfl, ⟨rfl, (by exact hR)⟩, trivial⟩ ?_
 ·rintro ⟨k2, t4⟩ ⟨hd, hR⟩;replace hd : a0.drop k2 = t4 := hd;replace hR : s4011_l1 a0 t4 k2 = some R := hR;refine qd ?_;refine qd ?_;refine qb [.p, .p, .p, .p] ?_;refine st rfl rfl (qa rfl rfl) rfl ?_;refine st rfl rfl (qa rfl rfl) rfl ?_;refine st rfl rfl (qx (f := cInt) (l := a0) rfl Tryz.underlying34 rfl) rfl ?_;refine st rfl rfl (zi rfl rfl rfl) rfl ?_;refine qe ?_;refine zl (f := cInt) (l := a0) 0 rfl fun hlz1 => ?_;refine qp _ rfl (fun h1 => ?_) (fun h1 => ?_)
  ·replace h1 : (decide (((k2 : Nat) : Int) < (List.length a0 : Int))) = true := h1;obtain ⟨y3, t4, rfl, hx1, hd⟩ := zp hd (decT h1);replace h1 := decT h1;rw [s4011_l1] at hR;(try dsimp only at hR);refine qq ?_;refine qd ?_;refine qt ?_;refine qd ?_;refine qd ?_;refine qb [.p, .p, .p, .p, .p, .p, .p, .p, .p, .p, .p, .p, .p, .p] ?_;refine st rfl rfl (qa rfl rfl) rfl ?_;refine st rfl rfl (qa rfl rfl) rfl ?_;refine st rfl rfl (zt (f := cInt) (l := a0) (a := y3) rfl Tryz.underlying34 ty3 rfl rfl (Int.natCast_nonneg _) hx1) rfl ?_;refine st rfl rfl (qj rfl ty3 rfl) rfl ?_;refine st rfl rfl (zi rfl rfl rfl) rfl ?_;refine st rfl rfl (qa rfl rfl) rfl ?_;refine st_g rfl rfl rfl (qi _ _) (fun h => qa rfl rfl) rfl ?_;refine st_g rfl rfl rfl (qi _ _) (fun h => qa rfl rfl) rfl ?_;refine st_g rfl rfl rfl (qi _ _) (fun h => zt (f := cInt) (l := a0) (a := y3) rfl Tryz.underlying34 ty3 (gd h rfl) (gd h rfl) (Int.natCast_nonneg _) hx1) rfl ?_;refine st_g rfl rfl rfl (qi _ _) (fun h => qj rfl ty3 (gd h rfl)) rfl ?_;refine st_g rfl rfl rfl (qi _ _) (fun h => qa rfl rfl) rfl ?_;refine st_g rfl rfl rfl (qi _ _) (fun h => qx (f := cInt) (l := a0) rfl Tryz.underlying34 (gd h rfl)) rfl ?_;refine st_g rfl rfl rfl (qi _ _) (fun h => xa rfl (gd h rfl) (gd h rfl)) rfl ?_;refine st rfl rfl (jx rfl rfl rfl rfl) rfl ?_;refine qe ?_;refine qp _ rfl (fun h3 => ?_) (fun h3 => ?_)
   ·replace h3 : ((decide (y3 < 0)) || (decide ((List.length a0 : Int) ≤ y3))) = true := h3;replace hR := jc hR h3;(try simp only [Bool.or_eq_true, Bool.and_eq_true, Bool.or_eq_false_iff, Bool.and_eq_false_iff, Bool.not_eq_true', Bool.not_eq_false', decide_eq_true_eq, decide_eq_false_iff_not] at h3);refine qd ?_;refine qb [.p] ?_;refine st rfl rfl (qc rfl rfl) rfl ?_;refine qe ?_;refine qn ?_;obtain rfl := Option.some.inj hR;exact qy rfl (rv_g rfl)
   ·replace h3 : ((decide (y3 < 0)) || (decide ((List.length a0 : Int) ≤ y3))) = false := h3;replace hR := jd hR h3;(try simp only [Bool.or_eq_true, Bool.and_eq_true, Bool.or_eq_false_iff, Bool.and_eq_false_iff, Bool.not_eq_true', Bool.not_eq_false', decide_eq_true_eq, decide_eq_false_iff_not] at h3);refine qq ?_;refine qd ?_;refine qb [.p] ?_;refine st rfl rfl (qc rfl rfl) rfl ?_;refine qe ?_;refine qt ?_;refine zc (γ := Nat × Int) (fun g => ([(0, .g (G.sl 1 (List.map cInt a0))), (3, .g (G.int ((k2 : Nat) : Int))), (4, .g (G.int g.2))], [])) (fun g => g.1 = (((k2 : Nat) : Int) - g.2).toNat ∧ 0 ≤ g.2 ∧ s4011_l2 (fun k_ => s4011_l1 a0 t4 k_) a0 k2 y3 g.1 g.2 = some R) (fun g => g.1) ⟨rfl, ((((k2 : Nat) : Int) - 0).toNat, 0), ⟨rfl, rfl, rfl, trivial⟩, trivial, rfl, ⟨rfl, (by first | omega | (dsimp only; omega) | simp), (by exact hR)⟩, trivial⟩ ?_
    ·rintro ⟨k7, x5⟩ ⟨hk2, iv2_0, hR⟩;replace hk2 : k7 = (((k2 : Nat) : Int) - x5).toNat := hk2;replace hR : s4011_l2 (fun k_ => s4011_l1 a0 t4 k_) a0 k2 y3 k7 x5 = some R := hR;replace iv2_0 : 0 ≤ x5 := iv2_0;refine qd ?_;refine qd ?_;refine qb [.p, .p, .p] ?_;refine st rfl rfl (qa rfl rfl) rfl ?_;refine st rfl rfl (qa rfl rfl) rfl ?_;refine st rfl rfl (zi rfl rfl rfl) rfl ?_;refine qe ?_;refine qp _ rfl (fun h4 => ?_) (fun h4 => ?_)
     ·replace h4 : (decide (x5 < ((k2 : Nat) : Int))) = true := h4;replace h4 := decT h4;obtain ⟨k7, rfl⟩ : ∃ m, k7 = m + 1 := ⟨k7 - 1, by omega⟩;rw [s4011_l2] at hR;(try dsimp only at hR);refine qq ?_;refine qd ?_;refine qt ?_;refine qd ?_;obtain ⟨y8, by8, hR⟩ := qm hR;refine zz [.p, .p, .p, .p, .p, .p, .p, .p, .p] (by kernel_rfl) ?_;refine st rfl rfl (qa rfl rfl) rfl ?_;refine st rfl rfl (qa rfl rfl) rfl ?_;refine st rfl rfl (zt (f := cInt) (l := a0) (a := y8) rfl Tryz.underlying34 ty3 rfl rfl (jn by8) (zd by8)) rfl ?_;refine st rfl rfl (qj rfl ty3 rfl) rfl ?_;refine st rfl rfl (qa rfl rfl) rfl ?_;refine st rfl rfl (qa rfl rfl) rfl ?_;refine st rfl rfl (zt (f := cInt) (l := a0) (a := y3) rfl Tryz.underlying34 ty3 rfl rfl (Int.natCast_nonneg _) hx1) rfl ?_;refine st rfl rfl (qj rfl ty3 rfl) rfl ?_;refine st rfl rfl (vg rfl rfl rfl) rfl ?_;refine qe ?_;refine qp _ rfl (fun h6 => ?_) (fun h6 => ?_)
      ·replace h6 : (decide (y8 = y3)) = true := h6;replace hR := jc hR h6;(try simp only [Bool.or_eq_true, Bool.and_eq_true, Bool.or_eq_false_iff, Bool.and_eq_false_iff, Bool.not_eq_true', Bool.not_eq_false', decide_eq_true_eq, decide_eq_false_iff_not] at h6);refine qd ?_;refine qb [.p] ?_;refine st rfl rfl (qc rfl rfl) rfl ?_;refine qe ?_;refine qn ?_;obtain rfl := Option.some.inj hR;exact qy rfl (rv_g rfl)
      ·replace h6 : (decide (y8 = y3)) = false := h6;replace hR := jd hR h6;(try simp only [Bool.or_eq_true, Bool.and_eq_true, Bool.or_eq_false_iff, Bool.and_eq_false_iff, Bool.not_eq_true', Bool.not_eq_false', decide_eq_true_eq, decide_eq_false_iff_not] at h6);refine qq ?_;refine qb [.p, .p, .p] ?_;refine st rfl rfl (qa rfl rfl) rfl ?_;refine st rfl rfl (z0 rfl rfl rfl (by (try dsimp only); unfold I64; omega)) rfl ?_;refine st rfl rfl (qc rfl rfl) rfl ?_;refine qe ?_;exact ⟨rfl, (k7, x5 + 1), ⟨rfl, rfl, rfl, trivial⟩, trivial, rfl, ⟨(by first | omega | (dsimp only; omega) | (simp at *; omega)), (by first | omega | (dsimp only; omega) | (simp at *; omega)), hR⟩, by simp⟩
     ·replace h4 : (decide (x5 < ((k2 : Nat) : Int))) = false := h4;replace h4 := decF h4
      obtain rfl : k7 = 0 := by omega
      rw [s4011_l2] at hR;refine zy ?_;refine qb [.p, .p, .p] ?_;refine st rfl rfl (qa rfl rfl) rfl ?_;refine st rfl rfl (z0 rfl rfl rfl (by (try dsimp only); unfold I64; omega)) rfl ?_;refine st rfl rfl (qc rfl rfl) rfl ?_;refine qe ?_;exact ⟨rfl, (k2 + 1, t4), ⟨rfl, rfl, trivial⟩, trivial, rfl, ⟨hd, hR⟩, by simp⟩
  ·replace h1 : (decide (((k2 : Nat) : Int) < (List.length a0 : Int))) = false := h1;obtain rfl := je hd (decF h1);rw [s4011_l1] at hR;refine zy ?_;refine qd ?_;refine qb [.p] ?_;refine st rfl rfl (qc rfl rfl) rfl ?_;refine qe ?_;refine qn ?_;obtain rfl := Option.some.inj hR;exact qy rfl (rv_g rfl)
end Go.Sim
set_option maxRecDepth 10000
namespace Go.Sim
open Go.Proofs
def s4017 (a0 : S45) : Int × Int :=
 ((List.length ((s69 a0).1) : Int), (s69 a0).2)
theorem qvc {g : List (Nat × List Value)} (a0 : S45)    : Con (EG g) 17 [G.agg [G.int a0.fFrom, G.int a0.fTo, G.int a0.Days]] (G.tup [G.int ((s4017 a0).1), G.int ((s4017 a0).2)]) := by
 generalize hR : s4017 a0 = R;unfold s4017 at hR;refine qk Tryz.func17 rfl rfl fun w0 M0 => ?_;refine qd ?_;refine qb [.p, .p, .p] ?_;refine st rfl rfl (zj rfl rfl) rfl ?_;refine st rfl rfl (qc rfl rfl) rfl ?_;refine st rfl rfl (qc rfl rfl) rfl ?_;refine qe ?_;refine qd ?_;refine qb [.p, .p, .p, .p, .p, .p, .p] ?_;refine st rfl rfl (qw rfl ty46 rfl rfl rfl) rfl ?_;refine st rfl rfl (qh rfl K69 rfl (c69' a0) (qg rfl ql)) rfl ?_;refine st rfl rfl (qa rfl rfl) rfl ?_;refine st rfl rfl (za rfl rfl rfl) rfl ?_;refine st rfl rfl (za rfl rfl rfl) rfl ?_;refine st rfl rfl (qc rfl rfl) rfl ?_;refine st rfl rfl (qc rfl rfl) rfl ?_;refine qe ?_;refine qd ?_;refine qb [.p, .p, .p, .p, .p] ?_;refine st rfl rfl (qa rfl rfl) rfl ?_;refine st rfl rfl (qx (f := cInt) (l := (s69 a0).1) rfl Tryz.underlying34 rfl) rfl ?_;refine st rfl rfl (qa rfl rfl) rfl ?_;refine st rfl rfl (qc rfl rfl) rfl ?_;refine st rfl rfl (qc rfl rfl) rfl ?_;refine qe ?_;refine qn ?_;subst hR;exact resN rfl ⟨rv_g rfl, rv_g rfl, trivial⟩ (by simp)
def s4076 (a0 : S4026) : Int :=
 (s4017 a0.Request.Period).1
theorem qz7 {g : List (Nat × List Value)} (a0 : S4026)    : Con (EG g) 76 [G.agg [G.str a0.Request.Name, G.str a0.Request.Carrier, G.str a0.Request.Kind, G.str a0.Request.Terminal, G.str a0.Request.Partner, G.str a0.Request.Link, G.int a0.Request.Period.fFrom, G.int a0.Request.Period.fTo, G.int a0.Request.Period.Days, G.int a0.Request.Minute, G.int a0.Request.Seats, G.int a0.Request.Size, G.int a0.Request.Noise, G.bool a0.Historic, G.bool a0.Retimed, G.bool a0.Newcomer, G.bool a0.Yearround, G.int a0.Distance]] (G.int (s4076 a0)) := by
 generalize hR : s4076 a0 = R;unfold s4076 at hR;refine qk Tryz.func76 rfl rfl fun w0 M0 => ?_;refine qd ?_;refine qb [.p, .p] ?_;refine st rfl rfl (zj rfl rfl) rfl ?_;refine st rfl rfl (qc rfl rfl) rfl ?_;refine qe ?_;refine qd ?_;refine qb [.p, .p, .p, .p, .p, .p, .p, .p, .p] ?_;refine st rfl rfl (qf rfl js rfl) rfl ?_;refine st rfl rfl (qf rfl qd7 rfl) rfl ?_;refine st rfl rfl (qw rfl ty46 rfl rfl rfl) rfl ?_;refine st rfl rfl (qh rfl qup rfl (qvc a0.Request.Period) (qg rfl ql)) rfl ?_;refine st rfl rfl (qa rfl rfl) rfl ?_;refine st rfl rfl (za rfl rfl rfl) rfl ?_;refine st rfl rfl (za rfl rfl rfl) rfl ?_;refine st rfl rfl (qc rfl rfl) rfl ?_;refine st rfl rfl (qc rfl rfl) rfl ?_;refine qe ?_;refine qd ?_;refine qb [.p, .p] ?_;refine st rfl rfl (qa rfl rfl) rfl ?_;refine st rfl rfl (qc rfl rfl) rfl ?_;refine qe ?_;refine qn ?_;subst hR;exact qy rfl (rv_g rfl)
section
variable {E : Env}
end
section
variable {E : Env} {w0 : World} {M0 : Nat → Prop} {ops : Array Oper} {md : Region.Mode} {cl : Nat → Cls}
theorem qi9 {K : ASt → Prop} {i : Nat} {oi : Oper} (hi : ops[i]? = some oi) (D : Nat → Bool) (hD : ∀ j, D j = true → ∃ oj, ops[j]? = some oj ∧ ∃ e ∈ oj.after, Region.binds md e = true ∧ (e.on = i ∨ D e.on = true)) : ∀ (fuel : Nat) (listed : Array Bool) (s u : ASt),
  (∀ j, D j = true → listed.getD j true = false) →
  (∀ j oj, ops[j]? = some oj → j ≠ i → listed.getD j true = false → D j = false → oi.apart ops oj = true ∧ okC oi oj (cl i) (cl j) = true) →
  i ∈ Region.ready md ops listed → AStep E ops oi (cl i) s u → anyA E md ops cl K fuel (listed.setIfInBounds i true) u → anyA E md ops cl K (fuel + 1) listed s := by
 intro fuel
 induction fuel with
 | zero =>
  intro listed s u _ _ hr hy H;refine ⟨fun h => (by rw [h] at hr; cases hr), fun j hj => ?_⟩
  by_cases hji : j = i
  ·subst hji; unfold aOp; simp only [hi]; exact ⟨u, hy, H⟩
  ·have := ready_mono hj hji;rw [H.1] at this
   cases this
 | succ fuel ih =>
  intro listed s u hL hfree hr hy H;refine ⟨fun h => (by rw [h] at hr; cases hr), fun j hj => ?_⟩
  by_cases hji : j = i
  ·subst hji; unfold aOp; simp only [hi]; exact ⟨u, hy, H⟩
  ·have h1 := H.2 j (ready_mono hj hji);obtain ⟨hjun, oj, hoj, hall⟩ := mem_ready.1 hj
   have hnD : D j = false := by
    cases hd : D j with
    | false => rfl
    | true =>
     exfalso
     obtain ⟨oj', ho', e, he, hb, hon⟩ := hD j hd
     have : oj' = oj := by rw [hoj] at ho'; exact (Option.some.inj ho').symm
     subst this;have h2 := hall e he hb
     rcases hon with heq | hDe
     ·have h0 := (mem_ready.1 hr).1;rw [heq] at h2
      rcases Nat.lt_or_ge i listed.size with h' | h'
      ·simp [h'] at h0 h2; rw [h0] at h2; cases h2
      ·simp [Array.getElem?_eq_none h'] at h2
     ·have h0 := hL e.on hDe
      rcases Nat.lt_or_ge e.on listed.size with h' | h'
      ·simp [h'] at h0 h2; rw [h0] at h2; cases h2
      ·simp [Array.getElem?_eq_none h'] at h2
   unfold aOp at h1 ⊢;simp only [hoj] at h1 ⊢;obtain ⟨t, h2, h3⟩ := h1;obtain ⟨hap, hok⟩ := hfree j oj hoj hji hjun hnD;obtain ⟨s2, h4, h5⟩ := AStep.swap hap hok hy h2;refine ⟨s2, h4, ih (listed.setIfInBounds j true) s2 t (fun k hk => ?_) (fun k ok hk hki hun hno => ?_) (ready_mono hr (Ne.symm hji)) h5 ?_⟩
   ·by_cases hjk : j = k
    ·subst hjk; rw [hk] at hnD; cases hnD
    ·rw [getD_set_ne true hjk]; exact hL k hk
   ·refine hfree k ok hk hki ?_ hno
    by_cases hjk : j = k
    ·subst hjk; exact hjun
    ·rw [getD_set_ne true hjk] at hun; exact hun
   ·rw [Array.setIfInBounds_comm _ _ hji];exact h3
def descs (md : Region.Mode) (ops : Array Oper) (i : Nat) : List Nat :=
 (List.range ops.size).foldl (fun acc j => match ops[j]? with
  | some oj => bif oj.after.any (fun e => Region.binds md e && (e.on == i || acc.contains e.on)) then j :: acc else acc
  | none => acc) []
def freeC2 (md : Region.Mode) (ops : Array Oper) (cl : Nat → Cls) (listed : Array Bool) (i : Nat) (L : List Nat) : Bool :=
 match ops[i]? with
 | none => false
 | some oi => ((List.range ops.size).all fun j => j == i || listed.getD j true || L.contains j || match ops[j]? with
   | some oj => oi.apart ops oj && okC oi oj (cl i) (cl j)
   | none => true) && L.all fun j => !listed.getD j true && match ops[j]? with
   | some oj => oj.after.any (fun e => Region.binds md e && (e.on == i || L.contains e.on))
   | none => false
def lexC2 (md : Region.Mode) (ops : Array Oper) (cl : Nat → Cls) : Nat → Nat → Array Bool → Bool
 | 0, _, listed => (Region.ready md ops listed).isEmpty
 | fuel + 1, k, listed => (Region.ready md ops listed).contains k && freeC2 md ops cl listed k (descs md ops k) && lexC2 md ops cl fuel (k + 1) (listed.setIfInBounds k true)
theorem qhq {K : ASt → Prop} : ∀ (l : List Oper) (cs : List Cls) (k : Nat) (listed : Array Bool) (s : ASt), (∀ j, l[j]? = ops[k + j]?) → (∀ j c, cs[j]? = some c → cl (k + j) = c) →
  lexC2 md ops cl l.length k listed = true → AOps E ops l cs s K → anyA E md ops cl K l.length listed s
 | [], [], _, _, _, _, _, hB, h => ⟨by simpa [lexC2] using hB, h⟩
 | o :: l, c :: cs, k, listed, s, hl, hc, hB, h => by
  have h0 : ops[k]? = some o := by simpa using (hl 0).symm
  have hc0 : cl k = c := by simpa using hc 0 c (by simp)
  simp only [List.length_cons, lexC2, Bool.and_eq_true] at hB;obtain ⟨⟨hr, hf⟩, hB'⟩ := hB;obtain ⟨s', h1, h2⟩ := h;subst hc0;simp only [freeC2, h0, Bool.and_eq_true, List.all_eq_true, List.mem_range] at hf;obtain ⟨hf1, hf2⟩ := hf;refine qi9 h0 (fun j => (descs md ops k).contains j) (fun j hj => ?_) l.length listed s s' (fun j hj => ?_) (fun j oj hoj hne hun hnD => ?_) (by simpa using hr) h1
   (qhq l cs (k + 1) _ _ (fun j => by have := hl (j + 1); simpa [Nat.add_assoc, Nat.add_comm 1 j] using this)
    (fun j c hj => by have := hc (j + 1) c (by simpa using hj); simpa [Nat.add_assoc, Nat.add_comm 1 j] using this) hB' h2)
  ·have h3 := (hf2 j (List.contains_iff_mem.1 hj)).2
   cases ho : ops[j]? with
   | none => rw [ho] at h3; cases h3
   | some oj =>
    rw [ho] at h3;obtain ⟨e, he, hb⟩ := Array.any_eq_true'.1 h3;simp only [Bool.and_eq_true, Bool.or_eq_true, beq_iff_eq] at hb;exact ⟨oj, rfl, e, he, hb.1, hb.2⟩
  ·have h3 := (hf2 j (List.contains_iff_mem.1 hj)).1
   simpa using h3
  ·have h3 := hf1 j (Array.getElem?_eq_some_iff.1 hoj).1;simp only [Bool.or_eq_true, beq_iff_eq] at h3
   rcases h3 with ((h3 | h3) | h3) | h3
   ·exact absurd h3 hne
   ·rw [hun] at h3; cases h3
   ·rw [h3] at hnD; cases hnD
   ·rw [hoj] at h3
    simpa using h3
 | [], _ :: _, _, _, _, _, _, _, h => h.elim
 | _ :: _, [], _, _, _, _, _, _, h => h.elim
def lexOk2 (ops : Array Oper) (cs : List Cls) : Bool := lexC2 .any ops (fun i => cs.getD i .k) ops.size 0 (Array.replicate ops.size false)
theorem qgf {id : Nat} {ops : Array Oper} {Q : Exit → ASt → Prop} {s : ASt} (cs : List Cls) (hB : lexOk2 ops cs = true) (h : AOps E ops ops.toList cs s (Q .normal)) : AWp E w0 M0 (.region id ops true) Q s := by
 intro a w ha;refine wpIn_region_any E.orders ?_;have h1 := qhq (md := .any) (cl := fun i => cs.getD i .k) ops.toList cs 0 (Array.replicate ops.size false) s (by simp) (fun j c hj => by simp [hj]) (by simpa [lexOk2] using hB) h;have h2 := anyA.sound (w0 := w0) (M0 := M0) (Q := Q) _ _ s h1 a _ ha.draw
 simpa using h2
end
section
variable {E : Env}
theorem xe {o : Oper} {ev : Operand → TV} {t el : TypeId} {x ix : Operand} {k N id p : Nat} {b : Bool} {kk : IntKind} {n : Int} (ho : o.op = .indexAddr t x ix) (ht : E.P.underlying t = some (.array N el)) (he : tyK E.P el = some (k + 1, b))
  (hx : ev x = .ptr id p) (hi : ev ix = .g (.lit (.int kk n))) (h0 : 0 ≤ n) (hn : n < (N : Int)) (mem : Mem) : Eff E o mem ev (.ptr id (p + n.toNat * (k + 1))) :=
 jh (fun w M ρ e hev => by
  have h1 := hev x (by rw [ho]; simp [Op.operands]);rw [hx] at h1;have h2 := hev ix (by rw [ho]; simp [Op.operands]);rw [hi] at h2;have h2' : e ix = .int kk n := h2;obtain ⟨ow, h3, h4⟩ := h1;refine ⟨.pointer (some ⟨ow.b, ow.o + p + n.toNat * (k + 1), none⟩), ?_, ow, h3, by rw [Nat.add_assoc]⟩
  simp [execOp, ho, h4, h2', Instr.indexAt, asIntOf, underlying, ht, Instr.sureAddr, run_sizeOf he, h0, hn, Addr.add_lit]) mem
end
section
variable {E : Env} {o : Oper} {ev : Operand → TV}
def ascope (Q : Exit → ASt → Prop) : Exit → ASt → Prop
 | .goto _, _ => False
 | e, s => Q e s
theorem qvw {E : Env} {c : Code} {Q : Exit → Act → World → Prop} {a : Act} {w : World} (h : c.wp E.P Q a w) (hr : E.rnd = none) : c.wpIn E.F 0 E.P Q a w := by
 obtain ⟨P, gl, ord, bow, rnd, mk⟩ := E
 cases hr
 exact wpIn_wide.2 h
theorem qqk {w0 : World} {M0 : Nat → Prop} {c : Code} {Q : Exit → ASt → Prop} {s : ASt} (h : AWp E w0 M0 c (ascope Q) s) (hr : E.rnd = none := by rfl) : AWp E w0 M0 (.scope c) Q s :=
 fun a w ha => qvw (hr := hr) <| wp_scope_straight (wp_mono (qj3 (h a w ha) hr) fun e a' w' ⟨s', h1, h2⟩ => by
  cases e <;> first | exact h2.elim | exact ⟨s', h1, h2⟩)
end
section
variable {E : Env} {ops : Array Oper} {o : Oper} {os : List Oper} {cs : List Cls} {s : ASt} {r : TV} {K : ASt → Prop}
theorem qu5 {d i : Nat} {b : Blk} (hd : o.dst = some d) (hg : o.guard = none) (hb : lookO s.mem i = some b) (he : ∀ m, lookO m i = some b → Eff E o m (s.eval E) r) (hn : Nat.blt d s.n = true) (hk : AOps E ops os cs (s.put (some d) r) K) : AOps E ops (o :: os) (.rq i :: cs) s K :=
 ⟨s.put (some d) r, ⟨fun d' h => by rw [hd] at h; cases h; exact Nat.le_of_ble_eq_true hn, true, r, s.mem, none, by unfold Wanted; rw [hg], fun _ => ⟨rfl, rfl, b, hb, he⟩, (by intro h; cases h), by rw [hd]; rfl⟩, hk⟩
theorem qp7 {d i a : Nat} {b : Blk} (hd : o.dst = some d) (hg : o.guard = none) (hb : lookO s.mem i = some b) (he : ∀ m, lookO m i = some b → Eff E o m (s.eval E) r) (hn : Nat.blt d s.n = true) (hx : (o.op.operands.toList.all fun x => noname a (s.eval E x)) = true) (hr : noname a r = true) (hk : AOps E ops os cs (s.put (some d) r) K) : AOps E ops (o :: os) (.rn i a :: cs) s K :=
 ⟨s.put (some d) r, ⟨fun d' h => by rw [hd] at h; cases h; exact Nat.le_of_ble_eq_true hn, true, r, s.mem, none, by unfold Wanted; rw [hg], fun _ => ⟨rfl, rfl, ⟨b, hb, he⟩, fun x hx' => List.all_eq_true.1 hx x (by simpa using hx'), hr⟩, (by intro h; cases h), by rw [hd]; rfl⟩, hk⟩
end
section
variable {E : Env} {w0 : World} {M0 : Nat → Prop}
theorem MFits.get {w : World} {M : Nat → Prop} : ∀ {es : List (Value × G)} {l : List MapEntry} {j : Nat} {e : MapEntry}, MFits w M es l → l[j]? = some e → ∃ k g, es[j]? = some (k, g) ∧ e.key = k ∧ g.p w M e.val
 | [], [], _, _, _, h => by simp at h
 | (k, g) :: _, e' :: _, 0, e, h, he => by
  simp at he; subst he
  exact ⟨k, g, rfl, h.1.1, h.1.2⟩
 | _ :: _, _ :: _, j + 1, e, h, he => by
  obtain ⟨k, g, h1, h2⟩ := MFits.get h.2 (by simpa using he);exact ⟨k, g, by simpa using h1, h2⟩
 | [], _ :: _, _, _, h, _ => h.elim
 | _ :: _, [], _, _, h, _ => h.elim
theorem MFits.length {w : World} {M : Nat → Prop} : ∀ {es : List (Value × G)} {l : List MapEntry}, MFits w M es l → l.length = es.length
 | [], [], _ => rfl
 | (_, _) :: _, _ :: _, h => by simp [MFits.length h.2]
 | [], _ :: _, h => h.elim
 | _ :: _, [], h => h.elim
theorem qng {α : Type} {f : α → List G} {l : List α} {o : Oper} {ev : Operand → TV} {t el : TypeId} {x : Operand} {lo : Option Operand} {k a : Nat} {b : Bool} (ho : o.op = .slice t x lo none none) (ht : E.P.underlying t = some (.slice el)) (hk : tyK E.P el = some (k, b)) (hx : ev x = .g (.sl k (l.map f)))
  (hlo : BndV ev lo a 0) (hac : a ≤ l.length) (mem : Mem) : Eff E o mem ev (.g (.sl k ((l.drop a).map f))) := by
 have := qel (f := f) (l := l) ho ht hk hx hlo qax hac (Nat.le_refl _) mem
 rwa [List.take_length] at this
theorem qvx {s : ASt} {t id : Nat} {es : List (Value × G)} (h : s.get t = .omap id) (hb : lookO s.mem id = some (.mp es)) (hbw : lookO E.bow id = none := by rfl) : RVal E s (.tmp t) (G.mpf es) := by
 intro w0 M0 ρ w tmps hm ht;have h1 := ht t;rw [h] at h1;obtain ⟨ow, en, cl, g1, g2, g3, g4, g5⟩ := qn9 hm hb h1;have hsub := qdr (M0 := M0) hm (tv := .g (G.bool true)) rfl;exact ⟨tmps.getD t undef, rfl, ⟨ow.b, en, cl, g2, wy hm g1 hbw, g3, g4.mono (fun _ _ _ => rfl) (fun b _ => hsub.sub b), g5⟩, fun _ _ => rfl⟩
end
section
variable {α : Type}
def MOrd (m : List α) (sn : List Nat) (l : List α) : Prop := sn.Nodup ∧ l.map some = sn.reverse.map (fun j => m[j]?)
theorem MOrd.lt {m : List α} {sn : List Nat} {l : List α} (h : MOrd m sn l) {j : Nat} (hj : j ∈ sn) : j < m.length := by
 have h1 : m[j]? ∈ sn.reverse.map (fun j => m[j]?) := List.mem_map.2 ⟨j, List.mem_reverse.2 hj, rfl⟩;rw [← h.2] at h1;obtain ⟨x, _, hx⟩ := List.mem_map.1 h1;exact (List.getElem?_eq_some_iff.1 hx.symm).1
theorem qb4 {α : Type} [DecidableEq α] : ∀ {a b : List α}, a.Nodup → (∀ x ∈ a, x ∈ b) → a.length ≤ b.length
 | [], _, _, _ => Nat.zero_le _
 | x :: a, b, hn, hs => by
  obtain ⟨h1, h2⟩ := List.nodup_cons.1 hn;have hx := hs x List.mem_cons_self;have := qb4 (b := b.erase x) h2 fun y hy => (List.mem_erase_of_ne (fun e => h1 (by rw [← e]; exact hy))).2 (hs y (List.mem_cons_of_mem _ hy));rw [List.length_erase_of_mem hx] at this;have : 0 < b.length := List.length_pos_of_mem hx
  simp; omega
theorem MOrd.len {m : List α} {sn : List Nat} {l : List α} (h : MOrd m sn l) : l.length ≤ m.length := by
 have h1 : l.length = sn.length := by have := congrArg List.length h.2; simpa using this
 have := qb4 h.1 (b := List.range m.length) fun x hx => List.mem_range.2 (h.lt hx)
 simp at this
 omega
end
section
variable {E : Env} {w0 : World} {M0 : Nat → Prop}
theorem TFits.forget {w : World} {M : Nat → Prop} {ρ : Rho} : ∀ {cs : List TV} {vs : List Value} (p : Nat), TFits w M ρ cs vs → TFits w M ρ (cs.set p .any) vs
 | [], [], _, _ => trivial
 | _ :: _, _ :: _, 0, h => ⟨⟨trivial, h.1.2⟩, h.2⟩
 | _ :: _, _ :: _, p + 1, h => ⟨h.1, TFits.forget p h.2⟩
 | [], _ :: _, _, h => h.elim
 | _ :: _, [], _, h => h.elim
theorem TFits.give {w : World} {M : Nat → Prop} {ρ : Rho} {tv : TV} {v : Value} (ht : TRel w M ρ tv v) : ∀ {cs : List TV} {vs : List Value} (p : Nat), TFits w M ρ cs vs → vs[p]? = some v → TFits w M ρ (cs.set p tv) vs
 | [], [], _, _, _ => trivial
 | _ :: _, u :: _, 0, h, hv => by simp at hv; subst hv; exact ⟨⟨ht, h.1.2⟩, h.2⟩
 | _ :: _, _ :: _, p + 1, h, hv => ⟨h.1, TFits.give ht p h.2 (by simpa using hv)⟩
 | [], _ :: _, _, h, _ => h.elim
 | _ :: _, [], _, h, _ => h.elim
theorem qkp {ρ : Rho} {id : Nat} {ow : Own} (h : ρ id = some (some ow)) : rhoSet ρ id (some ow) = ρ := by
 funext i
 by_cases hi : i = id
 ·subst hi; rw [qu]; exact h.symm
 ·simp [rhoSet, hi]
theorem qp6 {o : Oper} {mem : Mem} {ev : Operand → TV} {t : TypeId} {x : Operand} {k id p : Nat} {cs : List TV} {tv : TV} (ho : o.op = .load t x) (ht : tyK E.P t = some (k, false)) (hx : ev x = .ptr id p) (hb : lookO mem id = some (.box cs)) (hc : cs[p]? = some tv) :
  EffW E o mem ev tv ((id, .box (cs.set p .any)) :: mem) none := by
 intro w0 M0 ρ w e hm he;have h1 := he x (by rw [ho]; simp [Op.operands]);rw [hx] at h1;obtain ⟨ow, h2, h3⟩ := h1;obtain ⟨ow', ty, vs, g1, g2, g3, g4⟩ := hm.blk id _ hb
 have : ow' = ow := by rw [h2] at g1; simpa using g1.symm
 subst this;obtain ⟨v, h4, h5, _⟩ := TFits.get p g4 hc
 have hcell : w.cell? ⟨ow'.b, ow'.o + p, none⟩ = some v := by rw [cell_of_row w _ _ _ _ _ g3, g2]; simpa using h4
 have : (execOp e o).run E.P w = .ok (.value v) w := by simp [execOp, ho, h3, Instr.loadAt, Instr.sureAddr, zb ht hcell]
 rw [this];obtain ⟨m1, m2⟩ := j7 (id := id) (x := some ow') (blk' := .box (cs.set p .any)) none hm ⟨rfl, rfl, rfl, Nat.le_refl _, fun _ _ _ => rfl⟩ (fun o ho => by cases ho; exact ⟨.inr ⟨ow', h2, rfl⟩, (hm.fresh id ow' h2).2⟩) (.inr ⟨rfl, .inr h2⟩) (fun _ b _ _ => ze b) (.inl rfl)
  ⟨ow', ty, vs, qu _ _ _, g2, g3, by rw [qkp h2]; exact TFits.forget p g4⟩
 exact ⟨_, m1, m2, m2 tv v (by cases tv <;> rfl) h5⟩
theorem qhr {a : Act} {w : World} {s : ASt} {b p id k : Nat} {e : TypeId} {cs : List TV} (ha : ARel E w0 M0 s a w) (hb : lookO s.mem b = some (.box cs)) (hc : cs[p]? = some (.g (.lit (.slice none 0 0)))) (hf : lookO s.mem id = none) (hne : Nat.beq id b = false) :
  ARel E w0 M0 ⟨s.n, s.tmps, (b, .box (cs.set p (.osl id k 0 0))) :: (id, .arr e k []) :: s.mem⟩ a w := by
 obtain ⟨ρ, hm, hmk, ht⟩ := ha.ex;have hr := wu hm hf;obtain ⟨m1, m2⟩ := j7 (id := id) (x := none) (blk' := .arr e k []) none hm ⟨rfl, rfl, rfl, Nat.le_refl _, fun _ _ _ => rfl⟩ (fun o ho => by cases ho) (.inr ⟨rfl, .inl hr⟩) (fun _ b _ _ => ze b) (.inl rfl) (.inl ⟨qu _ _ _, rfl⟩)
 have hb' : lookO ((id, Blk.arr e k []) :: s.mem) b = some (.box cs) := by simp only [lookO, hne]; exact hb
 obtain ⟨ow, ty, vs, g1, g2, g3, g4⟩ := m1.blk b _ hb';obtain ⟨v, h4, h5, _⟩ := TFits.get p g4 hc;have hv : v = .slice none 0 0 := h5;subst hv;obtain ⟨n1, n2⟩ := j7 (id := b) (x := some ow) (blk' := .box (cs.set p (.osl id k 0 0))) none m1 ⟨rfl, rfl, rfl, Nat.le_refl _, fun _ _ _ => rfl⟩ (fun o ho => by cases ho; exact ⟨.inr ⟨ow, g1, rfl⟩, (m1.fresh b ow g1).2⟩) (.inr ⟨rfl, .inr g1⟩) (fun _ b _ _ => ze b) (.inl rfl)
  ⟨ow, ty, vs, qu _ _ _, g2, g3, by rw [qkp g1]; exact TFits.give (show TRel w (owned M0 (rhoSet ρ id none)) (rhoSet ρ id none) (.osl id k 0 0) (.slice none 0 0) from Or.inl ⟨qu _ _ _, rfl, rfl, rfl⟩) p g4 h4⟩
 exact ⟨ha.defers, ha.size, _, n1, ⟨hmk.1, fun d hd => by
  obtain ⟨D, q1, q2, q3⟩ := hmk.2 d hd
  exact ⟨D, q1, q2, n2 (.g (G.mark D)) undef rfl (m2 (.g (G.mark D)) undef rfl q3)⟩⟩, fun i => n2 _ _ (by cases s.get i <;> rfl) (m2 _ _ (by cases s.get i <;> rfl) (ht i))⟩
theorem qls {c : Code} {Q : Exit → ASt → Prop} {s : ASt} (b p id k : Nat) (e : TypeId) {cs : List TV} (hb : lookO s.mem b = some (.box cs)) (hc : cs[p]? = some (.g (.lit (.slice none 0 0)))) (hf : lookO s.mem id = none) (hne : Nat.beq id b = false)
  (h : AWp E w0 M0 c Q ⟨s.n, s.tmps, (b, .box (cs.set p (.osl id k 0 0))) :: (id, .arr e k []) :: s.mem⟩) : AWp E w0 M0 c Q s := fun a w ha => h a w (qhr ha hb hc hf hne)
end
section
variable {E : Env} {ops : Array Oper} {o : Oper} {os : List Oper} {cs : List Cls} {s : ASt} {r : TV} {K : ASt → Prop}
theorem qcw {i : Nat} {blk : Blk} (hd : o.dst = none) (hg : o.guard = none) (he : ∀ m, lookO m i = lookO s.mem i → EffW E o m (s.eval E) r ((i, blk) :: m) none) (hk : AOps E ops os cs ⟨s.n, s.tmps, (i, blk) :: s.mem⟩ K) : AOps E ops (o :: os) (.wq i :: cs) s K :=
 ⟨⟨s.n, s.tmps, (i, blk) :: s.mem⟩, ⟨(fun d' h => by rw [hd] at h; cases h), true, r, (i, blk) :: s.mem, none, by unfold Wanted; rw [hg], fun _ => ⟨rfl, blk, fun _ => rfl, he⟩, (by intro h; cases h), by rw [hd]; rfl⟩, hk⟩
end
section
variable {E : Env} {w0 : World} {M0 : Nat → Prop}
def MemF (s : ASt) (b : Nat) (blk : Blk) : Mem → Prop
 | [] => True
 | (i, B) :: r => (bif Nat.beq i b then B = blk else lookO s.mem i = some B) ∧ MemF s b blk r
theorem qhs {s : ASt} {b : Nat} {blk : Blk} : ∀ {m : Mem}, MemF s b blk m → ∀ i B, lookO m i = some B → (i = b ∧ B = blk) ∨ (i ≠ b ∧ lookO s.mem i = some B)
 | [], _, _, _, h => by cases h
 | (j, B') :: r, hm, i, B, h => by
  simp only [lookO] at h
  cases hj : Nat.beq j i with
  | true =>
   rw [hj] at h;have hji := Nat.eq_of_beq_eq_true hj;subst hji;simp only [cond_true, Option.some.injEq] at h;subst h;have h1 := hm.1
   cases hb : Nat.beq j b with
   | true => rw [hb] at h1; exact .inl ⟨Nat.eq_of_beq_eq_true hb, h1⟩
   | false =>
    rw [hb] at h1;exact .inr ⟨fun e => by subst e; simp at hb, h1⟩
  | false => rw [hj] at h; exact qhs hm.2 i B h
theorem qlt {c : Code} {Q : Exit → ASt → Prop} {s : ASt} (b p id k N : Nat) {e : TypeId} {cs : List TV} {xs : List (List G)} {l : List (Nat × TV)} {m : Mem} (hb : lookO s.mem b = some (.box cs)) (hc : cs[p]? = some (.osl id k 0 N)) (hx : lookO s.mem id = some (.arr e k xs)) (hN : xs.length = N)
  (h1 : WeakL s l) (h2 : MemF s b (.box (cs.set p (.g (.sl k xs)))) m) (h3 : closedB l m = true) (hid : lookO m id = none)
  (h : AWp E w0 M0 c Q (stt s.n l m)) (hbw : bowIn E m = true := by rfl) : AWp E w0 M0 c Q s := by
 intro a w ha;refine h a w ?_;obtain ⟨ρ, hm, hmk, ht⟩ := ha.ex
 let ρ' : Rho := fun id => if (lookO m id).isSome = true then ρ id else none
 have hρ : ∀ id, (lookO m id).isSome = true → ρ' id = ρ id := fun id hi => by simp only [ρ', if_pos hi]
 have hρ' : ∀ id x, ρ' id = some x → ρ id = some x ∧ (lookO m id).isSome = true := by
  intro id x hx;simp only [ρ'] at hx
  split at hx
  ·rename_i hi; exact ⟨hx, hi⟩
  ·cases hx
 have hM : ∀ b, owned M0 ρ' b → owned M0 ρ b := by
  rintro b (hb | ⟨id, o, ho, rfl⟩)
  ·exact .inl hb
  ·exact .inr ⟨id, o, (hρ' id _ ho).1, rfl⟩
 have hlent : lookO E.bow id = none := by
  cases hq : lookO E.bow id with
  | none => rfl
  | some x =>
   have := List.all_eq_true.1 hbw (id, x) (zn _ hq);simp only [hid] at this
   cases this
 have hno : ∀ ow, ρ id = some (some ow) → ¬ owned M0 ρ' ow.b := by
  rintro ow ho (hM0 | ⟨i, o, hi, he⟩)
  ·exact wy hm ho hlent (.inl hM0)
  ·have := hm.inj i id o ow (hρ' i _ hi).1 ho he;subst this;have := (hρ' i _ hi).2;rw [hid] at this; cases this
 simp only [closedB, Bool.and_eq_true, List.all_eq_true] at h3;refine ⟨ha.defers, ha.size, ρ', ⟨hm.below, hm.m0, ?_, ?_, ?_, ?_, ?_, hm.lentM, ?_⟩, hmk.sub hM, ?_⟩
 ·intro g vs hg;have := hm.glob g vs hg;exact ⟨⟨fun hb => this.1.1 (hM _ hb), this.1.2⟩, this.2.mono (fun _ _ _ => rfl) (fun b _ => hM b) this.1.1⟩
 ·intro id x hx;have := (hρ' id x hx).2
  cases hl : lookO m id with
  | none => rw [hl] at this; cases this
  | some b => exact ⟨b, hl⟩
 ·exact fun id ow ho => hm.fresh id ow (hρ' id _ ho).1
 ·exact fun id id' ow ow' ho ho' => hm.inj id id' ow ow' (hρ' id _ ho).1 (hρ' id' _ ho').1
 ·intro id x hx;rw [hρ id (List.all_eq_true.1 hbw (id, x) (zn _ hx))];exact hm.keep id x hx
 ·intro i blk' hb0;have hb0 : lookO m i = some blk' := hb0
  have hi : (lookO m i).isSome = true := by rw [hb0]; rfl
  rcases qhs h2 i blk' hb0 with ⟨rfl, rfl⟩ | ⟨_, hold⟩
  ·obtain ⟨ow, ty, vs, g1, g2, g3, g4⟩ := hm.blk i _ hb;have hcl := h3.2 (i, .box (cs.set p (.g (.sl k xs)))) (zn _ hb0);obtain ⟨v, h4, h5, _⟩ := TFits.get p g4 hc;have hview := qa0 hm hx h5 (Nat.zero_le _) (by rw [hN]; exact Nat.le_refl _);obtain ⟨a', cap, e1, k1, k2, k3, k4, k5, k6⟩ := hview;subst hN;simp only [Nat.sub_zero, List.drop_zero, List.take_length] at e1 k1 k4 k5 k6
   have hv : TRel w (owned M0 ρ') ρ (.g (.sl k xs)) v := by
    refine ⟨a', cap, e1, k1, k2, k5, ?_⟩
    rcases k6 with k6 | ⟨b', o, cur, news, rfl, ⟨ow2, q0, rfl⟩, q1, q2, q3⟩
    ·have : xs = [] := List.eq_nil_of_length_eq_zero k6;subst this;exact .inl ⟨rfl, fun ha => (k3 ha).1⟩
    ·exact .inr ⟨ow2.b, o, rfl, hno ow2 q0, jl q1 (q2.mono (fun _ _ _ => rfl) (fun b _ => hM b)) q3⟩
   refine ⟨ow, ty, vs, by rw [hρ i hi]; exact g1, g2, g3, ?_⟩;have hf : TFits w (owned M0 ρ) ρ (cs.set p .any) vs := TFits.forget p g4
   have hf' : TFits w (owned M0 ρ') ρ' (cs.set p .any) vs := hf.sub (m := m) hM hρ fun c hc' => by
    have hall : ∀ c ∈ cs.set p (.g (.sl k xs)), refsIn m c = true := by simpa [blkIn] using hcl
    rcases List.mem_or_eq_of_mem_set hc' with h | rfl
    ·obtain ⟨j, hj⟩ := List.mem_iff_getElem?.1 hc'
     by_cases hjp : p = j
     ·subst hjp;have hlt : p < cs.length := (List.getElem?_eq_some_iff.1 hc).1;rw [List.getElem?_set_self hlt] at hj
      cases hj; rfl
     ·rw [List.getElem?_set_ne hjp] at hj;exact hall c (List.mem_iff_getElem?.2 ⟨j, by rw [List.getElem?_set_ne hjp]; exact hj⟩)
    ·rfl
   have := TFits.give (tv := .g (.sl k xs)) (ρ := ρ') (show TRel w (owned M0 ρ') ρ' (.g (.sl k xs)) v from hv) p hf' h4
   rwa [List.set_set] at this
  ·have := hm.blk i blk' hold
   cases blk' with
   | box cs =>
    obtain ⟨ow, e, vs, g1, g2, g3, g4⟩ := this;have hcl := h3.2 (i, .box cs) (zn _ hb0);exact ⟨ow, e, vs, by rw [hρ i hi]; exact g1, g2, g3, g4.sub hM hρ (by simpa [blkIn] using hcl)⟩
   | arr e k xs =>
    rcases this with ⟨g1, g2⟩ | ⟨ow, vs, g1, g2, g3, g4, g5, g6, g7⟩
    ·exact .inl ⟨by rw [hρ i hi]; exact g1, g2⟩
    ·exact .inr ⟨ow, vs, by rw [hρ i hi]; exact g1, g2, g3, g4, g5, g6, g7.mono (fun _ _ _ => rfl) (fun b _ => hM b)⟩
   | mp es =>
    obtain ⟨ow, en, cl, g1, g2, g3, g4⟩ := this;exact ⟨ow, en, cl, by rw [hρ i hi]; exact g1, g2, g3.mono (fun _ _ _ => rfl) (fun b _ => hM b), g4⟩
   | obj o =>
    obtain ⟨ow, g1, g2, g3⟩ := this;exact ⟨ow, by rw [hρ i hi]; exact g1, g2, g3⟩
   | mit es seen =>
    obtain ⟨ow, g1, g2, g3⟩ := this;exact ⟨ow, by rw [hρ i hi]; exact g1, g2, g3.mono rfl (fun _ _ _ => rfl) (fun b _ => hM b)⟩
   | gone => trivial
 ·intro i;show TRel _ _ _ (lookT l i) _
  rcases qeg h1 i with h4 | ⟨h4, v, h5, h6⟩
  ·rw [h4]; trivial
  ·rw [h4];refine (ht i).sub (m := m) ?_ hM hρ;rw [← h4, h6];exact h3.1 (i, v) h5
end
section
variable {E : Env}
def GSub (x y : G) : Prop := ∀ w M v, x.p w M v → y.p w M v
def GSubL : List G → List G → Prop
 | [], [] => True
 | x :: xs, y :: ys => GSub x y ∧ GSubL xs ys
 | _, _ => False
theorem qkq (x : G) : GSub x x := fun _ _ _ h => h
theorem qs9 (k : Nat) : GSub (.lit (.slice none 0 0)) (.sl k []) := fun w M v h => by
 have h : v = .slice none 0 0 := h;subst h;exact qkb k w M
theorem qht {w : World} {M : Nat → Prop} : ∀ {xs ys : List G} {vs : List Value}, GSubL xs ys → Fits w M xs vs → Fits w M ys vs
 | [], [], [], _, _ => trivial
 | _ :: _, _ :: _, _ :: _, h, k => ⟨⟨h.1 _ _ _ k.1.1, k.1.2⟩, qht h.2 k.2⟩
 | [], [], _ :: _, _, k => k.elim
 | _ :: _, _ :: _, [], _, k => k.elim
 | [], _ :: _, _, h, _ => h.elim
 | _ :: _, [], _, h, _ => h.elim
theorem qta {xs ys : List G} (h : GSubL xs ys) : GSub (.agg xs) (.agg ys) := fun w M v ⟨vs, h1, h2⟩ => ⟨vs, h1, qht h h2⟩
end
theorem qsk {id : Nat} {mem : Mem} (h : (mem.all fun p => Nat.beq p.1 id || (match lookO mem p.1 with | some b => b.noref (some id) | none => true)) = true) : ∀ i blk, lookO mem i = some blk → i ≠ id → blk.noref (some id) = true := by
 intro i blk hb hne;have := List.all_eq_true.1 h (i, blk) (zn _ hb);simp only [Bool.or_eq_true, hb] at this
 rcases this with h1 | h1
 ·exact absurd (Nat.eq_of_beq_eq_true h1) hne
 ·exact h1
theorem qql {E : Env} {o : Oper} {ev : Operand → TV} {x y : G} (h : ∀ mem, Eff E o mem ev (.g x)) (hs : GSub x y) (mem : Mem) : Eff E o mem ev (.g y) := by
 intro w0 M0 ρ w e hm he;have := h mem w0 M0 ρ w e hm he
 revert this
 generalize (execOp e o).run E.P w = r
 cases r with
 | halt a b => exact id
 | ok n w' =>
  cases n with
  | value v => exact fun ⟨g, k⟩ => ⟨g, hs _ _ _ k⟩
  | enter f args =>
   intro hh;refine Calls.mono hh ?_;rintro e w'' ⟨v, h1, h2, h3⟩;exact ⟨v, h1, h2, hs _ _ _ h3⟩
  | skip =>
   rintro ⟨g, k⟩;exact ⟨g, hs _ _ _ k⟩
  | _ => exact id
end Go.Sim
set_option maxRecDepth 10000
namespace Go.Sim
open Go.Proofs
def s4055  : List S4076 :=
 [(S4076.mk (⟨#[104, 105, 115, 116, 111, 114, 105, 99]⟩) 1), (S4076.mk (⟨#[114, 101, 116, 105, 109, 101, 100]⟩) 2), (S4076.mk (⟨#[110, 101, 119, 99, 111, 109, 101, 114]⟩) 3), (S4076.mk (⟨#[121, 101, 97, 114, 114, 111, 117, 110, 100]⟩) 4), (S4076.mk (⟨#[100, 97, 121, 115]⟩) 5), (S4076.mk (⟨#[115, 101, 97, 116, 115]⟩) 6), (S4076.mk (⟨#[115, 105, 122, 101]⟩) 7), (S4076.mk (⟨#[110, 111, 105, 115, 101]⟩) 8), (S4076.mk (⟨#[100, 105, 115, 116, 97, 110, 99, 101]⟩) 9), (S4076.mk (⟨#[109, 105, 110, 117, 116, 101]⟩) 10)]
theorem qvy {g : List (Nat × List Value)}     : Con (EG g) 55 [] (G.sl 2 (List.map S4076.c s4055)) := by
 generalize hR : s4055  = R;unfold s4055 at hR;refine qk Tryz.func55 rfl rfl fun w0 M0 => ?_;refine qd ?_;refine qb [.p] ?_;refine st rfl rfl (qc rfl rfl) rfl ?_;refine qe ?_;refine qd ?_;refine qb [.p, .p, .p, .p, .p, .p, .p, .p, .p, .p, .p, .p] ?_;refine st rfl rfl (zr rfl qa8 rfl qa3 (qz rfl (qz rfl ko)) rfl) rfl ?_;refine st rfl rfl (zr rfl qa8 rfl qa3 (qz rfl (qz rfl ko)) rfl) rfl ?_;refine st rfl rfl (zr rfl qa8 rfl qa3 (qz rfl (qz rfl ko)) rfl) rfl ?_;refine st rfl rfl (zr rfl qa8 rfl qa3 (qz rfl (qz rfl ko)) rfl) rfl ?_;refine st rfl rfl (zr rfl qa8 rfl qa3 (qz rfl (qz rfl ko)) rfl) rfl ?_;refine st rfl rfl (zr rfl qa8 rfl qa3 (qz rfl (qz rfl ko)) rfl) rfl ?_;refine st rfl rfl (zr rfl qa8 rfl qa3 (qz rfl (qz rfl ko)) rfl) rfl ?_;refine st rfl rfl (zr rfl qa8 rfl qa3 (qz rfl (qz rfl ko)) rfl) rfl ?_;refine st rfl rfl (zr rfl qa8 rfl qa3 (qz rfl (qz rfl ko)) rfl) rfl ?_;refine st rfl rfl (zr rfl qa8 rfl qa3 (qz rfl (qz rfl ko)) rfl) rfl ?_;refine st rfl rfl (qo rfl Tryz.underlying101 qa4 qa8 rfl (qr rfl (qr rfl (qr rfl (qr rfl (qr rfl (qr rfl (qr rfl (qr rfl (qr rfl (qr rfl jg)))))))))) rfl (by exact lens rfl) (by decide)) rfl ?_;refine st rfl rfl (qc rfl rfl) rfl ?_;refine qe ?_;refine qn ?_;subst hR;exact qy rfl (rv_g rfl)
def s4122_l1  : List S4076 → Nat → (List ByteArray) → List ByteArray
 | [], k3, x1 => x1
 | y4 :: t5, k3, x1 => s4122_l1  t5 (k3 + 1) (x1 ++ [y4.name])
def s4122  : List ByteArray :=
 s4122_l1 s4055 0 []
theorem qvz {g : List (Nat × List Value)}     : Con (EG g) 122 [] (G.sl 1 (List.map cStr s4122)) := by
 generalize hR : s4122  = R;unfold s4122 at hR;refine qk Tryz.func122 rfl rfl fun w0 M0 => ?_;have h10 : s4055.length = 10 := rfl;refine qd ?_;refine qb [.w] ?_;refine st_w rfl rfl (xf 0 9 1 rfl rfl rfl) rfl ?_;refine qe ?_;refine qd ?_;refine qb [.w] ?_;refine st_w rfl rfl (xf 1 9 1 rfl rfl rfl) rfl ?_;refine qe ?_;refine qd ?_;refine qd ?_;refine qb [.p, .p, .p] ?_;refine st rfl rfl (qh rfl quu rfl (qvy ) ql) rfl ?_;refine st rfl rfl (qx (f := S4076.c) (l := s4055) rfl Tryz.underlying101 rfl) rfl ?_;refine st rfl rfl (qa rfl rfl) rfl ?_;refine qe ?_;refine qt ?_;refine zc (γ := Nat × (List S4076) × (List ByteArray)) (fun g => ([(1, .osl 1 1 0 (List.length g.2.2)), (4, .g (G.sl 2 (List.map S4076.c s4055))), (5, .g (G.int (List.length s4055 : Int))), (6, .g (G.int ((g.1 : Nat) : Int)))], [(1, .arr 9 1 (List.map cStr g.2.2))])) (fun g => g.2.2.length ≤ g.1 ∧ g.1 ≤ s4055.length ∧ s4055.drop g.1 = g.2.1 ∧ s4122_l1  g.2.1 g.1 g.2.2 = R) (fun g => List.length g.2.1) ⟨rfl, (0, s4055, []), ⟨rfl, rfl, rfl, rfl, trivial⟩, ⟨rfl, trivial⟩, rfl, ⟨(by first | (simp; done) | (simp; omega)), (by first | (simp; done) | (simp; omega)), rfl, (by exact hR)⟩, trivial⟩ ?_
 ·rintro ⟨k3, t5, x1⟩ ⟨iv1_0, iv1_1, hd, hR⟩;replace hd : s4055.drop k3 = t5 := hd;replace hR : s4122_l1  t5 k3 x1 = R := hR;replace iv1_0 : x1.length ≤ k3 := iv1_0;replace iv1_1 : k3 ≤ s4055.length := iv1_1;refine qd ?_;refine qb [.p] ?_;refine st rfl rfl (zi rfl rfl rfl) rfl ?_;refine qe ?_;refine zl (f := S4076.c) (l := s4055) 4 rfl fun hlz1 => ?_;refine qd ?_;refine qp _ rfl (fun h1 => ?_) (fun h1 => ?_)
  ·replace h1 : (decide (((k3 : Nat) : Int) < (List.length s4055 : Int))) = true := h1;obtain ⟨y4, t5, rfl, hx1, hd⟩ := zp hd (decT h1);replace h1 := decT h1;rw [s4122_l1] at hR;(try dsimp only at hR);refine qq ?_;refine qd ?_;refine qt ?_;refine qd ?_;refine qb [.p, .p, .w, .w] ?_;refine st rfl rfl (zt (f := S4076.c) (l := s4055) (a := y4) rfl Tryz.underlying101 qa4 rfl rfl (Int.natCast_nonneg _) hx1) rfl ?_;refine st rfl rfl (qw rfl qa4 rfl rfl rfl) rfl ?_;refine st_w rfl rfl (zw 3 rfl qa8 rfl rfl) rfl ?_;refine kc rfl rfl (q8 (tv := .g (G.agg [G.str y4.name, kfG y4.of])) rfl qa4 rfl rfl rfl rfl rfl) ?_;refine qe ?_;refine qb [.p, .p, .r, .p, .k, .p] ?_;refine st rfl rfl (q9 rfl rfl) rfl ?_;refine st rfl rfl (zf rfl qjy rfl) rfl ?_;refine st_r rfl rfl (jy rfl ty9 rfl rfl rfl) rfl ?_;refine st rfl rfl (qo rfl Tryz.underlying33 ty9 z9 rfl (qr rfl jg) rfl (by simp []) (by decide)) rfl ?_;refine st_k rfl rfl (vj (f := cStr) (out := x1) (new := [y4.name]) rfl qym rfl rfl (xx rfl (wh (by decide) (by simp []))) (qe3 rfl) (by simp; omega)) rfl ?_;refine st rfl rfl (zq rfl rfl) rfl ?_;refine qe ?_;refine qb [.p, .p] ?_;refine st rfl rfl (z0 rfl rfl rfl (by unfold I64; omega)) rfl ?_;refine st rfl rfl (qa rfl rfl) rfl ?_;refine qe ?_;exact ⟨rfl, (k3 + 1, t5, x1 ++ [y4.name]), ⟨rfl, rfl, rfl, rfl, trivial⟩, ⟨rfl, trivial⟩, rfl, ⟨(by first | omega | (dsimp only; omega) | (simp at *; omega)), (by first | omega | (dsimp only; omega) | (simp at *; omega)), hd, hR⟩, by simp⟩
  ·replace h1 : (decide (((k3 : Nat) : Int) < (List.length s4055 : Int))) = false := h1;obtain rfl := je hd (decF h1);rw [s4122_l1] at hR;refine zy ?_;refine qd ?_;refine qb [.p, .p] ?_;refine st rfl rfl (q9 rfl rfl) rfl ?_;refine st rfl rfl (zq rfl rfl) rfl ?_;refine qe ?_;refine qn ?_;subst hR;exact qy rfl (qgg rfl rfl)
def s4116 (a0 : S4065) : Int :=
 (s4019 [(s4028 (!(s88 s4122 a0.Fact)) 10), (s4028 (((!decide (a0.Op = (⟨#[61]⟩))) && (!decide (a0.Op = (⟨#[60]⟩)))) && (!decide (a0.Op = (⟨#[62]⟩)))) 13), (s4036 a0.Value 0 999999999)])
theorem qz8 {g : List (Nat × List Value)} (a0 : S4065)    : Con (EG g) 116 [G.agg [G.str a0.Fact, G.str a0.Op, G.int a0.Value]] (G.int (s4116 a0)) := by
 generalize hR : s4116 a0 = R;unfold s4116 at hR;refine qk Tryz.func116 rfl rfl fun w0 M0 => ?_;refine qd ?_;refine qb [.p, .p] ?_;refine st rfl rfl (zj rfl rfl) rfl ?_;refine st rfl rfl (qc rfl rfl) rfl ?_;refine qe ?_;refine qd ?_;refine zz [.p, .p, .p, .p, .p] (by kernel_rfl) ?_;refine st rfl rfl (qh rfl quw rfl (qvz ) ql) rfl ?_;refine st rfl rfl (qf rfl qjx rfl) rfl ?_;refine st rfl rfl (qj rfl ty9 rfl) rfl ?_;refine st rfl rfl (qh rfl K88 rfl (c88 s4122 a0.Fact) (qg rfl (qg rfl ql))) rfl ?_;refine st rfl rfl (qc rfl rfl) rfl ?_;refine qe ?_;refine qd ?_;refine zz [.p, .p, .p, .p, .p, .p, .p, .p, .p, .p, .p, .p, .p, .p, .p, .p, .p, .p, .p, .p, .p, .p, .p] (by kernel_rfl) ?_;refine st rfl rfl (qa rfl rfl) rfl ?_;refine st rfl rfl (jz rfl rfl) rfl ?_;refine st rfl rfl (qh rfl qa7 rfl (qba (!(s88 s4122 a0.Fact)) 10) (qg rfl (qg rfl ql))) rfl ?_;refine st rfl rfl (qf rfl qas rfl) rfl ?_;refine st rfl rfl (qj rfl ty9 rfl) rfl ?_;refine st rfl rfl (qa9 rfl rfl rfl) rfl ?_;refine st rfl rfl (qa rfl rfl) rfl ?_;refine st_g rfl rfl rfl (qi _ _) (fun h => qf rfl qas rfl) rfl ?_;refine st_g rfl rfl rfl (qi _ _) (fun h => qj rfl ty9 (gd h rfl)) rfl ?_;refine st_g rfl rfl rfl (qi _ _) (fun h => qa9 rfl (gd h rfl) rfl) rfl ?_;refine st rfl rfl (jp rfl rfl rfl rfl) rfl ?_;refine st rfl rfl (qa rfl rfl) rfl ?_;refine st_g rfl rfl rfl (qi _ _) (fun h => qf rfl qas rfl) rfl ?_;refine st_g rfl rfl rfl (qi _ _) (fun h => qj rfl ty9 (gd h rfl)) rfl ?_;refine st_g rfl rfl rfl (qi _ _) (fun h => qa9 rfl (gd h rfl) rfl) rfl ?_;refine st rfl rfl (jp rfl rfl rfl rfl) rfl ?_;refine st rfl rfl (qh rfl qa7 rfl (qba (((!decide (a0.Op = (⟨#[61]⟩))) && (!decide (a0.Op = (⟨#[60]⟩)))) && (!decide (a0.Op = (⟨#[62]⟩)))) 13) (qg rfl (qg rfl ql))) rfl ?_;refine st rfl rfl (qf rfl qdm rfl) rfl ?_;refine st rfl rfl (qj rfl ty3 rfl) rfl ?_;refine st rfl rfl (qh rfl qli rfl (ql0 a0.Value 0 999999999) (qg rfl (qg rfl (qg rfl ql)))) rfl ?_;refine st rfl rfl (qo rfl Tryz.underlying83 ty37 z37 rfl (qr rfl (qr rfl (qr rfl jg))) rfl (by simp []) (by decide)) rfl ?_;refine st rfl rfl (qh rfl qbl rfl (qbz [(s4028 (!(s88 s4122 a0.Fact)) 10), (s4028 (((!decide (a0.Op = (⟨#[61]⟩))) && (!decide (a0.Op = (⟨#[60]⟩)))) && (!decide (a0.Op = (⟨#[62]⟩)))) 13), (s4036 a0.Value 0 999999999)]) (qg rfl ql)) rfl ?_;refine st rfl rfl (qc rfl rfl) rfl ?_;refine qe ?_;refine qn ?_;subst hR;exact qy rfl (rv_g rfl)
def s4115 (a0 : List S4065) (a1 : S4065) : Int :=
 (s4116 a1)
theorem qz9 {g : List (Nat × List Value)} (a0 : List S4065) (a1 : S4065)    : Con (EG g) 115 [G.sl 3 (List.map S4065.c a0), G.agg [G.str a1.Fact, G.str a1.Op, G.int a1.Value]] (G.int (s4115 a0 a1)) := by
 generalize hR : s4115 a0 a1 = R;unfold s4115 at hR;refine qk Tryz.func115 rfl rfl fun w0 M0 => ?_;refine zl (f := S4065.c) (l := a0) 0 rfl fun hla0 => ?_;refine qd ?_;refine qb [.p, .p] ?_;refine st rfl rfl (zj rfl rfl) rfl ?_;refine st rfl rfl (qc rfl rfl) rfl ?_;refine qe ?_;refine qd ?_;refine qb [.p, .p, .p] ?_;refine st rfl rfl (qw rfl wc rfl rfl rfl) rfl ?_;refine st rfl rfl (qh rfl qyf rfl (qz8 a1) (qg rfl ql)) rfl ?_;refine st rfl rfl (qc rfl rfl) rfl ?_;refine qe ?_;refine qn ?_;subst hR;exact qy rfl (rv_g rfl)
def s4118 (a0 : List S4063) (a1 : S4063) : Int :=
 (s4019 [(s4028 (!(s88 s4122 a1.Fact)) 10), (s4028 (s4119 a0 (fun x0 => s4120 x0 a1)) 9)])
theorem q0a {g : List (Nat × List Value)} (a0 : List S4063) (a1 : S4063)    : Con (EG g) 118 [G.sl 2 (List.map S4063.c a0), G.agg [G.str a1.Fact, G.bool a1.Down]] (G.int (s4118 a0 a1)) := by
 generalize hR : s4118 a0 a1 = R;unfold s4118 at hR;refine qk Tryz.func118 rfl rfl fun w0 M0 => ?_;refine zl (f := S4063.c) (l := a0) 0 rfl fun hla0 => ?_;refine qd ?_;refine qb [.p, .p] ?_;refine st rfl rfl (zj rfl rfl) rfl ?_;refine st rfl rfl (qc rfl rfl) rfl ?_;refine qe ?_;refine qd ?_;refine qb [.p, .p, .p, .p] ?_;refine st rfl rfl (qa rfl rfl) rfl ?_;refine st rfl rfl (xh rfl rfl rfl) rfl ?_;refine st rfl rfl (qh rfl qyi rfl (qz4 a0 (fun x0 => s4120 x0 a1) qcm qyj (fun x0 => qz5 x0 a1)) (qg rfl (qg rfl ql))) rfl ?_;refine st rfl rfl (qc rfl rfl) rfl ?_;refine qe ?_;refine qd ?_;refine zz [.p, .p, .p, .p, .p, .p, .p, .p, .p, .p, .p] (by kernel_rfl) ?_;refine st rfl rfl (qh rfl quw rfl (qvz ) ql) rfl ?_;refine st rfl rfl (qf rfl qbn rfl) rfl ?_;refine st rfl rfl (qj rfl ty9 rfl) rfl ?_;refine st rfl rfl (qh rfl K88 rfl (c88 s4122 a1.Fact) (qg rfl (qg rfl ql))) rfl ?_;refine st rfl rfl (jz rfl rfl) rfl ?_;refine st rfl rfl (qh rfl qa7 rfl (qba (!(s88 s4122 a1.Fact)) 10) (qg rfl (qg rfl ql))) rfl ?_;refine st rfl rfl (qa rfl rfl) rfl ?_;refine st rfl rfl (qh rfl qa7 rfl (qba (s4119 a0 (fun x0 => s4120 x0 a1)) 9) (qg rfl (qg rfl ql))) rfl ?_;refine st rfl rfl (qo rfl Tryz.underlying83 ty37 z37 rfl (qr rfl (qr rfl jg)) rfl (by simp []) (by decide)) rfl ?_;refine st rfl rfl (qh rfl qbl rfl (qbz [(s4028 (!(s88 s4122 a1.Fact)) 10), (s4028 (s4119 a0 (fun x0 => s4120 x0 a1)) 9)]) (qg rfl ql)) rfl ?_;refine st rfl rfl (qc rfl rfl) rfl ?_;refine qe ?_;refine qn ?_;subst hR;exact qy rfl (rv_g rfl)
def s4104 (a0 : S4069) : Int :=
 (bif decide ((s4019 [(s4028 (!(s147 a0.Name)) 8), (s4028 (decide (8 < (List.length a0.When : Int))) 5)]) ≠ 0) then (s4019 [(s4028 (!(s147 a0.Name)) 8), (s4028 (decide (8 < (List.length a0.When : Int))) 5)]) else (s4019 [(s4114 a0.When s4115), (s4028 (decide (8 < (List.length a0.By : Int))) 5), (s4117 a0.By s4118)]))
theorem q0b {g : List (Nat × List Value)} (a0 : S4069)    : Con (EG g) 104 [G.agg [G.str a0.Name, G.sl 3 (List.map S4065.c a0.When), G.sl 2 (List.map S4063.c a0.By)]] (G.int (s4104 a0)) := by
 generalize hR : s4104 a0 = R;unfold s4104 at hR;refine qk Tryz.func104 rfl rfl fun w0 M0 => ?_;refine qd ?_;refine qb [.p, .p] ?_;refine st rfl rfl (zj rfl rfl) rfl ?_;refine st rfl rfl (qc rfl rfl) rfl ?_;refine qe ?_;refine qd ?_;refine qd ?_;refine zz [.p, .p, .p, .p, .p, .p, .p, .p, .p, .p, .p, .p, .p] (by kernel_rfl) ?_;refine st rfl rfl (qf rfl qf5 rfl) rfl ?_;refine st rfl rfl (qj rfl ty9 rfl) rfl ?_;refine st rfl rfl (qh rfl K147 rfl (c147 a0.Name) (qg rfl ql)) rfl ?_;refine st rfl rfl (jz rfl rfl) rfl ?_;refine st rfl rfl (qh rfl qa7 rfl (qba (!(s147 a0.Name)) 8) (qg rfl (qg rfl ql))) rfl ?_;refine st rfl rfl (qf rfl qf6 rfl) rfl ?_;refine st rfl rfl (qj rfl qm5 rfl) rfl ?_;refine st rfl rfl (qx (f := S4065.c) (l := a0.When) rfl Tryz.underlying67 rfl) rfl ?_;refine st rfl rfl (j9 rfl rfl rfl) rfl ?_;refine st rfl rfl (qh rfl qa7 rfl (qba (decide (8 < (List.length a0.When : Int))) 5) (qg rfl (qg rfl ql))) rfl ?_;refine st rfl rfl (qo rfl Tryz.underlying83 ty37 z37 rfl (qr rfl (qr rfl jg)) rfl (by simp []) (by decide)) rfl ?_;refine st rfl rfl (qh rfl qbl rfl (qbz [(s4028 (!(s147 a0.Name)) 8), (s4028 (decide (8 < (List.length a0.When : Int))) 5)]) (qg rfl ql)) rfl ?_;refine st rfl rfl (qc rfl rfl) rfl ?_;refine qe ?_;refine qd ?_;refine qb [.p, .p] ?_;refine st rfl rfl (qa rfl rfl) rfl ?_;refine st rfl rfl (zo rfl rfl rfl) rfl ?_;refine qe ?_;refine qp _ rfl (fun h1 => ?_) (fun h1 => ?_)
 ·replace h1 : (decide ((s4019 [(s4028 (!(s147 a0.Name)) 8), (s4028 (decide (8 < (List.length a0.When : Int))) 5)]) ≠ 0)) = true := h1;replace hR := jc hR h1;(try simp only [Bool.or_eq_true, Bool.and_eq_true, Bool.or_eq_false_iff, Bool.and_eq_false_iff, Bool.not_eq_true', Bool.not_eq_false', decide_eq_true_eq, decide_eq_false_iff_not] at h1);refine qd ?_;refine qb [.p, .p] ?_;refine st rfl rfl (qa rfl rfl) rfl ?_;refine st rfl rfl (qc rfl rfl) rfl ?_;refine qe ?_;refine qn ?_;subst hR;exact qy rfl (rv_g rfl)
 ·replace h1 : (decide ((s4019 [(s4028 (!(s147 a0.Name)) 8), (s4028 (decide (8 < (List.length a0.When : Int))) 5)]) ≠ 0)) = false := h1;replace hR := jd hR h1;(try simp only [Bool.or_eq_true, Bool.and_eq_true, Bool.or_eq_false_iff, Bool.and_eq_false_iff, Bool.not_eq_true', Bool.not_eq_false', decide_eq_true_eq, decide_eq_false_iff_not] at h1);refine qq ?_;refine qd ?_;refine qb [.p, .p, .p, .p] ?_;refine st rfl rfl (qf rfl qf6 rfl) rfl ?_;refine st rfl rfl (qj rfl qm5 rfl) rfl ?_;refine st rfl rfl (qh rfl qyd rfl (qz1 a0.When s4115 kw qye (fun x0 x1 => qz9 x0 x1)) (qg rfl (qg rfl ql))) rfl ?_;refine st rfl rfl (qc rfl rfl) rfl ?_;refine qe ?_;refine qd ?_;refine zz [.p, .p, .p, .p, .p, .p, .p, .p, .p, .p, .p, .p] (by kernel_rfl) ?_;refine st rfl rfl (qa rfl rfl) rfl ?_;refine st rfl rfl (qf rfl qf7 rfl) rfl ?_;refine st rfl rfl (qj rfl qm6 rfl) rfl ?_;refine st rfl rfl (qx (f := S4063.c) (l := a0.By) rfl Tryz.underlying68 rfl) rfl ?_;refine st rfl rfl (j9 rfl rfl rfl) rfl ?_;refine st rfl rfl (qh rfl qa7 rfl (qba (decide (8 < (List.length a0.By : Int))) 5) (qg rfl (qg rfl ql))) rfl ?_;refine st rfl rfl (qf rfl qf7 rfl) rfl ?_;refine st rfl rfl (qj rfl qm6 rfl) rfl ?_;refine st rfl rfl (qh rfl qyg rfl (qz2 a0.By s4118 kw qyh (fun x0 x1 => q0a x0 x1)) (qg rfl (qg rfl ql))) rfl ?_;refine st rfl rfl (qo rfl Tryz.underlying83 ty37 z37 rfl (qr rfl (qr rfl (qr rfl jg))) rfl (by simp []) (by decide)) rfl ?_;refine st rfl rfl (qh rfl qbl rfl (qbz [(s4114 a0.When s4115), (s4028 (decide (8 < (List.length a0.By : Int))) 5), (s4117 a0.By s4118)]) (qg rfl ql)) rfl ?_;refine st rfl rfl (qc rfl rfl) rfl ?_;refine qe ?_;refine qn ?_;subst hR;exact qy rfl (rv_g rfl)
def s4066 (a0 : List S4069) (a1 : S4069) : Int :=
 (s4019 [(s4104 a1), (s4028 (s4102 a0 (fun x0 => s4103 x0 a1)) 9)])
theorem q0c {g : List (Nat × List Value)} (a0 : List S4069) (a1 : S4069)    : Con (EG g) 66 [G.sl 3 (List.map S4069.c a0), G.agg [G.str a1.Name, G.sl 3 (List.map S4065.c a1.When), G.sl 2 (List.map S4063.c a1.By)]] (G.int (s4066 a0 a1)) := by
 generalize hR : s4066 a0 a1 = R;unfold s4066 at hR;refine qk Tryz.func66 rfl rfl fun w0 M0 => ?_;refine zl (f := S4069.c) (l := a0) 0 rfl fun hla0 => ?_;refine qd ?_;refine qb [.p, .p] ?_;refine st rfl rfl (zj rfl rfl) rfl ?_;refine st rfl rfl (qc rfl rfl) rfl ?_;refine qe ?_;refine qd ?_;refine qb [.p, .p, .p, .p] ?_;refine st rfl rfl (qa rfl rfl) rfl ?_;refine st rfl rfl (xh rfl rfl rfl) rfl ?_;refine st rfl rfl (qh rfl qx8 rfl (qzz a0 (fun x0 => s4103 x0 a1) qcm qx9 (fun x0 => qz0 x0 a1)) (qg rfl (qg rfl ql))) rfl ?_;refine st rfl rfl (qc rfl rfl) rfl ?_;refine qe ?_;refine qd ?_;refine qb [.p, .p, .p, .p, .p, .p, .p] ?_;refine st rfl rfl (qw rfl wd rfl rfl rfl) rfl ?_;refine st rfl rfl (qh rfl qya rfl (q0b a1) (qg rfl ql)) rfl ?_;refine st rfl rfl (qa rfl rfl) rfl ?_;refine st rfl rfl (qh rfl qa7 rfl (qba (s4102 a0 (fun x0 => s4103 x0 a1)) 9) (qg rfl (qg rfl ql))) rfl ?_;refine st rfl rfl (qo rfl Tryz.underlying83 ty37 z37 rfl (qr rfl (qr rfl jg)) rfl (by simp []) (by decide)) rfl ?_;refine st rfl rfl (qh rfl qbl rfl (qbz [(s4104 a1), (s4028 (s4102 a0 (fun x0 => s4103 x0 a1)) 9)]) (qg rfl ql)) rfl ?_;refine st rfl rfl (qc rfl rfl) rfl ?_;refine qe ?_;refine qn ?_;subst hR;exact qy rfl (rv_g rfl)
def s4065_l1 (a0 : List S4069) (a1 : (List S4069) → S4069 → Int) : List S4069 → Nat → Int
 | [], k2 => 0
 | y3 :: t4, k2 => (bif decide ((a1 (List.take (Int.toNat ((k2 : Nat) : Int)) a0) y3) ≠ 0) then (a1 (List.take (Int.toNat ((k2 : Nat) : Int)) a0) y3) else s4065_l1 a0 a1 t4 (k2 + 1))
def s4065 (a0 : List S4069) (a1 : (List S4069) → S4069 → Int) : Int :=
 s4065_l1 a0 a1 a0 0
theorem q0d {g : List (Nat × List Value)} (a0 : List S4069) (a1 : (List S4069) → S4069 → Int) {ca1 : G} {ia1 : FuncId} {ka1 : List G} (ha1 : FnIs ca1 ia1 ka1) (Ka1 : Known Tryz.prog ia1) (Ha1 : ∀ (x0 : List S4069) (x1 : S4069), Con (EG g) ia1 ([G.sl 3 (List.map S4069.c x0), G.agg [G.str x1.Name, G.sl 3 (List.map S4065.c x1.When), G.sl 2 (List.map S4063.c x1.By)]] ++ ka1) (G.int (a1 x0 x1)))   : Con (EG g) 65 [G.sl 3 (List.map S4069.c a0), ca1] (G.int (s4065 a0 a1)) := by
 generalize hR : s4065 a0 a1 = R;unfold s4065 at hR;refine qk Tryz.func65 rfl rfl fun w0 M0 => ?_;refine zl (f := S4069.c) (l := a0) 0 rfl fun hla0 => ?_;refine qd ?_;refine qb [.p] ?_;refine st rfl rfl (qc rfl rfl) rfl ?_;refine qe ?_;refine qd ?_;refine qd ?_;refine qb [.p, .p, .p] ?_;refine st rfl rfl (qa rfl rfl) rfl ?_;refine st rfl rfl (qx (f := S4069.c) (l := a0) rfl Tryz.underlying39 rfl) rfl ?_;refine st rfl rfl (qa rfl rfl) rfl ?_;refine qe ?_;refine qt ?_;refine zc (γ := Nat × (List S4069)) (fun g => ([(0, .g (G.sl 3 (List.map S4069.c a0))), (1, .g (ca1)), (8, .g (G.sl 3 (List.map S4069.c a0))), (9, .g (G.int (List.length a0 : Int))), (10, .g (G.int ((g.1 : Nat) : Int)))], [])) (fun g => a0.drop g.1 = g.2 ∧ s4065_l1 a0 a1 g.2 g.1 = R) (fun g => List.length g.2) ⟨rfl, (0, a0), ⟨rfl, rfl, rfl, rfl, rfl, trivial⟩, trivial, rfl, ⟨rfl, (by exact hR)⟩, trivial⟩ ?_
 ·rintro ⟨k2, t4⟩ ⟨hd, hR⟩;replace hd : a0.drop k2 = t4 := hd;replace hR : s4065_l1 a0 a1 t4 k2 = R := hR;refine qd ?_;refine qb [.p] ?_;refine st rfl rfl (zi rfl rfl rfl) rfl ?_;refine qe ?_;refine zl (f := S4069.c) (l := a0) 0 rfl fun hlz1 => ?_;refine qd ?_;refine qp _ rfl (fun h1 => ?_) (fun h1 => ?_)
  ·replace h1 : (decide (((k2 : Nat) : Int) < (List.length a0 : Int))) = true := h1;obtain ⟨y3, t4, rfl, hx1, hd⟩ := zp hd (decT h1);replace h1 := decT h1;rw [s4065_l1] at hR;(try dsimp only at hR);refine qq ?_;refine qd ?_;refine qt ?_;refine qd ?_;refine qb [.p, .p, .p, .w, .p, .w] ?_;refine st rfl rfl (qa rfl rfl) rfl ?_;refine st rfl rfl (zt (f := S4069.c) (l := a0) (a := y3) rfl Tryz.underlying39 wd rfl rfl (Int.natCast_nonneg _) hx1) rfl ?_;refine st rfl rfl (qw rfl wd rfl rfl rfl) rfl ?_;refine st_w rfl rfl (zw 6 rfl qiy rfl rfl) rfl ?_;refine st rfl rfl (qc rfl rfl) rfl ?_;refine kc rfl rfl (q8 (tv := .g (G.agg [G.str y3.Name, G.sl 3 (List.map S4065.c y3.When), G.sl 2 (List.map S4063.c y3.By)])) rfl wd rfl rfl rfl rfl rfl) ?_;refine qe ?_;refine qd ?_;refine zz [.p, .p, .p, .p, .r, .p, .p] (by kernel_rfl) ?_;refine st rfl rfl (qa rfl rfl) rfl ?_;refine st rfl rfl (qa rfl rfl) rfl ?_;refine st rfl rfl (qa rfl rfl) rfl ?_;refine st rfl rfl (qel (f := S4069.c) (l := a0) rfl Tryz.underlying39 wd rfl qax (wv rfl (Int.natCast_nonneg _)) (Nat.zero_le _) (qko hx1)) rfl ?_;refine st_r rfl rfl (zk rfl wd rfl rfl rfl rfl) rfl ?_;refine st rfl rfl (jm rfl ha1 Ka1 rfl (Ha1 (List.take (Int.toNat ((k2 : Nat) : Int)) a0) y3) (qg rfl (qg rfl ql))) rfl ?_;refine st rfl rfl (qc rfl rfl) rfl ?_;refine qe ?_;refine qd ?_;refine qb [.p, .p] ?_;refine st rfl rfl (qa rfl rfl) rfl ?_;refine st rfl rfl (zo rfl rfl rfl) rfl ?_;refine qe ?_;refine qp _ rfl (fun h3 => ?_) (fun h3 => ?_)
   ·replace h3 : (decide ((a1 (List.take (Int.toNat ((k2 : Nat) : Int)) a0) y3) ≠ 0)) = true := h3;replace hR := jc hR h3;(try simp only [Bool.or_eq_true, Bool.and_eq_true, Bool.or_eq_false_iff, Bool.and_eq_false_iff, Bool.not_eq_true', Bool.not_eq_false', decide_eq_true_eq, decide_eq_false_iff_not] at h3);refine qd ?_;refine qb [.p, .p] ?_;refine st rfl rfl (qa rfl rfl) rfl ?_;refine st rfl rfl (qc rfl rfl) rfl ?_;refine qe ?_;refine qn ?_;subst hR;exact qy rfl (rv_g rfl)
   ·replace h3 : (decide ((a1 (List.take (Int.toNat ((k2 : Nat) : Int)) a0) y3) ≠ 0)) = false := h3;replace hR := jd hR h3;(try simp only [Bool.or_eq_true, Bool.and_eq_true, Bool.or_eq_false_iff, Bool.and_eq_false_iff, Bool.not_eq_true', Bool.not_eq_false', decide_eq_true_eq, decide_eq_false_iff_not] at h3);refine qq ?_;refine qb [.p, .p] ?_;refine st rfl rfl (z0 rfl rfl rfl (by unfold I64; omega)) rfl ?_;refine st rfl rfl (qa rfl rfl) rfl ?_;refine qe ?_;exact ⟨rfl, (k2 + 1, t4), ⟨rfl, rfl, rfl, rfl, rfl, trivial⟩, trivial, rfl, ⟨hd, hR⟩, by simp⟩
  ·replace h1 : (decide (((k2 : Nat) : Int) < (List.length a0 : Int))) = false := h1;obtain rfl := je hd (decF h1);rw [s4065_l1] at hR;refine zy ?_;refine qd ?_;refine qb [.p] ?_;refine st rfl rfl (qc rfl rfl) rfl ?_;refine qe ?_;refine qn ?_;subst hR;exact qy rfl (rv_g rfl)
def s4067 (a0 : S4040) : Int :=
 (s4019 [(s4036 a0.Pool 0 (List.length a0.Classes : Int)), (s4036 a0.Of 1 100), (s4036 a0.For 0 a0.Of)])
theorem q0e {g : List (Nat × List Value)} (a0 : S4040)    : Con (EG g) 67 [G.agg [G.sl 3 (List.map S4069.c a0.Classes), G.int a0.Pool, G.int a0.Of, G.int a0.For]] (G.int (s4067 a0)) := by
 generalize hR : s4067 a0 = R;unfold s4067 at hR;refine qk Tryz.func67 rfl rfl fun w0 M0 => ?_;refine qd ?_;refine qb [.p, .p] ?_;refine st rfl rfl (zj rfl rfl) rfl ?_;refine st rfl rfl (qc rfl rfl) rfl ?_;refine qe ?_;refine qd ?_;refine zz [.p, .p, .p, .p, .p, .p, .p, .p, .p, .p, .p, .p, .p, .p, .p, .p, .p] (by kernel_rfl) ?_;refine st rfl rfl (qf rfl qju rfl) rfl ?_;refine st rfl rfl (qj rfl ty3 rfl) rfl ?_;refine st rfl rfl (qf rfl xv rfl) rfl ?_;refine st rfl rfl (qj rfl qcu rfl) rfl ?_;refine st rfl rfl (qx (f := S4069.c) (l := a0.Classes) rfl Tryz.underlying39 rfl) rfl ?_;refine st rfl rfl (qh rfl qli rfl (ql0 a0.Pool 0 (List.length a0.Classes : Int)) (qg rfl (qg rfl (qg rfl ql)))) rfl ?_;refine st rfl rfl (qf rfl qf4 rfl) rfl ?_;refine st rfl rfl (qj rfl ty3 rfl) rfl ?_;refine st rfl rfl (qh rfl qli rfl (ql0 a0.Of 1 100) (qg rfl (qg rfl (qg rfl ql)))) rfl ?_;refine st rfl rfl (qf rfl qjv rfl) rfl ?_;refine st rfl rfl (qj rfl ty3 rfl) rfl ?_;refine st rfl rfl (qf rfl qf4 rfl) rfl ?_;refine st rfl rfl (qj rfl ty3 rfl) rfl ?_;refine st rfl rfl (qh rfl qli rfl (ql0 a0.For 0 a0.Of) (qg rfl (qg rfl (qg rfl ql)))) rfl ?_;refine st rfl rfl (qo rfl Tryz.underlying83 ty37 z37 rfl (qr rfl (qr rfl (qr rfl jg))) rfl (by simp []) (by decide)) rfl ?_;refine st rfl rfl (qh rfl qbl rfl (qbz [(s4036 a0.Pool 0 (List.length a0.Classes : Int)), (s4036 a0.Of 1 100), (s4036 a0.For 0 a0.Of)]) (qg rfl ql)) rfl ?_;refine st rfl rfl (qc rfl rfl) rfl ?_;refine qe ?_;refine qn ?_;subst hR;exact qy rfl (rv_g rfl)
def s4045 (a0 : S4040) : Int :=
 (bif decide ((s4019 [(s4028 (decide ((List.length a0.Classes : Int) = 0)) 12), (s4028 (decide (16 < (List.length a0.Classes : Int))) 5)]) ≠ 0) then (s4019 [(s4028 (decide ((List.length a0.Classes : Int) = 0)) 12), (s4028 (decide (16 < (List.length a0.Classes : Int))) 5)]) else (s4019 [(s4065 a0.Classes s4066), (s4067 a0)]))
theorem q0f {g : List (Nat × List Value)} (a0 : S4040)    : Con (EG g) 45 [G.agg [G.sl 3 (List.map S4069.c a0.Classes), G.int a0.Pool, G.int a0.Of, G.int a0.For]] (G.int (s4045 a0)) := by
 generalize hR : s4045 a0 = R;unfold s4045 at hR;refine qk Tryz.func45 rfl rfl fun w0 M0 => ?_;refine qd ?_;refine qb [.p, .p] ?_;refine st rfl rfl (zj rfl rfl) rfl ?_;refine st rfl rfl (qc rfl rfl) rfl ?_;refine qe ?_;refine qd ?_;refine qd ?_;refine zz [.p, .p, .p, .p, .p, .p, .p, .p, .p, .p, .p, .p, .p] (by kernel_rfl) ?_;refine st rfl rfl (qf rfl xv rfl) rfl ?_;refine st rfl rfl (qj rfl qcu rfl) rfl ?_;refine st rfl rfl (qx (f := S4069.c) (l := a0.Classes) rfl Tryz.underlying39 rfl) rfl ?_;refine st rfl rfl (vg rfl rfl rfl) rfl ?_;refine st rfl rfl (qh rfl qa7 rfl (qba (decide ((List.length a0.Classes : Int) = 0)) 12) (qg rfl (qg rfl ql))) rfl ?_;refine st rfl rfl (qf rfl xv rfl) rfl ?_;refine st rfl rfl (qj rfl qcu rfl) rfl ?_;refine st rfl rfl (qx (f := S4069.c) (l := a0.Classes) rfl Tryz.underlying39 rfl) rfl ?_;refine st rfl rfl (j9 rfl rfl rfl) rfl ?_;refine st rfl rfl (qh rfl qa7 rfl (qba (decide (16 < (List.length a0.Classes : Int))) 5) (qg rfl (qg rfl ql))) rfl ?_;refine st rfl rfl (qo rfl Tryz.underlying83 ty37 z37 rfl (qr rfl (qr rfl jg)) rfl (by simp []) (by decide)) rfl ?_;refine st rfl rfl (qh rfl qbl rfl (qbz [(s4028 (decide ((List.length a0.Classes : Int) = 0)) 12), (s4028 (decide (16 < (List.length a0.Classes : Int))) 5)]) (qg rfl ql)) rfl ?_;refine st rfl rfl (qc rfl rfl) rfl ?_;refine qe ?_;refine qd ?_;refine qb [.p, .p] ?_;refine st rfl rfl (qa rfl rfl) rfl ?_;refine st rfl rfl (zo rfl rfl rfl) rfl ?_;refine qe ?_;refine qp _ rfl (fun h1 => ?_) (fun h1 => ?_)
 ·replace h1 : (decide ((s4019 [(s4028 (decide ((List.length a0.Classes : Int) = 0)) 12), (s4028 (decide (16 < (List.length a0.Classes : Int))) 5)]) ≠ 0)) = true := h1;replace hR := jc hR h1;(try simp only [Bool.or_eq_true, Bool.and_eq_true, Bool.or_eq_false_iff, Bool.and_eq_false_iff, Bool.not_eq_true', Bool.not_eq_false', decide_eq_true_eq, decide_eq_false_iff_not] at h1);refine qd ?_;refine qb [.p, .p] ?_;refine st rfl rfl (qa rfl rfl) rfl ?_;refine st rfl rfl (qc rfl rfl) rfl ?_;refine qe ?_;refine qn ?_;subst hR;exact qy rfl (rv_g rfl)
 ·replace h1 : (decide ((s4019 [(s4028 (decide ((List.length a0.Classes : Int) = 0)) 12), (s4028 (decide (16 < (List.length a0.Classes : Int))) 5)]) ≠ 0)) = false := h1;replace hR := jd hR h1;(try simp only [Bool.or_eq_true, Bool.and_eq_true, Bool.or_eq_false_iff, Bool.and_eq_false_iff, Bool.not_eq_true', Bool.not_eq_false', decide_eq_true_eq, decide_eq_false_iff_not] at h1);refine qq ?_;refine qd ?_;refine zz [.p, .p, .p, .p, .p, .p, .p, .p] (by kernel_rfl) ?_;refine st rfl rfl (qf rfl xv rfl) rfl ?_;refine st rfl rfl (qj rfl qcu rfl) rfl ?_;refine st rfl rfl (qh rfl qxr rfl (q0d a0.Classes s4066 kw qxs (fun x0 x1 => q0c x0 x1)) (qg rfl (qg rfl ql))) rfl ?_;refine st rfl rfl (qw rfl wz rfl rfl rfl) rfl ?_;refine st rfl rfl (qh rfl qxt rfl (q0e a0) (qg rfl ql)) rfl ?_;refine st rfl rfl (qo rfl Tryz.underlying83 ty37 z37 rfl (qr rfl (qr rfl jg)) rfl (by simp []) (by decide)) rfl ?_;refine st rfl rfl (qh rfl qbl rfl (qbz [(s4065 a0.Classes s4066), (s4067 a0)]) (qg rfl ql)) rfl ?_;refine st rfl rfl (qc rfl rfl) rfl ?_;refine qe ?_;refine qn ?_;subst hR;exact qy rfl (rv_g rfl)
def s4021 (a0 : List S4026) : Int :=
 (bif decide (64 < (List.length a0 : Int)) then 5 else (s4037 a0 s4038))
theorem qtb {g : List (Nat × List Value)} (a0 : List S4026)    : Con (EG g) 21 [G.sl 18 (List.map S4026.c a0)] (G.int (s4021 a0)) := by
 generalize hR : s4021 a0 = R;unfold s4021 at hR;refine qk Tryz.func21 rfl rfl fun w0 M0 => ?_;refine zl (f := S4026.c) (l := a0) 0 rfl fun hla0 => ?_;refine qd ?_;refine qb [.p] ?_;refine st rfl rfl (qc rfl rfl) rfl ?_;refine qe ?_;refine qd ?_;refine qd ?_;refine qb [.p, .p, .p] ?_;refine st rfl rfl (qa rfl rfl) rfl ?_;refine st rfl rfl (qx (f := S4026.c) (l := a0) rfl Tryz.underlying31 rfl) rfl ?_;refine st rfl rfl (j9 rfl rfl rfl) rfl ?_;refine qe ?_;refine qp _ rfl (fun h1 => ?_) (fun h1 => ?_)
 ·replace h1 : (decide (64 < (List.length a0 : Int))) = true := h1;replace hR := jc hR h1;(try simp only [Bool.or_eq_true, Bool.and_eq_true, Bool.or_eq_false_iff, Bool.and_eq_false_iff, Bool.not_eq_true', Bool.not_eq_false', decide_eq_true_eq, decide_eq_false_iff_not] at h1);refine qd ?_;refine qb [.p] ?_;refine st rfl rfl (qc rfl rfl) rfl ?_;refine qe ?_;refine qn ?_;subst hR;exact qy rfl (rv_g rfl)
 ·replace h1 : (decide (64 < (List.length a0 : Int))) = false := h1;replace hR := jd hR h1;(try simp only [Bool.or_eq_true, Bool.and_eq_true, Bool.or_eq_false_iff, Bool.and_eq_false_iff, Bool.not_eq_true', Bool.not_eq_false', decide_eq_true_eq, decide_eq_false_iff_not] at h1);refine qq ?_;refine qd ?_;refine qb [.p, .p, .p] ?_;refine st rfl rfl (qa rfl rfl) rfl ?_;refine st rfl rfl (qh rfl qxe rfl (qzw a0 s4038 kw qxf (fun x0 x1 => qzx x0 x1)) (qg rfl (qg rfl ql))) rfl ?_;refine st rfl rfl (qc rfl rfl) rfl ?_;refine qe ?_;refine qn ?_;subst hR;exact qy rfl (rv_g rfl)
def s4023 (a0 : S4040) (a1 : Int) (a2 : List S4026) : Int :=
 (s4019 [(s4045 a0), (s4020 a1), (s4021 a2)])
theorem qy2 {g : List (Nat × List Value)} (a0 : S4040) (a1 : Int) (a2 : List S4026)    : Con (EG g) 23 [G.agg [G.sl 3 (List.map S4069.c a0.Classes), G.int a0.Pool, G.int a0.Of, G.int a0.For], G.int a1, G.sl 18 (List.map S4026.c a2)] (G.int (s4023 a0 a1 a2)) := by
 generalize hR : s4023 a0 a1 a2 = R;unfold s4023 at hR;refine qk Tryz.func23 rfl rfl fun w0 M0 => ?_;refine zl (f := S4026.c) (l := a2) 2 rfl fun hla2 => ?_;refine qd ?_;refine qb [.p, .p] ?_;refine st rfl rfl (zj rfl rfl) rfl ?_;refine st rfl rfl (qc rfl rfl) rfl ?_;refine qe ?_;refine qd ?_;refine qb [.p, .p, .p, .p, .p, .p, .p, .p, .p] ?_;refine st rfl rfl (qw rfl wz rfl rfl rfl) rfl ?_;refine st rfl rfl (qh rfl qxj rfl (q0f a0) (qg rfl ql)) rfl ?_;refine st rfl rfl (qa rfl rfl) rfl ?_;refine st rfl rfl (qh rfl qr6 rfl (qsz a1) (qg rfl ql)) rfl ?_;refine st rfl rfl (qa rfl rfl) rfl ?_;refine st rfl rfl (qh rfl qr7 rfl (qtb a2) (qg rfl ql)) rfl ?_;refine st rfl rfl (qo rfl Tryz.underlying83 ty37 z37 rfl (qr rfl (qr rfl (qr rfl jg))) rfl (by simp []) (by decide)) rfl ?_;refine st rfl rfl (qh rfl qbl rfl (qbz [(s4045 a0), (s4020 a1), (s4021 a2)]) (qg rfl ql)) rfl ?_;refine st rfl rfl (qc rfl rfl) rfl ?_;refine qe ?_;refine qn ?_;subst hR;exact qy rfl (rv_g rfl)
def s4009  : S4040 :=
 (S4040.mk [(S4069.mk (⟨#[104, 105, 115, 116, 111, 114, 105, 99]⟩) [(S4065.mk (⟨#[104, 105, 115, 116, 111, 114, 105, 99]⟩) (⟨#[61]⟩) 1), (S4065.mk (⟨#[114, 101, 116, 105, 109, 101, 100]⟩) (⟨#[61]⟩) 0)] [(S4063.mk (⟨#[100, 97, 121, 115]⟩) true), (S4063.mk (⟨#[115, 101, 97, 116, 115]⟩) true)]), (S4069.mk (⟨#[114, 101, 116, 105, 109, 101, 100]⟩) [(S4065.mk (⟨#[104, 105, 115, 116, 111, 114, 105, 99]⟩) (⟨#[61]⟩) 1)] [(S4063.mk (⟨#[100, 97, 121, 115]⟩) true), (S4063.mk (⟨#[115, 101, 97, 116, 115]⟩) true)]), (S4069.mk (⟨#[121, 101, 97, 114, 114, 111, 117, 110, 100]⟩) [(S4065.mk (⟨#[121, 101, 97, 114, 114, 111, 117, 110, 100]⟩) (⟨#[61]⟩) 1)] [(S4063.mk (⟨#[100, 97, 121, 115]⟩) true), (S4063.mk (⟨#[115, 101, 97, 116, 115]⟩) true), (S4063.mk (⟨#[100, 105, 115, 116, 97, 110, 99, 101]⟩) true)]), (S4069.mk (⟨#[111, 116, 104, 101, 114, 115]⟩) [] [(S4063.mk (⟨#[100, 97, 121, 115]⟩) true), (S4063.mk (⟨#[115, 101, 97, 116, 115]⟩) true), (S4063.mk (⟨#[100, 105, 115, 116, 97, 110, 99, 101]⟩) true)])] 2 2 1)
theorem qsq {g : List (Nat × List Value)}     : Con (EG g) 9 [] (G.agg [G.sl 3 (List.map S4069.c s4009.Classes), G.int s4009.Pool, G.int s4009.Of, G.int s4009.For]) := by
 generalize hR : s4009  = R;unfold s4009 at hR;refine qk Tryz.func9 rfl rfl fun w0 M0 => ?_;refine qd ?_;refine qb [.w] ?_;refine st_w rfl rfl (zw 0 rfl qu1 rfl rfl) rfl ?_;refine qe ?_;refine qd ?_;refine qb [.p, .p, .p, .w, .w, .w, .w, .w, .w] ?_;refine st rfl rfl (zr rfl qcg rfl qm1 (qz rfl (qz rfl ko)) rfl) rfl ?_;refine st rfl rfl (zr rfl qcg rfl qm1 (qz rfl (qz rfl ko)) rfl) rfl ?_;refine st rfl rfl (zr rfl qcg rfl qm1 (qz rfl (qz rfl ko)) rfl) rfl ?_;refine st_w rfl rfl (zw 1 rfl qcg rfl rfl) rfl ?_;refine st_w rfl rfl (zw 2 rfl qcg rfl rfl) rfl ?_;refine st_w rfl rfl (zw 3 rfl qcg rfl rfl) rfl ?_;refine kc rfl rfl (q8 (tv := .g (G.agg [G.str (⟨#[100, 97, 121, 115]⟩), G.bool true])) rfl j6 rfl rfl rfl rfl rfl) ?_;refine kc rfl rfl (q8 (tv := .g (G.agg [G.str (⟨#[115, 101, 97, 116, 115]⟩), G.bool true])) rfl j6 rfl rfl rfl rfl rfl) ?_;refine kc rfl rfl (q8 (tv := .g (G.agg [G.str (⟨#[100, 105, 115, 116, 97, 110, 99, 101]⟩), G.bool true])) rfl j6 rfl rfl rfl rfl rfl) ?_;refine qe ?_;refine qd ?_;refine qb [.p, .p, .p, .r, .r, .p, .p, .p, .p, .r, .r, .p, .p, .p, .p, .r, .r, .r, .p, .p, .r, .r, .r, .p, .p, .p, .p, .w] ?_;refine st rfl rfl (zr rfl qf8 rfl qjz (qz rfl (qz rfl (qz rfl ko))) rfl) rfl ?_;refine st rfl rfl (zr rfl qf8 rfl qjz (qz rfl (qz rfl (qz rfl ko))) rfl) rfl ?_;refine st rfl rfl (qo rfl Tryz.underlying67 wc qf8 rfl (qr rfl (qr rfl jg)) rfl (by exact lens rfl) (by decide)) rfl ?_;refine st_r rfl rfl (zk rfl j6 rfl rfl rfl rfl) rfl ?_;refine st_r rfl rfl (zk rfl j6 rfl rfl rfl rfl) rfl ?_;refine st rfl rfl (qo rfl Tryz.underlying68 j6 qcg rfl (qr rfl (qr rfl jg)) rfl (by exact lens rfl) (by decide)) rfl ?_;refine st rfl rfl (zr rfl qiy rfl qj0 (qz rfl (qz rfl (qz rfl ko))) rfl) rfl ?_;refine st rfl rfl (zr rfl qf8 rfl qjz (qz rfl (qz rfl (qz rfl ko))) rfl) rfl ?_;refine st rfl rfl (qo rfl Tryz.underlying67 wc qf8 rfl (qr rfl jg) rfl (by exact lens rfl) (by decide)) rfl ?_;refine st_r rfl rfl (zk rfl j6 rfl rfl rfl rfl) rfl ?_;refine st_r rfl rfl (zk rfl j6 rfl rfl rfl rfl) rfl ?_;refine st rfl rfl (qo rfl Tryz.underlying68 j6 qcg rfl (qr rfl (qr rfl jg)) rfl (by exact lens rfl) (by decide)) rfl ?_;refine st rfl rfl (zr rfl qiy rfl qj0 (qz rfl (qz rfl (qz rfl ko))) rfl) rfl ?_;refine st rfl rfl (zr rfl qf8 rfl qjz (qz rfl (qz rfl (qz rfl ko))) rfl) rfl ?_;refine st rfl rfl (qo rfl Tryz.underlying67 wc qf8 rfl (qr rfl jg) rfl (by exact lens rfl) (by decide)) rfl ?_;refine st_r rfl rfl (zk rfl j6 rfl rfl rfl rfl) rfl ?_;refine st_r rfl rfl (zk rfl j6 rfl rfl rfl rfl) rfl ?_;refine st_r rfl rfl (zk rfl j6 rfl rfl rfl rfl) rfl ?_;refine st rfl rfl (qo rfl Tryz.underlying68 j6 qcg rfl (qr rfl (qr rfl (qr rfl jg))) rfl (by exact lens rfl) (by decide)) rfl ?_;refine st rfl rfl (zr rfl qiy rfl qj0 (qz rfl (qz rfl (qz rfl ko))) rfl) rfl ?_;refine st_r rfl rfl (zk rfl j6 rfl rfl rfl rfl) rfl ?_;refine st_r rfl rfl (zk rfl j6 rfl rfl rfl rfl) rfl ?_;refine st_r rfl rfl (zk rfl j6 rfl rfl rfl rfl) rfl ?_;refine st rfl rfl (qo rfl Tryz.underlying68 j6 qcg rfl (qr rfl (qr rfl (qr rfl jg))) rfl (by exact lens rfl) (by decide)) rfl ?_;refine st rfl rfl (qql (x := G.agg [G.str (⟨#[111, 116, 104, 101, 114, 115]⟩), G.lit (.slice none 0 0), G.sl 2 (List.map S4063.c [(S4063.mk (⟨#[100, 97, 121, 115]⟩) true), (S4063.mk (⟨#[115, 101, 97, 116, 115]⟩) true), (S4063.mk (⟨#[100, 105, 115, 116, 97, 110, 99, 101]⟩) true)])]) (y := G.agg [G.str (⟨#[111, 116, 104, 101, 114, 115]⟩), G.sl 3 (List.map S4065.c []), G.sl 2 (List.map S4063.c [(S4063.mk (⟨#[100, 97, 121, 115]⟩) true), (S4063.mk (⟨#[115, 101, 97, 116, 115]⟩) true), (S4063.mk (⟨#[100, 105, 115, 116, 97, 110, 99, 101]⟩) true)])]) (zr rfl qiy rfl qj0 (qz rfl (qz rfl (qz rfl ko))) rfl) (qta ⟨qkq _, qs9 3, qkq _, trivial⟩)) rfl ?_;refine st rfl rfl (qo rfl Tryz.underlying39 wd qiy rfl (qr rfl (qr rfl (qr rfl (qr rfl jg)))) rfl (by exact lens rfl) (by decide)) rfl ?_;refine st rfl rfl (zr rfl qu1 rfl quz (qz rfl (qz rfl (qz rfl (qz rfl ko)))) rfl) rfl ?_;refine kc rfl rfl (q8 (tv := .g (G.agg [G.sl 3 (List.map S4069.c [(S4069.mk (⟨#[104, 105, 115, 116, 111, 114, 105, 99]⟩) [(S4065.mk (⟨#[104, 105, 115, 116, 111, 114, 105, 99]⟩) (⟨#[61]⟩) 1), (S4065.mk (⟨#[114, 101, 116, 105, 109, 101, 100]⟩) (⟨#[61]⟩) 0)] [(S4063.mk (⟨#[100, 97, 121, 115]⟩) true), (S4063.mk (⟨#[115, 101, 97, 116, 115]⟩) true)]), (S4069.mk (⟨#[114, 101, 116, 105, 109, 101, 100]⟩) [(S4065.mk (⟨#[104, 105, 115, 116, 111, 114, 105, 99]⟩) (⟨#[61]⟩) 1)] [(S4063.mk (⟨#[100, 97, 121, 115]⟩) true), (S4063.mk (⟨#[115, 101, 97, 116, 115]⟩) true)]), (S4069.mk (⟨#[121, 101, 97, 114, 114, 111, 117, 110, 100]⟩) [(S4065.mk (⟨#[121, 101, 97, 114, 114, 111, 117, 110, 100]⟩) (⟨#[61]⟩) 1)] [(S4063.mk (⟨#[100, 97, 121, 115]⟩) true), (S4063.mk (⟨#[115, 101, 97, 116, 115]⟩) true), (S4063.mk (⟨#[100, 105, 115, 116, 97, 110, 99, 101]⟩) true)]), (S4069.mk (⟨#[111, 116, 104, 101, 114, 115]⟩) [] [(S4063.mk (⟨#[100, 97, 121, 115]⟩) true), (S4063.mk (⟨#[115, 101, 97, 116, 115]⟩) true), (S4063.mk (⟨#[100, 105, 115, 116, 97, 110, 99, 101]⟩) true)])]), G.int 2, G.int 2, G.int 1])) rfl wz rfl rfl rfl rfl rfl) ?_;refine qe ?_;refine qn ?_;subst hR;exact qy rfl (qoa rfl rfl wz rfl rfl)
section
variable {E : Env} {w0 : World} {M0 : Nat → Prop}
variable {K V : Type} [DecidableEq K] {kf : K → Value} {vf : V → G} {d : TypeDesc} [MKey kf d] {o : Oper} {mem : Mem} {ev : Operand → TV} {t kt et : TypeId} {x ix : Operand} {m : List (K × V)} {k : K} {z : V}
theorem qem {w : World} {M : Nat → Prop} (ht : E.P.underlying t = some (.map kt et)) (hk : E.P.underlying kt = some d) {zv : Value} (hz : (E.P.info? et).bind (·.zero) = some zv) (hz0 : ∀ w M, (vf z).p w M zv)
  {v : Value} (hv : (G.mpf (m.map fun p => (kf p.1, vf p.2))).p w M v) (ok : Bool) : ∃ u, (vf (mgetD m k z)).p w M u ∧ (Instr.lookup t v (kf k) ok).run E.P w = .ok (if ok then .tuple #[u, .bool (mhas m k)] else u) w := by
 obtain ⟨b, en, cl, rfl, _, h2, h3, _⟩ := hv
 have hzr : (zeroValue et).run E.P w = .ok zv w := by
  cases hi : E.P.info? et with
  | none => rw [hi] at hz; cases hz
  | some i =>
   rw [hi] at hz;have hz : i.zero = some zv := hz
   simp [zeroValue, typeInfo, hi, hz]
 have hck := MapKept.run_checkKey (w := w) hk (MKey.isKey (kf := kf) k) en.isEmpty 9999
 rcases qtc (kf := kf) (vf := vf) (k := k) 0 h3 with ⟨g1, g2, _⟩ | ⟨j, e, b, g1, g2, g3, g4, g5, _⟩
 ·refine ⟨zv, by simp only [mgetD, g1]; exact hz0 _ _, ?_⟩
  simp [Instr.lookup, run_underlying ht, MapKept.run_getObj_map h2, hck, MapKept.run_findKey hk g2, hzr, mhas, g1]
 ·refine ⟨e.val, by simp only [mgetD, g1]; exact g5, ?_⟩
  simp [Instr.lookup, run_underlying ht, MapKept.run_getObj_map h2, hck, MapKept.run_findKey hk g2, mhas, g1]
theorem qen {zv : Value} (ho : o.op = .lookup t x ix false) (ht : E.P.underlying t = some (.map kt et)) (hk : E.P.underlying kt = some d) (hz : (E.P.info? et).bind (·.zero) = some zv) (hz0 : ∀ w M, (vf z).p w M zv)
  (hx : ev x = .g (G.mpf (m.map fun p => (kf p.1, vf p.2)))) (hi : ev ix = .g (.lit (kf k))) (mem : Mem) : Eff E o mem ev (.g (vf (mgetD m k z))) := by
 intro w0 M0 ρ w e hm he;have h1 := he x (by rw [ho]; simp [Op.operands]);rw [hx] at h1;have h2 := he ix (by rw [ho]; simp [Op.operands]);rw [hi] at h2;have h2' : e ix = kf k := h2;obtain ⟨u, g1, g2⟩ := qem (E := E) (z := z) (k := k) ht hk hz hz0 h1 false
 have : (execOp e o).run E.P w = .ok (.value u) w := by simp only [execOp, ho, h2', Sem.run_bind, g2, Result.andThen_ok, Sem.run_pure]; rfl
 rw [this];exact ⟨Grow.refl w, g1⟩
theorem qhk {zv : Value} (ho : o.op = .lookup t x ix true) (ht : E.P.underlying t = some (.map kt et)) (hk : E.P.underlying kt = some d) (hz : (E.P.info? et).bind (·.zero) = some zv) (hz0 : ∀ w M, (vf z).p w M zv)
  (hx : ev x = .g (G.mpf (m.map fun p => (kf p.1, vf p.2)))) (hi : ev ix = .g (.lit (kf k))) (mem : Mem) : Eff E o mem ev (.g (.tup [vf (mgetD m k z), G.bool (mhas m k)])) := by
 intro w0 M0 ρ w e hm he;have h1 := he x (by rw [ho]; simp [Op.operands]);rw [hx] at h1;have h2 := he ix (by rw [ho]; simp [Op.operands]);rw [hi] at h2;have h2' : e ix = kf k := h2;obtain ⟨u, g1, g2⟩ := qem (E := E) (z := z) (k := k) ht hk hz hz0 h1 true
 have : (execOp e o).run E.P w = .ok (.value (.tuple #[u, .bool (mhas m k)])) w := by simp only [execOp, ho, h2', Sem.run_bind, g2, Result.andThen_ok, Sem.run_pure]; rfl
 rw [this];exact ⟨Grow.refl w, [u, .bool (mhas m k)], rfl, g1, rfl, trivial⟩
end
end Go.Sim
set_option maxRecDepth 10000
namespace Go.Sim
open Go.Proofs
def s4033_l1  : List S4076 → Nat → (List (ByteArray × S4076)) → List (ByteArray × S4076)
 | [], k3, x2 => x2
 | y4 :: t5, k3, x2 => s4033_l1  t5 (k3 + 1) (mset x2 y4.name y4)
def s4033  : List (ByteArray × S4076) :=
 s4033_l1 s4055 0 []
theorem qsp {g : List (Nat × List Value)}     : Con (EG g) 33 [] (G.mpf (List.map (fun p => ((Value.string) p.1, ((fun (v : S4076) => G.agg [G.str v.name, kfG v.of])) p.2)) s4033)) := by
 generalize hR : s4033  = R;unfold s4033 at hR;refine qk Tryz.func33 rfl rfl fun w0 M0 => ?_;refine qd ?_;refine qb [.p] ?_;refine st rfl rfl (qc rfl rfl) rfl ?_;refine qe ?_;refine qd ?_;refine qb [.w, .p] ?_;refine st_w rfl rfl (qja 4 rfl rfl) rfl ?_;refine st rfl rfl (qeo rfl rfl) rfl ?_;refine qe ?_;refine qd ?_;refine qd ?_;refine qb [.p, .p, .p] ?_;refine st rfl rfl (qh rfl quu rfl (qvy ) ql) rfl ?_;refine st rfl rfl (qx (f := S4076.c) (l := s4055) rfl Tryz.underlying101 rfl) rfl ?_;refine st rfl rfl (qa rfl rfl) rfl ?_;refine qe ?_;refine qt ?_;refine zc (γ := Nat × (List S4076) × (List (ByteArray × S4076))) (fun g => ([(1, .omap 4), (5, .g (G.sl 2 (List.map S4076.c s4055))), (6, .g (G.int (List.length s4055 : Int))), (7, .g (G.int ((g.1 : Nat) : Int)))], [(4, mpB (K := ByteArray) (V := S4076) (Value.string) (fun (v : S4076) => G.agg [G.str v.name, kfG v.of]) g.2.2)])) (fun g => s4055.drop g.1 = g.2.1 ∧ s4033_l1  g.2.1 g.1 g.2.2 = R) (fun g => List.length g.2.1) ⟨rfl, (0, s4055, []), ⟨rfl, rfl, rfl, rfl, trivial⟩, ⟨rfl, trivial⟩, rfl, ⟨rfl, (by exact hR)⟩, trivial⟩ ?_
 ·rintro ⟨k3, t5, x2⟩ ⟨hd, hR⟩;replace hd : s4055.drop k3 = t5 := hd;replace hR : s4033_l1  t5 k3 x2 = R := hR;refine qd ?_;refine qb [.p] ?_;refine st rfl rfl (zi rfl rfl rfl) rfl ?_;refine qe ?_;refine zl (f := S4076.c) (l := s4055) 5 rfl fun hlz1 => ?_;refine qd ?_;refine qp _ rfl (fun h1 => ?_) (fun h1 => ?_)
  ·replace h1 : (decide (((k3 : Nat) : Int) < (List.length s4055 : Int))) = true := h1;obtain ⟨y4, t5, rfl, hx1, hd⟩ := zp hd (decT h1);replace h1 := decT h1;rw [s4033_l1] at hR;(try dsimp only at hR);refine qq ?_;refine qd ?_;refine qt ?_;refine qd ?_;refine qb [.p, .p, .w, .w] ?_;refine st rfl rfl (zt (f := S4076.c) (l := s4055) (a := y4) rfl Tryz.underlying101 qa4 rfl rfl (Int.natCast_nonneg _) hx1) rfl ?_;refine st rfl rfl (qw rfl qa4 rfl rfl rfl) rfl ?_;refine st_w rfl rfl (zw 3 rfl qa8 rfl rfl) rfl ?_;refine kc rfl rfl (q8 (tv := .g (G.agg [G.str y4.name, kfG y4.of])) rfl qa4 rfl rfl rfl rfl rfl) ?_;refine qe ?_;refine qb [.p, .p, .r, .r, .w] ?_;refine st rfl rfl (qhu rfl rfl) rfl ?_;refine st rfl rfl (zf rfl qjy rfl) rfl ?_;refine st_r rfl rfl (jy rfl ty9 rfl rfl rfl) rfl ?_;refine st_r rfl rfl (zk rfl qa4 rfl rfl rfl rfl) rfl ?_;refine kc rfl rfl (ql6 (kf := Value.string) (vf := (fun (v : S4076) => G.agg [G.str v.name, kfG v.of])) (m := x2) (k := y4.name) (v := y4) (ins := false) rfl Tryz.underlying79 Tryz.underlying9 rfl rfl rfl rfl) ?_;refine qe ?_;refine qb [.p, .p] ?_;refine st rfl rfl (z0 rfl rfl rfl (by unfold I64; omega)) rfl ?_;refine st rfl rfl (qa rfl rfl) rfl ?_;refine qe ?_;exact ⟨rfl, (k3 + 1, t5, mset x2 y4.name y4), ⟨rfl, rfl, rfl, rfl, trivial⟩, ⟨rfl, trivial⟩, rfl, ⟨hd, hR⟩, by simp⟩
  ·replace h1 : (decide (((k3 : Nat) : Int) < (List.length s4055 : Int))) = false := h1;obtain rfl := je hd (decF h1);rw [s4033_l1] at hR;refine zy ?_;refine qd ?_;refine qb [.p, .p] ?_;refine st rfl rfl (qhu rfl rfl) rfl ?_;refine st rfl rfl (qeo rfl rfl) rfl ?_;refine qe ?_;refine qn ?_;subst hR;exact qy rfl (qvx rfl rfl)
section
variable {E : Env} {w0 : World} {M0 : Nat → Prop}
def Env.turn (E : Env) (lp : Nat) (mem : Mem) (x : Nat → Option Own) : Env := ⟨E.P, E.gl, E.orders, mem.map fun p => (p.1, x p.1), some lp, false⟩
theorem Con.turn {f : FuncId} {args : List G} {r : G} {lp : Nat} {mem : Mem} {x : Nat → Option Own} (h : Con E f args r) : Con (E.turn lp mem x) f args r := h
theorem ConB.turn {f : FuncId} {args : List TV} {r : G} {m m' : Mem} {lp : Nat} {mem : Mem} {x : Nat → Option Own} (h : ConB E f args m r m') : ConB (E.turn lp mem x) f args m r m' := h
theorem qb5 {mem : Mem} {ρ : Rho} {W : World} {Mo : Nat → Prop} {x : Nat → Option Own} (lp : Nat) (hMo : ∀ b, Mo b → b < W.heap.size) (hgl : GlOk E W Mo)
  (hdom : ∀ id y, ρ id = some y → ∃ blk, lookO mem id = some blk) (hx : ∀ id blk, lookO mem id = some blk → ρ id = some (x id)) (hsub : ∀ id ow, ρ id = some (some ow) → Mo ow.b)
  (hinj : ∀ id id' ow ow', ρ id = some (some ow) → ρ id' = some (some ow') → ow.b = ow'.b → id = id') (hblk : ∀ id blk, lookO mem id = some blk → BRel W Mo ρ id blk) :
  owned (fun b => Mo b ∧ ¬ ∃ id ow, ρ id = some (some ow) ∧ ow.b = b) ρ = Mo ∧ (∀ b, (E.turn lp mem x).lent b ↔ ∃ id ow, ρ id = some (some ow) ∧ ow.b = b) ∧
  MRel (E.turn lp mem x) W (fun b => Mo b ∧ ¬ ∃ id ow, ρ id = some (some ow) ∧ ow.b = b) ρ mem W := by
 have hown : owned (fun b => Mo b ∧ ¬ ∃ id ow, ρ id = some (some ow) ∧ ow.b = b) ρ = Mo := by
  funext b
  apply propext
  constructor
  ·rintro (h | ⟨id, o, h, rfl⟩)
   ·exact h.1
   ·exact hsub _ _ h
  ·intro h
   by_cases hb : ∃ id ow, ρ id = some (some ow) ∧ ow.b = b
   ·obtain ⟨id, ow, h1, h2⟩ := hb; exact .inr ⟨id, ow, h1, h2⟩
   ·exact .inl ⟨h, hb⟩
 have hback : ∀ id y, ρ id = some y → lookO (E.turn lp mem x).bow id = some y := fun id y h => by
  obtain ⟨b, hb⟩ := hdom id y h;refine (vc x).2 ⟨⟨b, hb⟩, ?_⟩;have := hx id b hb;rw [h] at this; cases this; rfl
 have hkeep : ∀ id y, lookO (E.turn lp mem x).bow id = some y → ρ id = some y := fun id y h => by
  obtain ⟨⟨b, h1⟩, rfl⟩ := (vc x).1 h;exact hx id b h1
 have hlent : ∀ b, (E.turn lp mem x).lent b ↔ ∃ id ow, ρ id = some (some ow) ∧ ow.b = b := fun b =>
  ⟨fun ⟨id, ow, h1, h2⟩ => ⟨id, ow, hkeep id _ h1, h2⟩, fun ⟨id, ow, h1, h2⟩ => ⟨id, ow, hback id _ h1, h2⟩⟩
 refine ⟨hown, hlent, BelowX.refl _ W, fun b h => hMo b h.1, by rw [hown]; exact hgl, hdom, fun id ow ho => ⟨.inr ((hlent _).2 ⟨id, ow, ho, rfl⟩), hMo _ (hsub _ _ ho)⟩, hinj, hkeep, ?_, by rw [hown]; exact hblk⟩;intro b hb hM;exact hM.2 ((hlent b).1 hb)
def sameIds (m m' : Mem) : Prop := m'.map (·.1) = m.map (·.1)
def goodM (m : Mem) : Bool := m.all fun q => q.2.live && q.2.ground
def liveM (m : Mem) : Bool := m.all fun q => q.2.live
theorem vn {m : Mem} {id : Nat} : (∃ b, lookO m id = some b) ↔ id ∈ m.map (·.1) := by
 induction m with
 | nil => simp [lookO]
 | cons q m ih =>
  obtain ⟨k, v⟩ := q;simp only [lookO, List.map_cons, List.mem_cons]
  rcases Bool.eq_false_or_eq_true (Nat.beq k id) with hk | hk
  ·rw [hk]; have := Nat.eq_of_beq_eq_true hk; simp [this]
  ·rw [hk]
   have : id ≠ k := fun e => by subst e; rw [Nat.beq_refl] at hk; cases hk
   simp only [cond_false, ih, this, false_or]
def RoundQ {α γ : Type} (m : γ → Mem) (I : List α → γ → Prop) (Px : Code → List α → Mem → Prop) (m0 : Mem) (pre : List α) : Exit → ASt → Prop
 | .normal, s => ∃ g, I pre g ∧ MemL s (m g)
 | .ret, s => ∃ mx, Px .ret pre mx ∧ sameIds m0 mx ∧ goodM mx = true ∧ MemL s mx
 | .exit id, s => ∃ mx, Px (.exit id) pre mx ∧ sameIds m0 mx ∧ goodM mx = true ∧ MemL s mx
 | _, _ => False
def Jm (ρ : Rho) (Mo : Nat → Prop) (lp D : Nat) (w : World) (st : Obj) (m : Mem) (W : World) : Prop :=
 BelowX (fun b => b = lp ∨ ∃ id ow, ρ id = some (some ow) ∧ ow.b = b) w W ∧ (∀ id blk, lookO m id = some blk → BRel W Mo ρ id blk) ∧ W.heap[lp]? = some st ∧ W.heap[D]? = some (.deferred (some []))
theorem Jm.grow {ρ : Rho} {Mo : Nat → Prop} {lp D : Nat} {w W W' : World} {st : Obj} {m : Mem} (hsub : ∀ id ow, ρ id = some (some ow) → ow.b < w.heap.size) (h : Jm ρ Mo lp D w st m W) (hg : Grow W W') : Jm ρ Mo lp D w st m W' := by
 obtain ⟨h1, h2, h3, h4⟩ := h;refine ⟨h1.trans (BelowX.of_grow hg), fun id blk hb => ?_, (hg.block lp (Array.getElem?_eq_some_iff.1 h3).1).trans h3, (hg.block D (Array.getElem?_eq_some_iff.1 h4).1).trans h4⟩;exact (h2 id blk hb).mono none (by simp) (ze _) (fun ow ho => hg.block _ (Nat.lt_of_lt_of_le (hsub id ow ho) h1.size)) hg.hh (fun _ _ h => h) (fun _ _ _ => rfl)
end
section
variable {E : Env} {w0 : World} {M0 : Nat → Prop}
theorem kx (w : World) (b : Nat) (o : Obj) : (w.putObj b o).heap.size = w.heap.size := by simp [World.putObj]
theorem xr (w : World) (b : Nat) (o : Obj) {L : Nat → Prop} (h : L b) : BelowX L w (w.putObj b o) :=
 ⟨rfl, rfl, rfl, Nat.le_of_eq (kx w b o).symm, fun k _ hl => World.putObj_heap_other fun e => hl (by rw [e]; exact h)⟩
end
section
variable {E : Env} {w0 : World} {M0 : Nat → Prop}
theorem qjb {w : World} {D : Nat} (hD : w.heap[D]? = some (.deferred (some []))) (o : Obj) : CellsAs w (w.putObj D o) := by
 intro a v h
 by_cases hb : a.block = D
 ·unfold World.cell? at h;rw [hb, hD] at h
  cases h
 ·unfold World.cell? at h ⊢;rw [World.putObj_heap_other hb];exact h
def G.inert (r : G) : Prop := ∀ (w : World) M u D o, r.p w M u → w.heap[D]? = some (.deferred (some [])) → r.p (w.putObj D o) M u
theorem qhd (v : Value) : (G.lit v).inert := fun _ _ _ _ _ h _ => h
theorem qep : ∀ {cs : List G}, (∀ c ∈ cs, c.inert) → ∀ {w : World} {M : Nat → Prop} {vs : List Value} {D : Nat} {o : Obj}, FitsT w M cs vs → w.heap[D]? = some (.deferred (some [])) → FitsT (w.putObj D o) M cs vs
 | [], _, _, _, [], _, _, h, _ => h
 | c :: cs, hc, w, M, v :: vs, D, o, h, hD => ⟨hc c List.mem_cons_self _ _ _ _ _ h.1 hD, qep (fun x hx => hc x (List.mem_cons_of_mem _ hx)) h.2 hD⟩
 | [], _, _, _, _ :: _, _, _, h, _ => h.elim
 | _ :: _, _, _, _, [], _, _, h, _ => h.elim
theorem qnd {cs : List G} (h : ∀ c ∈ cs, c.inert) : (G.tup cs).inert := fun _ _ _ _ _ ⟨vs, h1, h2⟩ hD => ⟨vs, h1, qep h h2 hD⟩
theorem qne : ∀ c ∈ ([] : List G), c.inert := fun _ h => by cases h
theorem qfd {c : G} {cs : List G} (h : c.inert) (hs : ∀ c ∈ cs, c.inert) : ∀ x ∈ c :: cs, x.inert := fun x hx => by
 rcases List.mem_cons.1 hx with rfl | hx
 ·exact h
 ·exact hs x hx
theorem qcx {P : Program} {fn : Func} {tmps : Array Value} {w : World} {M : Nat → Prop} {r : G} {v : Value} (hin : r.inert) : ∀ (ds : List Deferred) (w1 : World), ds.Nodup →
  (∀ d ∈ ds, ∃ D, d = { target := .collected D, args := #[] } ∧ w.heap.size ≤ D ∧ w1.heap[D]? = some (.deferred (some []))) → Grow w w1 → (∀ w', CellsAs w1 w' → (results fn tmps).run P w' = .ok v w') → r.p w1 M v →
  LeavesInM Fence.wide 0 P fn tmps (fun e w'' => ∃ v, e = .returned v ∧ Grow w w'' ∧ r.p w'' M v) ds .returning w1
 | [], w1, _, _, hg, hr, hp => ⟨v, hr w1 (fun _ _ h => h), v, rfl, hg, hp⟩
 | d :: ds, w1, hn, hd, hg, hr, hp => by
  obtain ⟨D, rfl, hlt, hD⟩ := hd _ List.mem_cons_self;obtain ⟨hn1, hn2⟩ := List.nodup_cons.1 hn;refine ⟨by simp, .inl ⟨D, _, rfl, run_takeDeferred hD, ?_⟩⟩;refine qcx hin ds _ hn2 (fun d' hd' => ?_) ?_ (fun w' hw => hr w' fun a u hu => hw a u (qjb hD _ a u hu)) (hin _ _ _ _ _ hp hD)
  ·obtain ⟨D', rfl, hlt', hD'⟩ := hd d' (List.mem_cons_of_mem _ hd');exact ⟨D', rfl, hlt', (World.putObj_heap_other (fun e => hn1 (by rw [← e]; exact hd'))).trans hD'⟩
  ·exact ⟨hg.os, hg.tape, hg.output, by rw [kx]; exact hg.size, fun k hk => (World.putObj_heap_other (by omega)).trans (hg.block k hk)⟩
def Env.mked (E : Env) : Env := ⟨E.P, E.gl, E.orders, E.bow, E.rnd, true⟩
theorem Con.mked {f : FuncId} {args : List G} {r : G} (h : Con E f args r) : Con E.mked f args r := h
theorem ConB.mked {f : FuncId} {args : List TV} {r : G} {m m' : Mem} (h : ConB E f args m r m') : ConB E.mked f args m r m' := h
theorem qlr {f : FuncId} {fn : Func} {c : Code} {args : List G} {r : G} (hf : E.P.funcs[f]? = some fn) (hb : fn.body = some c) (hn0 : Nat.ble args.length fn.ntmps = true) (hin : r.inert)
  (h : ∀ w0 M0, AWp E.mked w0 M0 c (Done E.mked fn r) ⟨fn.ntmps, initT args, []⟩) (hbw : E.bow = [] := by rfl) (hrn : E.rnd = none := by rfl) : Con E f args r := by
 intro w M vs hM hgl hv;have hn := Nat.le_of_ble_eq_true hn0;have hlen := hv.length
 have hF : E.mked.F = Fence.wide := by unfold Env.F Env.mked; rw [hrn]; rfl
 suffices hci : CallsIn Fence.wide 0 E.P f vs.toArray w (fun e w' => ∃ v, e = .returned v ∧ Grow w w' ∧ r.p w' M v) from callsIn_wide.1 hci
 refine callsIn_of_wp_marks hf hb trivial ?_ rfl
 have ha : ARel E.mked w M ⟨fn.ntmps, initT args, []⟩ { tmps := vs.toArray ++ Array.replicate (fn.ntmps - vs.toArray.size) undef, defers := [] } w := by
  refine ⟨fun _ => rfl, ?_, fun _ => none, ?_, Marks.nil, ?_⟩
  ·simp; omega
  ·refine ⟨BelowX.refl _ w, hM, ?_, ?_, ?_, ?_, (fun id x h => by rw [show E.mked.bow = [] from hbw] at h; cases h), (fun b h => absurd h (kp hbw)), ?_⟩
   ·intro g vs hg;have := hgl g vs hg
    have hiff : ∀ b, owned M (fun _ => none) b → M b := by rintro b (h | ⟨_, _, h, _⟩); exact h; cases h
    exact ⟨⟨fun h => this.1.1 (hiff _ h), this.1.2⟩, this.2.mono (fun _ _ _ => rfl) (fun b _ h => hiff b h) this.1.1⟩
   ·intro _ _ h; cases h
   ·intro _ _ h; cases h
   ·intro _ _ _ _ h; cases h
   ·intro _ _ h; cases h
  ·intro i;have hv' : FitsT w (owned M (fun _ => none)) args vs := hv.mono (fun _ _ _ => rfl) (by rintro b _ (h | ⟨_, _, h, _⟩); exact h; cases h);have := we (ρ := fun _ => none) (fn.ntmps - vs.length) hv' i;show TRel _ _ _ (initT args i) _;rw [Array.getD_eq_getD_getElem?];rw [show (vs.toArray ++ Array.replicate (fn.ntmps - vs.toArray.size) undef) = (vs ++ List.replicate (fn.ntmps - vs.length) undef).toArray by simp];rw [List.getElem?_toArray];exact this
 have hw := h w M _ w ha;rw [hF] at hw;refine wpIn_mono hw ?_;rintro e a' w' ⟨s', ha', hq⟩
 have fin : ResOk E.mked fn s' r → LeavesInM Fence.wide 0 E.P fn a'.tmps (fun e w'' => ∃ v, e = .returned v ∧ Grow w w'' ∧ r.p w'' M v) a'.defers .returning w' := by
  intro hq;obtain ⟨ρ, hm, hmk, ht⟩ := ha'.ex;obtain ⟨v, h1, h2, h3⟩ := hq.run ρ w' a'.tmps hm ht;have hg : Grow w w' := hm.below.grow (fun _ => kp hbw)
  exact qcx hin a'.defers w' hmk.1 (fun d hd => by
   obtain ⟨D, q1, q2, q3⟩ := hmk.2 d hd
   exact ⟨D, q1, q2, q3.2⟩) hg h3 (r.mono h2 (fun _ _ _ => rfl) (fun _ _ h => .inl h))
 cases e with
 | ret => exact fin hq
 | normal => exact fin hq
 | _ => exact hq.elim
end
end Go.Sim
set_option maxRecDepth 10000
namespace Go.Sim
open Go.Proofs
def kcO (k : Nat) (x : S4026) : Option Int :=
 match k with
 | 1 => some (s4072 x) | 2 => some (s4073 x) | 3 => some (s4074 x) | 4 => some (s4075 x) | 5 => some (s4076 x)
 | 6 => some (s4077 x) | 7 => some (s4078 x) | 8 => some (s4079 x) | 9 => some (s4080 x) | 10 => some (s4081 x)
 | _ => none
theorem qbt {E : Env} {g : List (Nat × List Value)} {o : Oper} {ev : Operand → TV} {f : Operand} {ops : Array Operand} {ts : Array TypeId} {k : Nat} {x : S4026} {r : Int} (h0 : ∀ {f : FuncId} {args : List G} {r : G}, Con (EG g) f args r → Con E f args r) (hP : ∀ {n : FuncId}, Known Tryz.prog n → Known E.P n)
  (ho : o.op = .call ⟨.value f, ops, ts⟩) (hk : kcO k x = some r) (hev : ev f = .g (kfG k)) (ha : ops.toList.map ev = [TV.g (G.agg x.c)]) (mem : Mem) : Eff E o mem ev (.g (G.int r)) := by
 unfold kcO at hk
 split at hk
 all_goals first | (cases hk; done) | skip
 all_goals (obtain rfl := Option.some.inj hk)
 ·exact jm (args := [G.agg x.c]) ho kw (hP qxw) hev (h0 (qzb x)) ha mem
 ·exact jm (args := [G.agg x.c]) ho kw (hP qxx) hev (h0 (qzc x)) ha mem
 ·exact jm (args := [G.agg x.c]) ho kw (hP qxy) hev (h0 (qzd x)) ha mem
 ·exact jm (args := [G.agg x.c]) ho kw (hP qxz) hev (h0 (qze x)) ha mem
 ·exact jm (args := [G.agg x.c]) ho kw (hP qx0) hev (h0 (qz7 x)) ha mem
 ·exact jm (args := [G.agg x.c]) ho kw (hP qx1) hev (h0 (qzf x)) ha mem
 ·exact jm (args := [G.agg x.c]) ho kw (hP qx2) hev (h0 (qzg x)) ha mem
 ·exact jm (args := [G.agg x.c]) ho kw (hP qx3) hev (h0 (qzh x)) ha mem
 ·exact jm (args := [G.agg x.c]) ho kw (hP qx4) hev (h0 (qzi x)) ha mem
 ·exact jm (args := [G.agg x.c]) ho kw (hP qx5) hev (h0 (qzj x)) ha mem
theorem qcy : ∀ (l : List Int) (k : Nat), s152_l1 l k = 0 ↔ ∀ x ∈ l, x = 0
 | [], k => by simp [s152_l1]
 | y :: t, k => by
  rw [s152_l1]
  by_cases h : y = 0
  ·rw [decide_eq_false (by simpa using h), cond_false, qcy t]; simp [h]
  ·rw [decide_eq_true h, cond_true]; simp [h]
theorem qb2 (l : List Int) : s152 l = 0 ↔ ∀ x ∈ l, x = 0 := qcy l 0
theorem qhv {a b c : Int} (h : s155 a b c = 0) : b ≤ a ∧ a ≤ c := by
 unfold s155 s154 at h
 by_cases h1 : a < b <;> by_cases h2 : c < a <;> simp [h1, h2] at h <;> omega
theorem qtd {a0 a1 : Int} (h : s152 [(s155 a0 1 2147483646), (s155 a1 0 256)] = 0) : (1 ≤ a0 ∧ a0 ≤ 2147483646) ∧ 0 ≤ a1 ∧ a1 ≤ 256 := by
 have h := (qb2 _).1 h;exact ⟨qhv (h _ (by simp)), qhv (h _ (by simp))⟩
theorem qkd (x : Int) (h : 0 ≤ x) : 0 ≤ Int.tmod (48271 * x) 2147483647 ∧ Int.tmod (48271 * x) 2147483647 ≤ 2147483646 := by
 rw [Int.tmod_eq_emod_of_nonneg (by omega)]; omega
end Go.Sim
