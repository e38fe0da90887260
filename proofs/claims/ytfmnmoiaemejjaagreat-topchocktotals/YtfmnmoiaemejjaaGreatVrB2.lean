/-
  What is proved: lemmas and contracts of functions on the way to the law topChockTotals (part 11).
-/
import Derived.Test.YtfmnmoiaemejjaaGreatVrB1
import Derived.Test.YtfmnmoiaemejjaaGreatVrA7
import Derived.Test.YtfmnmoiaemejjaaGreatVrA8
import Derived.Test.YtfmnmoiaemejjaaGreatVrA3
import Derived.Test.YtfmnmoiaemejjaaGreatVrA9
import Derived.Test.YtfmnmoiaemejjaaGreatVrA2
set_option linter.unusedSectionVars false
set_option linter.unusedSimpArgs false
set_option linter.unusedVariables false
set_option linter.unnecessarySimpa false
set_option linter.deprecated false
set_option maxRecDepth 10000
namespace Go.Sim
open Go.Proofs
def q2r (a1 : List ByteArray) : List ByteArray → Nat → Option Bool
 | [], k2 => some true
 | y3 :: t4, k2 => qz (ixO a1 ((k2 : Nat) : Int)) fun y5 => (bif !decide (y3 = y5) then some false else q2r a1 t4 (k2 + 1))
def s60 (a0 : List ByteArray) (a1 : List ByteArray) : Option Bool :=
 (bif decide ((List.length a0 : Int) ≠ (List.length a1 : Int)) then some false else q2r a1 a0 0)
def qjs (a1 : List Int) : List Int → Nat → Option Bool
 | [], k2 => some true
 | y3 :: t4, k2 => qz (ixO a1 ((k2 : Nat) : Int)) fun y5 => (bif decide (y3 ≠ y5) then some false else qjs a1 t4 (k2 + 1))
def s83 (a0 : List Int) (a1 : List Int) : Option Bool :=
 (bif decide ((List.length a0 : Int) ≠ (List.length a1 : Int)) then some false else qjs a1 a0 0)
theorem c83 {g : GL} (a0 : List Int) (a1 : List Int) {R : Bool}   (hR : s83 a0 a1 = some R) : Con (EG g) 28 [G.sl 1 (List.map cInt a0), G.sl 1 (List.map cInt a1)] (G.bool R) := by
 unfold s83 at hR;refine qm Tryz.func28 U U fun w0 M0 => ?_;refine zp (f := cInt) (l := a0) 0 U fun hla0 => ?_;refine zp (f := cInt) (l := a1) 1 U fun hla1 => ?_;refine qb<|qa [.p]<|sa U U<|qc<|qb<|qb<|qa [.p, .p, .p, .p, .p]<|sm U U<|su (qy (f := cInt) (l := a0) U Tryz.underlying38 U) U<|sm U U<|su (qy (f := cInt) (l := a1) U Tryz.underlying38 U) U<|su (zx U U U) U<|qc ?_;refine ql _ U (fun h1 => ?_) (fun h1 => ?_)
 ·replace hR := zm hR h1;refine qb<|qa [.p]<|sa U U<|qc<|qo ?_;obtain rfl := Option.some.inj hR;exact zb U (rv_g U)
 ·replace h1 : (decide ((List.length a0 : Int) ≠ (List.length a1 : Int))) = false := h1;replace hR := zn hR h1;(try simp only [bB] at h1);refine qn<|qb<|qb<|qa [.p]<|sa U U<|qc<|qq<|za (γ := Nat × (List Int)) (fun g => ([(0, .g (G.sl 1 (List.map cInt a0))), (1, .g (G.sl 1 (List.map cInt a1))), (5, .g (G.int ((g.1 : Nat) : Int)))], [])) (fun g => a0.drop g.1 = g.2 ∧ qjs a1 g.2 g.1 = some R) (fun g => List.length g.2) ⟨U, (0, a0), ⟨U, U, U, O⟩, O, U, ⟨U, (by exact hR)⟩, O⟩ ?_
  ·rintro ⟨k2, t4⟩ ⟨hd, hR⟩;replace hd : a0.drop k2 = t4 := hd;replace hR : qjs a1 t4 k2 = some R := hR;refine qb<|qb<|qa [.p, .p, .p, .p]<|sm U U<|sm U U<|su (qy (f := cInt) (l := a0) U Tryz.underlying38 U) U<|su (ze U U U) U<|qc ?_;refine zp (f := cInt) (l := a0) 0 U fun hlz1 => ?_;refine ql _ U (fun h2 => ?_) (fun h2 => ?_)
   ·replace h2 : (decide (((k2 : Nat) : Int) < (List.length a0 : Int))) = true := h2;obtain ⟨y3, t4, rfl, hx1, hd⟩ := zq hd (decT h2);replace h2 := decT h2;rw [qjs] at hR;(try dsimp only at hR);refine qn<|qb<|qq<|qb ?_;obtain ⟨y5, by5, hR⟩ := qi hR;refine zt [.p, .p, .p, .p, .p, .p, .p, .p, .p] (by kernel_rfl)<|sm U U<|sm U U<|su (z4 (f := cInt) (l := a0) (a := y3) U Tryz.underlying38 ty3 U U (Int.natCast_nonneg _) hx1) U<|su (qg U ty3 U) U<|sm U U<|sm U U<|su (z4 (f := cInt) (l := a1) (a := y5) U Tryz.underlying38 ty3 U U (jl by5) (zk by5)) U<|su (qg U ty3 U) U<|su (zx U U U) U<|qc ?_;refine ql _ U (fun h4 => ?_) (fun h4 => ?_)
    ·replace hR := zm hR h4;refine qb<|qa [.p]<|sa U U<|qc<|qo ?_;obtain rfl := Option.some.inj hR;exact zb U (rv_g U)
    ·replace h4 : (decide (y3 ≠ y5)) = false := h4;replace hR := zn hR h4;(try simp only [bB] at h4);refine qn<|qa [.p, .p, .p]<|sm U U<|su (zl U U U iE) U<|sa U U<|qc ?_;exact ⟨U, (k2 + 1, t4), ⟨U, U, U, O⟩, O, U, ⟨hd, hR⟩, by simp⟩
   ·replace h2 : (decide (((k2 : Nat) : Int) < (List.length a0 : Int))) = false := h2;obtain rfl := zu hd (decF h2);rw [qjs] at hR;refine zr<|qb<|qa [.p]<|sa U U<|qc<|qo ?_;obtain rfl := Option.some.inj hR;exact zb U (rv_g U)
def qhm (a1 : ByteArray) : List ByteArray → Nat → Bool
 | [], k2 => false
 | y3 :: t4, k2 => (bif decide (y3 = a1) then true else qhm a1 t4 (k2 + 1))
def s92 (a0 : List ByteArray) (a1 : ByteArray) : Bool :=
 qhm a1 a0 0
theorem c92 {g : GL} (a0 : List ByteArray) (a1 : ByteArray)    : Con (EG g) 138 [G.sl 1 (List.map cStr a0), G.str a1] (G.bool (s92 a0 a1)) := by
 generalize hR : s92 a0 a1 = R;unfold s92 at hR;refine qm Tryz.func138 U U fun w0 M0 => ?_;refine zp (f := cStr) (l := a0) 0 U fun hla0 => ?_;refine qb<|qa [.p]<|sa U U<|qc<|qb<|qb<|qa [.p]<|sa U U<|qc<|qq<|za (γ := Nat × (List ByteArray)) (fun g => ([(0, .g (G.sl 1 (List.map cStr a0))), (1, .g (G.str a1)), (5, .g (G.int ((g.1 : Nat) : Int)))], [])) (fun g => a0.drop g.1 = g.2 ∧ qhm a1 g.2 g.1 = R) (fun g => List.length g.2) ⟨U, (0, a0), ⟨U, U, U, O⟩, O, U, ⟨U, (by exact hR)⟩, O⟩ ?_
 ·rintro ⟨k2, t4⟩ ⟨hd, hR⟩;replace hd : a0.drop k2 = t4 := hd;replace hR : qhm a1 t4 k2 = R := hR;refine qb<|qb<|qa [.p, .p, .p, .p]<|sm U U<|sm U U<|su (qy (f := cStr) (l := a0) U Tryz.underlying35 U) U<|su (ze U U U) U<|qc ?_;refine zp (f := cStr) (l := a0) 0 U fun hlz1 => ?_;refine ql _ U (fun h1 => ?_) (fun h1 => ?_)
  ·replace h1 : (decide (((k2 : Nat) : Int) < (List.length a0 : Int))) = true := h1;obtain ⟨y3, t4, rfl, hx1, hd⟩ := zq hd (decT h1);replace h1 := decT h1;rw [qhm] at hR;(try dsimp only at hR);refine qn<|qb<|qq<|qb<|qa [.p, .p, .p, .p, .p, .p]<|sm U U<|sm U U<|su (z4 (f := cStr) (l := a0) (a := y3) U Tryz.underlying35 ty9 U U (Int.natCast_nonneg _) hx1) U<|su (qg U ty9 U) U<|sm U U<|su (ky U U U) U<|qc ?_;refine ql _ U (fun h3 => ?_) (fun h3 => ?_)
   ·replace hR := zm hR h3;refine qb<|qa [.p]<|sa U U<|qc<|qo ?_;subst hR;exact zb U (rv_g U)
   ·replace h3 : (decide (y3 = a1)) = false := h3;replace hR := zn hR h3;(try simp only [bB] at h3);refine qn<|qa [.p, .p, .p]<|sm U U<|su (zl U U U iE) U<|sa U U<|qc ?_;exact ⟨U, (k2 + 1, t4), ⟨U, U, U, O⟩, O, U, ⟨hd, hR⟩, by simp⟩
  ·replace h1 : (decide (((k2 : Nat) : Int) < (List.length a0 : Int))) = false := h1;obtain rfl := zu hd (decF h1);rw [qhm] at hR;refine zr<|qb<|qa [.p]<|sa U U<|qc<|qo ?_;subst hR;exact zb U (rv_g U)
def qxv (a0 : S45) (a1 : Int) : Bool :=
 (decide ((s40 a0) ≠ 0)) || (decide (IntKind.i64.wrap (a0.fTo - a0.fFrom) < a1))
theorem zbs {g : GL} (a0 : S45) (a1 : Int)    : Con (EG g) 71 [G.agg (S45.c a0), G.int a1] (G.bool (qxv a0 a1)) := by
 generalize hR : qxv a0 a1 = R;unfold qxv at hR;refine qm Tryz.func71 U U fun w0 M0 => ?_;refine qb<|qa [.p, .p]<|su (zg U U) U<|sa U U<|qc<|qb<|qa [.p, .p, .p, .p, .p, .p, .p, .p, .p, .p, .p, .p, .p]<|su (qp U ty46 U U U) U<|su (qf U K40 U (c40 a0) (qe U qj)) U<|su (zx U U U) U<|sm U U<|sg U U (fun h => qd U qb1 U) U<|sg U U (fun h => qg U ty3 (gd h U)) U<|sg U U (fun h => qd U qdg U) U<|sg U U (fun h => qg U ty3 (gd h U)) U<|sg U U (fun h => ku U (gd h U) (gd h U)) U<|sg U U (fun h => qk U U) U<|sg U U (fun h => ze U (gd h U) (gd h U)) U<|su (jm U U U U) U<|sa U U<|qc<|qo ?_;subst hR;exact zb U (rv_g U)
def qmb (a0 : S2062) : Int :=
 (bif !(s91 a0.Name) then 8 else (bif ((!decide (a0.Kind = (⟨#[65]⟩))) && (!decide (a0.Kind = (⟨#[68]⟩)))) && (!decide (a0.Kind = (⟨#[84]⟩))) then 13 else (bif !(qrg a0.Terminal) then 8 else (bif (((qh1 a0.Length 1 1440) || (qh1 a0.Step 1 1440)) || (qh1 a0.fFrom 0 1439)) || (qh1 a0.fTo 0 1439) then 3 else (bif decide (a0.fTo < a0.fFrom) then 11 else (bif decide ((s40 a0.Period) ≠ 0) then (s40 a0.Period) else (bif (qh1 a0.Most 0 999999999) then 3 else 0)))))))
theorem q71 {g : GL} (a0 : S2062)    : Con (EG g) 72 [G.agg (S2062.c a0)] (G.int (qmb a0)) := by
 generalize hR : qmb a0 = R;unfold qmb at hR;refine qm Tryz.func72 U U fun w0 M0 => ?_;refine qb<|qa [.p, .p]<|su (zg U U) U<|sa U U<|qc<|qb<|qb<|qa [.p, .p, .p, .p]<|su (qd U qkg U) U<|su (qg U ty9 U) U<|su (qf U K91 U (c91 a0.Name) (qe U qj)) U<|su (jn U U) U<|qc ?_;refine ql _ U (fun h1 => ?_) (fun h1 => ?_)
 ·replace hR := zm hR h1;refine qb<|qa [.p]<|sa U U<|qc<|qo ?_;subst hR;exact zb U (rv_g U)
 ·replace h1 : (!(s91 a0.Name)) = false := h1;replace hR := zn hR h1;(try simp only [bB] at h1);refine qn<|qb<|qb<|qa [.p, .p, .p, .p, .p, .p, .p, .p, .p, .p, .p, .p, .p]<|su (qd U qfo U) U<|su (qg U ty9 U) U<|su (qc5 U U U) U<|sm U U<|sg U U (fun h => qd U qfo U) U<|sg U U (fun h => qg U ty9 (gd h U)) U<|sg U U (fun h => qc5 U (gd h U) U) U<|su (zy U U U U) U<|sm U U<|sg U U (fun h => qd U qfo U) U<|sg U U (fun h => qg U ty9 (gd h U)) U<|sg U U (fun h => qc5 U (gd h U) U) U<|su (zy U U U U) U<|qc ?_;refine ql _ U (fun h2 => ?_) (fun h2 => ?_)
  ·replace hR := zm hR h2;refine qb<|qa [.p]<|sa U U<|qc<|qo ?_;subst hR;exact zb U (rv_g U)
  ·replace h2 : (((!decide (a0.Kind = (⟨#[65]⟩))) && (!decide (a0.Kind = (⟨#[68]⟩)))) && (!decide (a0.Kind = (⟨#[84]⟩)))) = false := h2;replace hR := zn hR h2;(try simp only [bB] at h2);refine qn<|qb<|qb<|qa [.p, .p, .p, .p]<|su (qd U qkh U) U<|su (qg U ty9 U) U<|su (qf U zbt U (za7 a0.Terminal) (qe U qj)) U<|su (jn U U) U<|qc ?_;refine ql _ U (fun h3 => ?_) (fun h3 => ?_)
   ·replace hR := zm hR h3;refine qb<|qa [.p]<|sa U U<|qc<|qo ?_;subst hR;exact zb U (rv_g U)
   ·replace h3 : (!(qrg a0.Terminal)) = false := h3;replace hR := zn hR h3;(try simp only [bB] at h3);refine qn<|qb<|qb<|qa [.p, .p, .p, .p, .p, .p, .p, .p, .p, .p, .p, .p, .p, .p, .p, .p, .p, .p]<|su (qd U qtd U) U<|su (qg U ty3 U) U<|su (qf U qxw U (qxo a0.Length 1 1440) (qe U (qe U (qe U qj)))) U<|sm U U<|sg U U (fun h => qd U qh8 U) U<|sg U U (fun h => qg U ty3 (gd h U)) U<|sg U U (fun h => qf U qxw U (qxo a0.Step 1 1440) (qe (gd h U) (qe U (qe U qj)))) U<|su (jm U U U U) U<|sm U U<|sg U U (fun h => qd U qki U) U<|sg U U (fun h => qg U ty3 (gd h U)) U<|sg U U (fun h => qf U qxw U (qxo a0.fFrom 0 1439) (qe (gd h U) (qe U (qe U qj)))) U<|su (jm U U U U) U<|sm U U<|sg U U (fun h => qd U qkj U) U<|sg U U (fun h => qg U ty3 (gd h U)) U<|sg U U (fun h => qf U qxw U (qxo a0.fTo 0 1439) (qe (gd h U) (qe U (qe U qj)))) U<|su (jm U U U U) U<|qc ?_;refine ql _ U (fun h4 => ?_) (fun h4 => ?_)
    ·replace hR := zm hR h4;refine qb<|qa [.p]<|sa U U<|qc<|qo ?_;subst hR;exact zb U (rv_g U)
    ·replace h4 : ((((qh1 a0.Length 1 1440) || (qh1 a0.Step 1 1440)) || (qh1 a0.fFrom 0 1439)) || (qh1 a0.fTo 0 1439)) = false := h4;replace hR := zn hR h4;(try simp only [bB] at h4);refine qn<|qb<|qb<|qa [.p, .p, .p, .p, .p]<|su (qd U qki U) U<|su (qg U ty3 U) U<|su (qd U qkj U) U<|su (qg U ty3 U) U<|su (z6 U U U) U<|qc ?_;refine ql _ U (fun h5 => ?_) (fun h5 => ?_)
     ·replace hR := zm hR h5;refine qb<|qa [.p]<|sa U U<|qc<|qo ?_;subst hR;exact zb U (rv_g U)
     ·replace h5 : (decide (a0.fTo < a0.fFrom)) = false := h5;replace hR := zn hR h5;(try simp only [bB] at h5);refine qn<|qb<|qb<|qa [.p, .p, .p, .p]<|su (qd U qoo U) U<|su (qp U ty46 U U U) U<|su (qf U K40 U (c40 a0.Period) (qe U qj)) U<|sa U U<|qc<|qb<|qa [.p, .p]<|sm U U<|su (zx U U U) U<|qc ?_;refine ql _ U (fun h6 => ?_) (fun h6 => ?_)
      ·replace hR := zm hR h6;refine qb<|qa [.p, .p]<|sm U U<|sa U U<|qc<|qo ?_;subst hR;exact zb U (rv_g U)
      ·replace h6 : (decide ((s40 a0.Period) ≠ 0)) = false := h6;replace hR := zn hR h6;(try simp only [bB] at h6);refine qn<|qb<|qb<|qa [.p, .p, .p]<|su (qd U q0y U) U<|su (qg U ty3 U) U<|su (qf U qxw U (qxo a0.Most 0 999999999) (qe U (qe U (qe U qj)))) U<|qc ?_;refine ql _ U (fun h7 => ?_) (fun h7 => ?_)
       ·replace hR := zm hR h7;refine qb<|qa [.p]<|sa U U<|qc<|qo ?_;subst hR;exact zb U (rv_g U)
       ·replace hR := zn hR h7;refine qn<|qb<|qa [.p]<|sa U U<|qc<|qo ?_;subst hR;exact zb U (rv_g U)
def qci (a1 : ByteArray) : List S2062 → Nat → Int
 | [], k2 => (-1)
 | y3 :: t4, k2 => (bif decide (y3.Name = a1) then ((k2 : Nat) : Int) else qci a1 t4 (k2 + 1))
def quf (a0 : List S2062) (a1 : ByteArray) : Int :=
 qci a1 a0 0
theorem zbu {g : GL} (a0 : List S2062) (a1 : ByteArray)    : Con (EG g) 74 [G.sl 11 (List.map S2062.c a0), G.str a1] (G.int (quf a0 a1)) := by
 generalize hR : quf a0 a1 = R;unfold quf at hR;refine qm Tryz.func74 U U fun w0 M0 => ?_;refine zp (f := S2062.c) (l := a0) 0 U fun hla0 => ?_;refine qb<|qa [.p]<|sa U U<|qc<|qb<|qb<|qa [.p]<|sa U U<|qc<|qq<|za (γ := Nat × (List S2062)) (fun g => ([(0, .g (G.sl 11 (List.map S2062.c a0))), (1, .g (G.str a1)), (5, .g (G.int ((g.1 : Nat) : Int)))], [])) (fun g => a0.drop g.1 = g.2 ∧ qci a1 g.2 g.1 = R) (fun g => List.length g.2) ⟨U, (0, a0), ⟨U, U, U, O⟩, O, U, ⟨U, (by exact hR)⟩, O⟩ ?_
 ·rintro ⟨k2, t4⟩ ⟨hd, hR⟩;replace hd : a0.drop k2 = t4 := hd;replace hR : qci a1 t4 k2 = R := hR;refine qb<|qb<|qa [.p, .p, .p, .p]<|sm U U<|sm U U<|su (qy (f := S2062.c) (l := a0) U Tryz.underlying91 U) U<|su (ze U U U) U<|qc ?_;refine zp (f := S2062.c) (l := a0) 0 U fun hlz1 => ?_;refine ql _ U (fun h1 => ?_) (fun h1 => ?_)
  ·replace h1 : (decide (((k2 : Nat) : Int) < (List.length a0 : Int))) = true := h1;obtain ⟨y3, t4, rfl, hx1, hd⟩ := zq hd (decT h1);replace h1 := decT h1;rw [qci] at hR;(try dsimp only at hR);refine qn<|qb<|qq<|qb<|qa [.p, .p, .p, .p, .p, .p, .p]<|sm U U<|sm U U<|su (z4 (f := S2062.c) (l := a0) (a := y3) U Tryz.underlying91 qam U U (Int.natCast_nonneg _) hx1) U<|su (qd U qkg U) U<|su (qg U ty9 U) U<|sm U U<|su (ky U U U) U<|qc ?_;refine ql _ U (fun h3 => ?_) (fun h3 => ?_)
   ·replace hR := zm hR h3;refine qb<|qa [.p, .p]<|sm U U<|sa U U<|qc<|qo ?_;subst hR;exact zb U (rv_g U)
   ·replace h3 : (decide (y3.Name = a1)) = false := h3;replace hR := zn hR h3;(try simp only [bB] at h3);refine qn<|qa [.p, .p, .p]<|sm U U<|su (zl U U U iE) U<|sa U U<|qc ?_;exact ⟨U, (k2 + 1, t4), ⟨U, U, U, O⟩, O, U, ⟨hd, hR⟩, by simp⟩
  ·replace h1 : (decide (((k2 : Nat) : Int) < (List.length a0 : Int))) = false := h1;obtain rfl := zu hd (decF h1);rw [qci] at hR;refine zr<|qb<|qa [.p]<|sa U U<|qc<|qo ?_;subst hR;exact zb U (rv_g U)
def qdl (a0 : List S2062) : List S2062 → Nat → Int
 | [], k2 => 0
 | y3 :: t4, k2 => (bif decide ((qmb y3) ≠ 0) then (qmb y3) else (bif decide (0 ≤ (quf (List.take (Int.toNat ((k2 : Nat) : Int)) a0) y3.Name)) then 9 else qdl a0 t4 (k2 + 1)))
def qnw (a0 : List S2062) : Int :=
 (bif decide (32 < (List.length a0 : Int)) then 5 else qdl a0 a0 0)
theorem zaq {g : GL} (a0 : List S2062)    : Con (EG g) 33 [G.sl 11 (List.map S2062.c a0)] (G.int (qnw a0)) := by
 generalize hR : qnw a0 = R;unfold qnw at hR;refine qm Tryz.func33 U U fun w0 M0 => ?_;refine zp (f := S2062.c) (l := a0) 0 U fun hla0 => ?_;refine qb<|qa [.p]<|sa U U<|qc<|qb<|qb<|qa [.p, .p, .p]<|sm U U<|su (qy (f := S2062.c) (l := a0) U Tryz.underlying91 U) U<|su (z6 U U U) U<|qc ?_;refine ql _ U (fun h1 => ?_) (fun h1 => ?_)
 ·replace hR := zm hR h1;refine qb<|qa [.p]<|sa U U<|qc<|qo ?_;subst hR;exact zb U (rv_g U)
 ·replace h1 : (decide (32 < (List.length a0 : Int))) = false := h1;replace hR := zn hR h1;(try simp only [bB] at h1);refine qn<|qb<|qb<|qa [.p]<|sa U U<|qc<|qq<|za (γ := Nat × (List S2062)) (fun g => ([(0, .g (G.sl 11 (List.map S2062.c a0))), (3, .g (G.int ((g.1 : Nat) : Int)))], [])) (fun g => a0.drop g.1 = g.2 ∧ qdl a0 g.2 g.1 = R) (fun g => List.length g.2) ⟨U, (0, a0), ⟨U, U, O⟩, O, U, ⟨U, (by exact hR)⟩, O⟩ ?_
  ·rintro ⟨k2, t4⟩ ⟨hd, hR⟩;replace hd : a0.drop k2 = t4 := hd;replace hR : qdl a0 t4 k2 = R := hR;refine qb<|qb<|qa [.p, .p, .p, .p]<|sm U U<|sm U U<|su (qy (f := S2062.c) (l := a0) U Tryz.underlying91 U) U<|su (ze U U U) U<|qc ?_;refine zp (f := S2062.c) (l := a0) 0 U fun hlz1 => ?_;refine ql _ U (fun h2 => ?_) (fun h2 => ?_)
   ·replace h2 : (decide (((k2 : Nat) : Int) < (List.length a0 : Int))) = true := h2;obtain ⟨y3, t4, rfl, hx1, hd⟩ := zq hd (decT h2);replace h2 := decT h2;rw [qdl] at hR;(try dsimp only at hR);refine qn<|qb<|qq<|qb<|qb<|qa [.p, .p, .p, .p, .p, .p]<|sm U U<|sm U U<|su (z4 (f := S2062.c) (l := a0) (a := y3) U Tryz.underlying91 qam U U (Int.natCast_nonneg _) hx1) U<|su (qp U qam U U U) U<|su (qf U q72 U (q71 y3) (qe U qj)) U<|sa U U<|qc<|qb<|qa [.p, .p]<|sm U U<|su (zx U U U) U<|qc ?_;refine ql _ U (fun h4 => ?_) (fun h4 => ?_)
    ·replace hR := zm hR h4;refine qb<|qa [.p, .p]<|sm U U<|sa U U<|qc<|qo ?_;subst hR;exact zb U (rv_g U)
    ·replace h4 : (decide ((qmb y3) ≠ 0)) = false := h4;replace hR := zn hR h4;(try simp only [bB] at h4);refine qn<|qb<|zt [.p, .p, .p, .p, .p, .p, .p, .p, .p, .p] (by kernel_rfl)<|sm U U<|sm U U<|su (qeq (f := S2062.c) (l := a0) U Tryz.underlying91 qam U qbi (qbj U (Int.natCast_nonneg _)) (Nat.zero_le _) (qkz hx1)) U<|sm U U<|sm U U<|su (z4 (f := S2062.c) (l := a0) (a := y3) U Tryz.underlying91 qam U U (Int.natCast_nonneg _) hx1) U<|su (qd U qkg U) U<|su (qg U ty9 U) U<|su (qf U zbv U (zbu (List.take (Int.toNat ((k2 : Nat) : Int)) a0) y3.Name) (qe U (qe U qj))) U<|su (w4 U U U) U<|qc ?_;refine ql _ U (fun h5 => ?_) (fun h5 => ?_)
     ·replace hR := zm hR h5;refine qb<|qa [.p]<|sa U U<|qc<|qo ?_;subst hR;exact zb U (rv_g U)
     ·replace h5 : (decide (0 ≤ (quf (List.take (Int.toNat ((k2 : Nat) : Int)) a0) y3.Name))) = false := h5;replace hR := zn hR h5;(try simp only [bB] at h5);refine qn<|qa [.p, .p, .p]<|sm U U<|su (zl U U U iE) U<|sa U U<|qc ?_;exact ⟨U, (k2 + 1, t4), ⟨U, U, O⟩, O, U, ⟨hd, hR⟩, by simp⟩
   ·replace h2 : (decide (((k2 : Nat) : Int) < (List.length a0 : Int))) = false := h2;obtain rfl := zu hd (decF h2);rw [qdl] at hR;refine zr<|qb<|qa [.p]<|sa U U<|qc<|qo ?_;subst hR;exact zb U (rv_g U)
def qu5 (a0 : S2062) (a1 : S1079) : Bool :=
 ((decide (a0.Kind = (⟨#[84]⟩))) || (decide (a0.Kind = a1.Kind))) && ((decide (a0.Terminal = (⟨#[]⟩))) || (decide (a0.Terminal = a1.Terminal)))
theorem zbw {g : GL} (a0 : S2062) (a1 : S1079)    : Con (EG g) 124 [G.agg (S2062.c a0), G.agg (S1079.c a1)] (G.bool (qu5 a0 a1)) := by
 generalize hR : qu5 a0 a1 = R;unfold qu5 at hR;refine qm Tryz.func124 U U fun w0 M0 => ?_;refine qb<|qa [.p, .p, .p]<|su (zg U U) U<|su (zg U U) U<|sa U U<|qc<|qb<|qa [.p, .p, .p, .p, .p, .p, .p, .p, .p, .p, .p, .p, .p, .p, .p, .p, .p, .p, .p, .p, .p, .p, .p]<|su (qd U qfo U) U<|su (qg U ty9 U) U<|su (ky U U U) U<|sm U U<|sg U U (fun h => qd U qfo U) U<|sg U U (fun h => qg U ty9 (gd h U)) U<|sg U U (fun h => qd U qea U) U<|sg U U (fun h => qg U ty9 (gd h U)) U<|sg U U (fun h => ky U (gd h U) (gd h U)) U<|su (jm U U U U) U<|sm U U<|sg U U (fun h => qd U qkh U) U<|sg U U (fun h => qg U ty9 (gd h U)) U<|sg U U (fun h => ky U (gd h U) U) U<|sg U U (fun h => qk U (gd h U)) U<|st_g U U U (jr _ _ _) (fun h => qd U qkh U) U<|st_g U U U (jr _ _ _) (fun h => qg U ty9 (gd h U)) U<|st_g U U U (jr _ _ _) (fun h => qd U qh2 U) U<|st_g U U U (jr _ _ _) (fun h => qg U ty9 (gd h U)) U<|st_g U U U (jr _ _ _) (fun h => ky U (gd h U) (gd h U)) U<|sg U U (fun h => jm U (gd h U) U (gd2 h U)) U<|su (zy U U U U) U<|sa U U<|qc<|qo ?_;subst hR;exact zb U (rv_g U)
def qxx (a0 : S2062) (a1 : Int) (a2 : Int) : Bool :=
 (decide (a1 ≤ a2)) && (decide (a2 < IntKind.i64.wrap (a1 + a0.Length)))
theorem zbx {g : GL} (a0 : S2062) (a1 : Int) (a2 : Int)    : Con (EG g) 125 [G.agg (S2062.c a0), G.int a1, G.int a2] (G.bool (qxx a0 a1 a2)) := by
 generalize hR : qxx a0 a1 a2 = R;unfold qxx at hR;refine qm Tryz.func125 U U fun w0 M0 => ?_;refine qb<|qa [.p, .p]<|su (zg U U) U<|sa U U<|qc<|qb<|qa [.p, .p, .p, .p, .p, .p, .p, .p, .p, .p, .p, .p]<|sm U U<|sm U U<|su (vl U U U) U<|sm U U<|sg U U (fun h => qk U U) U<|sg U U (fun h => qk U U) U<|sg U U (fun h => qd U qtd U) U<|sg U U (fun h => qg U ty3 (gd h U)) U<|sg U U (fun h => jo U (gd h U) (gd h U)) U<|sg U U (fun h => ze U (gd h U) (gd h U)) U<|su (zy U U U U) U<|sa U U<|qc<|qo ?_;subst hR;exact zb U (rv_g U)
def qfp (rec1 : Nat → Int → Int) (k3 : Nat) (x6 : Int) : Int :=
 rec1 (k3 + 1) x6
def qac (a0 : S2062) (a2 : Int) : List S1079 → Nat → Int → Int
 | [], k3, x1 => x1
 | y4 :: t5, k3, x1 => (bif (qu5 a0 y4) && (qxx a0 a2 y4.Moment) then qfp (fun k_ z0_ => qac a0 a2 t5 k_ z0_) k3 (IntKind.i64.wrap (x1 + 1)) else qfp (fun k_ z0_ => qac a0 a2 t5 k_ z0_) k3 x1)
def qql (a0 : S2062) (a1 : List S1079) (a2 : Int) : Int :=
 qac a0 a2 a1 0 0
theorem zby {g : GL} (a0 : S2062) (a1 : List S1079) (a2 : Int)    : Con (EG g) 67 [G.agg (S2062.c a0), G.sl 7 (List.map S1079.c a1), G.int a2] (G.int (qql a0 a1 a2)) := by
 generalize hR : qql a0 a1 a2 = R;unfold qql at hR;refine qm Tryz.func67 U U fun w0 M0 => ?_;refine zp (f := S1079.c) (l := a1) 1 U fun hla1 => ?_;refine qb<|qa [.p, .p]<|su (zg U U) U<|sa U U<|qc<|qb<|qa [.p]<|sa U U<|qc<|qb<|qb<|qa [.p]<|sa U U<|qc<|qq<|za (γ := Nat × (List S1079) × Int) (fun g => ([(1, .g (G.sl 7 (List.map S1079.c a1))), (2, .g (G.int a2)), (3, .g (G.ref (S2062.c a0))), (7, .g (G.int g.2.2)), (8, .g (G.int ((g.1 : Nat) : Int)))], [])) (fun g => a1.drop g.1 = g.2.1 ∧ qac a0 a2 g.2.1 g.1 g.2.2 = R) (fun g => List.length g.2.1) ⟨U, (0, a1, 0), jA, O, U, ⟨U, (by exact hR)⟩, O⟩ ?_
 ·rintro ⟨k3, t5, x1⟩ ⟨hd, hR⟩;replace hd : a1.drop k3 = t5 := hd;replace hR : qac a0 a2 t5 k3 x1 = R := hR;refine qb<|qb<|qa [.p, .p, .p, .p]<|sm U U<|sm U U<|su (qy (f := S1079.c) (l := a1) U Tryz.underlying48 U) U<|su (ze U U U) U<|qc ?_;refine zp (f := S1079.c) (l := a1) 1 U fun hlz1 => ?_;refine ql _ U (fun h1 => ?_) (fun h1 => ?_)
  ·replace h1 : (decide (((k3 : Nat) : Int) < (List.length a1 : Int))) = true := h1;obtain ⟨y4, t5, rfl, hx1, hd⟩ := zq hd (decT h1);replace h1 := decT h1;rw [qac] at hR;(try dsimp only at hR);refine qn ?_;refine jy (γ := Int) (fun g => ([(1, .g (G.sl 7 (List.map S1079.c a1))), (2, .g (G.int a2)), (3, .g (G.ref (S2062.c a0))), (7, .g (G.int g)), (8, .g (G.int ((k3 : Nat) : Int)))], [])) (fun g => qfp (fun k_ z0_ => qac a0 a2 t5 k_ z0_) k3 g = R) ?_ ?_
   ·refine qq<|qb<|zt [.p, .p, .p, .p, .p, .p, .p, .p, .p, .p, .p, .p, .p, .p, .p, .p] (by kernel_rfl)<|su (qp U qam U U U) U<|sm U U<|sm U U<|su (z4 (f := S1079.c) (l := a1) (a := y4) U Tryz.underlying48 jd U U (Int.natCast_nonneg _) hx1) U<|su (qp U jd U U U) U<|su (qf U zbz U (zbw a0 y4) (qe U (qe U qj))) U<|sm U U<|sg U U (fun h => qp U qam U U U) U<|sg U U (fun h => qk U U) U<|sg U U (fun h => qk U U) U<|sg U U (fun h => qk U U) U<|sg U U (fun h => z4 (f := S1079.c) (l := a1) (a := y4) U Tryz.underlying48 jd (gd h U) (gd h U) (Int.natCast_nonneg _) hx1) U<|sg U U (fun h => qd U qaz (gd h U)) U<|sg U U (fun h => qg U ty3 (gd h U)) U<|sg U U (fun h => qf U zb0 U (zbx a0 a2 y4.Moment) (qe (gd h U) (qe (gd h U) (qe (gd h U) qj)))) U<|su (zy U U U U) U<|qc ?_;refine ql _ U (fun h3 => ?_) (fun h3 => ?_)
    ·replace hR := zm hR h3;refine qa [.p, .p, .p]<|sm U U<|su (jo U U U) U<|sa U U<|qc ?_;exact ⟨U, IntKind.i64.wrap (x1 + 1), jA, O, U, hR, O⟩
    ·replace hR := zn hR h3;refine qn ?_;exact ⟨U, x1, jA, O, U, hR, O⟩
   ·rintro x6 hR;replace hR : qfp (fun k_ z0_ => qac a0 a2 t5 k_ z0_) k3 x6 = R := hR;unfold qfp at hR;refine qa [.p, .p, .p]<|sm U U<|su (zl U U U iE) U<|sa U U<|qc ?_;exact ⟨U, (k3 + 1, t5, x6), jA, O, U, ⟨hd, hR⟩, by simp⟩
  ·replace h1 : (decide (((k3 : Nat) : Int) < (List.length a1 : Int))) = false := h1;obtain rfl := zu hd (decF h1);rw [qac] at hR;refine zr<|qb<|qa [.p, .p]<|sm U U<|sa U U<|qc<|qo ?_;subst hR;exact zb U (rv_g U)
def qdm (a1 : List S1079) : List S1079 → Nat → Option Bool
 | [], k2 => some true
 | y3 :: t4, k2 => qz (ixO a1 ((k2 : Nat) : Int)) fun y5 => (bif !(qit [decide (y3.Moment = y5.Moment), decide (y3.Kind = y5.Kind), decide (y3.Terminal = y5.Terminal), decide (y3.Seats = y5.Seats), decide (y3.Size = y5.Size), decide (y3.Noise = y5.Noise), decide (y3.Name = y5.Name)]) then some false else qdm a1 t4 (k2 + 1))
def qu6 (a0 : List S1079) (a1 : List S1079) : Option Bool :=
 (bif decide ((List.length a0 : Int) ≠ (List.length a1 : Int)) then some false else qdm a1 a0 0)
theorem zb1 {g : GL} (a0 : List S1079) (a1 : List S1079) {R : Bool}   (hR : qu6 a0 a1 = some R) : Con (EG g) 21 [G.sl 7 (List.map S1079.c a0), G.sl 7 (List.map S1079.c a1)] (G.bool R) := by
 unfold qu6 at hR;refine qm Tryz.func21 U U fun w0 M0 => ?_;refine zp (f := S1079.c) (l := a0) 0 U fun hla0 => ?_;refine zp (f := S1079.c) (l := a1) 1 U fun hla1 => ?_;refine qb<|qa [.p]<|sa U U<|qc<|qb<|qb<|qa [.p, .p, .p, .p, .p]<|sm U U<|su (qy (f := S1079.c) (l := a0) U Tryz.underlying48 U) U<|sm U U<|su (qy (f := S1079.c) (l := a1) U Tryz.underlying48 U) U<|su (zx U U U) U<|qc ?_;refine ql _ U (fun h1 => ?_) (fun h1 => ?_)
 ·replace hR := zm hR h1;refine qb<|qa [.p]<|sa U U<|qc<|qo ?_;obtain rfl := Option.some.inj hR;exact zb U (rv_g U)
 ·replace h1 : (decide ((List.length a0 : Int) ≠ (List.length a1 : Int))) = false := h1;replace hR := zn hR h1;(try simp only [bB] at h1);refine qn<|qb<|qb<|qa [.p]<|sa U U<|qc<|qq<|za (γ := Nat × (List S1079)) (fun g => ([(0, .g (G.sl 7 (List.map S1079.c a0))), (1, .g (G.sl 7 (List.map S1079.c a1))), (5, .g (G.int ((g.1 : Nat) : Int)))], [])) (fun g => a0.drop g.1 = g.2 ∧ qdm a1 g.2 g.1 = some R) (fun g => List.length g.2) ⟨U, (0, a0), ⟨U, U, U, O⟩, O, U, ⟨U, (by exact hR)⟩, O⟩ ?_
  ·rintro ⟨k2, t4⟩ ⟨hd, hR⟩;replace hd : a0.drop k2 = t4 := hd;replace hR : qdm a1 t4 k2 = some R := hR;refine qb<|qb<|qa [.p, .p, .p, .p]<|sm U U<|sm U U<|su (qy (f := S1079.c) (l := a0) U Tryz.underlying48 U) U<|su (ze U U U) U<|qc ?_;refine zp (f := S1079.c) (l := a0) 0 U fun hlz1 => ?_;refine ql _ U (fun h2 => ?_) (fun h2 => ?_)
   ·replace h2 : (decide (((k2 : Nat) : Int) < (List.length a0 : Int))) = true := h2;obtain ⟨y3, t4, rfl, hx1, hd⟩ := zq hd (decT h2);replace h2 := decT h2;rw [qdm] at hR;(try dsimp only at hR);refine qn<|qb<|qq<|qb ?_;obtain ⟨y5, by5, hR⟩ := qi hR;refine zt [.p, .p, .p, .p, .p, .p, .p, .p, .p] (by kernel_rfl)<|sm U U<|sm U U<|su (z4 (f := S1079.c) (l := a0) (a := y3) U Tryz.underlying48 jd U U (Int.natCast_nonneg _) hx1) U<|su (qp U jd U U U) U<|sm U U<|sm U U<|su (z4 (f := S1079.c) (l := a1) (a := y5) U Tryz.underlying48 jd U U (jl by5) (zk by5)) U<|su (qp U jd U U U) U<|su (qs9 [.int .i64 y3.Moment, .string y3.Kind, .string y3.Terminal, .int .i64 y3.Seats, .int .i64 y3.Size, .int .i64 y3.Noise, .string y3.Name] [.int .i64 y5.Moment, .string y5.Kind, .string y5.Terminal, .int .i64 y5.Seats, .int .i64 y5.Size, .int .i64 y5.Noise, .string y5.Name] U q0z U U U U U) U<|qc ?_;refine ql _ U (fun h4 => ?_) (fun h4 => ?_)
    ·replace hR := zm hR h4;refine qb<|qa [.p]<|sa U U<|qc<|qo ?_;obtain rfl := Option.some.inj hR;exact zb U (rv_g U)
    ·replace h4 : (!(qit [decide (y3.Moment = y5.Moment), decide (y3.Kind = y5.Kind), decide (y3.Terminal = y5.Terminal), decide (y3.Seats = y5.Seats), decide (y3.Size = y5.Size), decide (y3.Noise = y5.Noise), decide (y3.Name = y5.Name)])) = false := h4;replace hR := zn hR h4;(try simp only [bB] at h4);refine qn<|qa [.p, .p, .p]<|sm U U<|su (zl U U U iE) U<|sa U U<|qc ?_;exact ⟨U, (k2 + 1, t4), ⟨U, U, U, O⟩, O, U, ⟨hd, hR⟩, by simp⟩
   ·replace h2 : (decide (((k2 : Nat) : Int) < (List.length a0 : Int))) = false := h2;obtain rfl := zu hd (decF h2);rw [qdm] at hR;refine zr<|qb<|qa [.p]<|sa U U<|qc<|qo ?_;obtain rfl := Option.some.inj hR;exact zb U (rv_g U)
structure LimR (l : S2062) : Prop where
 n : s147 l.Name = true
 k : l.Kind = (⟨#[65]⟩ : ByteArray) ∨ l.Kind = (⟨#[68]⟩ : ByteArray) ∨ l.Kind = (⟨#[84]⟩ : ByteArray)
 t : qrg l.Terminal = true
 le : 1 ≤ l.Length ∧ l.Length ≤ 1440
 st : 1 ≤ l.Step ∧ l.Step ≤ 1440
 f : 0 ≤ l.fFrom ∧ l.fFrom ≤ 1439
 o : 0 ≤ l.fTo ∧ l.fTo ≤ 1439
 ft : l.fFrom ≤ l.fTo
 per : s102 l.Period = 0
 mo : 0 ≤ l.Most ∧ l.Most ≤ 999999999
theorem qh9 {n a b : Int} : qh1 n a b = false ↔ a ≤ n ∧ n ≤ b := by
 unfold qh1
 simp
theorem q2h {l : S2062} (h : qmb l = 0) : LimR l := by
 unfold qmb at h;rw [cond_eq_ite] at h
 split at h
 ·cases h
 rename_i h1
 rw [cond_eq_ite] at h
 split at h
 ·cases h
 rename_i h2
 rw [cond_eq_ite] at h
 split at h
 ·cases h
 rename_i h3
 rw [cond_eq_ite] at h
 split at h
 ·cases h
 rename_i h4
 rw [cond_eq_ite] at h
 split at h
 ·cases h
 rename_i h5
 rw [cond_eq_ite] at h
 split at h
 ·rename_i h6; simp at h6; exact absurd h h6
 rename_i h6
 rw [cond_eq_ite] at h
 split at h
 ·cases h
 rename_i h7
 simp only [Bool.or_eq_true, not_or, Bool.not_eq_true] at h4;obtain ⟨⟨⟨a1, a2⟩, a3⟩, a4⟩ := h4;refine ⟨by rw [qd8]; simpa using h1, ?_, by simpa using h3, qh9.1 a1, qh9.1 a2, qh9.1 a3, qh9.1 a4, by simpa using h5, q2s (by simpa using h6), qh9.1 (by simpa using h7)⟩
 by_cases hA : l.Kind = (⟨#[65]⟩ : ByteArray)
 ·exact .inl hA
 ·by_cases hD : l.Kind = (⟨#[68]⟩ : ByteArray)
  ·exact .inr (.inl hD)
  ·by_cases hT : l.Kind = (⟨#[84]⟩ : ByteArray)
   ·exact .inr (.inr hT)
   ·simp [hA, hD, hT] at h2
structure ReqV (r : S115) : Prop where
 ok : RqOk r
 ne : (s69 r.Period).1 ≠ []
structure LeaseV (s : S5100) (l : S5102) : Prop where
 c : s147 l.Carrier = true
 f : 0 ≤ l.fFrom ∧ l.fFrom ≤ 99999
 t : 0 ≤ l.fTo ∧ l.fTo ≤ 99999
 o : l.fFrom ≤ l.fTo
 i : s.Request.Period.fFrom ≤ l.fFrom ∧ l.fTo ≤ s.Request.Period.fTo
 h : ¬ l.Carrier = s.Holder
structure SlotV (s : S5100) : Prop where
 rq : ReqV s.Request
 ho : s147 s.Holder = true
 ln : s.Leases.length ≤ 8
 ls : ∀ l ∈ s.Leases, LeaseV s l
 lp : s.Leases.Pairwise fun a b => a.fTo < b.fFrom
 sn : s.Shares.length ≤ 4
 ss : ∀ c ∈ s.Shares, s147 c = true ∧ ¬ c = s.Holder
 sd : s.Shares.Nodup
structure WishV (w : S5072) : Prop where
 rq : ReqV w.Request
 ra : 0 ≤ w.Rank ∧ w.Rank ≤ 999999999
def qra (a b : S5072) : Prop := a.Rank < b.Rank ∨ (a.Rank = b.Rank ∧ qa9 a.Request.Name b.Request.Name = true)
def qer (l : List S5100) : List ByteArray := l.map fun x => x.Request.Name
def qk3 (l : List S5072) : List ByteArray := l.map fun x => x.Request.Name
structure BookV (b : S5042) : Prop where
 sl : b.Slots.length ≤ 64
 wl : b.Waiting.length ≤ 64
 s : ∀ x ∈ b.Slots, SlotV x
 w : ∀ x ∈ b.Waiting, WishV x
 nd : (qer b.Slots ++ qk3 b.Waiting).Nodup
 or : b.Waiting.Pairwise qra
theorem xb {b : Bool} {e : Int} (he : e ≠ 0) : jg b e = 0 ↔ b = false := by unfold jg; cases b <;> simp [he]
theorem qfl {s : ByteArray} : qbb s = 0 ↔ s147 s = true := by unfold qbb; rw [xb (by decide)]; simp
theorem qmz {n a b : Int} : qqm n a b = 0 ↔ a ≤ n ∧ n ≤ b := by unfold qqm; rw [xb (by decide)]; simp
theorem qm0 {n : Int} : qlp n = 0 ↔ 0 ≤ n ∧ n ≤ 99999 := by unfold qlp; exact qmz
theorem qi4 {s : ByteArray} : qlq s = 0 ↔ s147 s = true := by unfold qlq qi5; cases s147 s <;> simp
theorem q00 {r : S115} (h : RqOk r) : qqn r = 0 := by
 unfold qqn;refine (qu7 _).2 fun x hx => ?_;simp only [List.mem_cons, List.not_mem_nil, or_false] at hx
 rcases hx with rfl | rfl | rfl | rfl | rfl | rfl | rfl | rfl | rfl | rfl | rfl | rfl
 ·exact qi4.2 h.n
 ·exact qi4.2 h.c
 ·exact qi4.2 h.p
 ·exact q2t h.t
 ·exact q2t h.l
 ·have : qqo r.Kind = true := by unfold qqo; rcases h.k with e | e <;> simp [e]
  rw [this]; rfl
 ·rw [decide_eq_false h.lk]; rfl
 ·exact h.per
 ·exact qfq.2 h.m
 ·exact qfq.2 h.s
 ·exact qfq.2 h.z
 ·exact qfq.2 h.no
theorem qte {r : S115} (h : ReqV r) : qec r = 0 := by
 unfold qec;rw [q00 h.ok, decide_eq_false (by simp), cond_false];refine ke.2 fun x hx => ?_;simp only [List.mem_cons, List.not_mem_nil, or_false] at hx;unfold qf1 at hx
 rcases hx with rfl | rfl
 ·rw [qk5 h.ok.per]
 ·refine (xb (by decide)).2 (decide_eq_false ?_);have := List.length_pos_iff.2 h.ne;show ¬ ((List.length (s69 r.Period).1 : Int) = 0)
  omega
theorem qwf {r : S115} (h : RqOk r) : qbz r = 0 := by
 unfold qbz;refine jx.2 fun x hx => ?_;simp only [List.mem_cons, List.not_mem_nil, or_false] at hx
 rcases hx with rfl | rfl | rfl | rfl | rfl | rfl
 ·rw [h.n]; rfl
 ·exact qm1.2 h.k
 ·refine qi6.2 ?_;have ht := h.t;unfold qiq at ht;rw [qd8]
  simpa using ht
 ·exact h.per
 ·exact wn.2 h.m
 ·have := h.z; exact qm2.2 ⟨h.s, by omega, h.no⟩
theorem qds {α : Type} {l : List α} {k : Nat} {y : α} {t : List α} (h : l.drop k = y :: t) : l[k]? = some y ∧ l.drop (k + 1) = t ∧ k < l.length := by
 have h1 : k < l.length := by
  by_cases hk : k < l.length
  ·exact hk
  ·rw [List.drop_eq_nil_of_le (by omega)] at h; cases h
 rw [List.drop_eq_getElem_cons h1] at h
 injection h with h2 h3
 exact ⟨by rw [List.getElem?_eq_getElem h1, h2], h3, h1⟩
theorem qu8 {s : S5100} {l : S5102} (h : LeaseV s l) : qmc l = 0 ∧ qmd l s = 0 := by
 constructor
 ·unfold qmc;refine ke.2 fun x hx => ?_;simp only [List.mem_cons, List.not_mem_nil, or_false] at hx
  rcases hx with rfl | rfl | rfl | rfl
  ·exact qfl.2 h.c
  ·exact qm0.2 h.f
  ·exact qm0.2 h.t
  ·exact (xb (by decide)).2 (decide_eq_false (by have := h.o; omega))
 ·unfold qmd;refine ke.2 fun x hx => ?_;simp only [List.mem_cons, List.not_mem_nil, or_false] at hx
  rcases hx with rfl | rfl
  ·refine (xb (by decide)).2 ?_;have := h.i;rw [decide_eq_false (by omega), decide_eq_false (by omega)]; rfl
  ·exact (xb (by decide)).2 (decide_eq_false h.h)
theorem qxy (a : ByteArray) : ∀ (l : List ByteArray) (k : Nat), 0 ≤ qed a l k ↔ a ∈ l
 | [], k => by rw [qed]; simp
 | y :: t, k => by
  rw [qed]
  by_cases h : a = y
  ·subst h; simp
  ·rw [decide_eq_false h, cond_false, qxy a t]; simp [h]
theorem q73 (l : List ByteArray) (a : ByteArray) : s88 l a = true ↔ a ∈ l := by
 unfold s88 s148;rw [decide_eq_true_iff]; exact qxy a l 0
theorem qlr {s : S5100} (h : SlotV s) : ∀ (t : List ByteArray) (k : Nat), s.Shares.drop k = t → qdn s t k = some 0
 | [], _, _ => rfl
 | y :: t, k, hd => by
  obtain ⟨h1, h2, h3⟩ := qds hd;have hy := h.ss y (List.mem_of_getElem? h1)
  have hn : ¬ y ∈ s.Shares.take k := by
   intro hm;obtain ⟨j, hj1, hj2⟩ := List.mem_iff_getElem.1 hm;rw [List.length_take] at hj1;rw [List.getElem_take] at hj2;have e2 := (List.getElem?_eq_some_iff.1 h1).2;have := List.pairwise_iff_getElem.1 h.sd j k (by omega) h3 (by omega);exact this (hj2.trans e2.symm)
  have hz : j7 [(qbb y), (jg (decide (y = s.Holder)) 31), (jg (s88 (List.take (Int.toNat ((k : Nat) : Int)) s.Shares) y) 9)] = 0 := ke.2 fun x hx => by
   simp only [List.mem_cons, List.not_mem_nil, or_false] at hx
   rcases hx with rfl | rfl | rfl
   ·exact qfl.2 hy.1
   ·exact (xb (by decide)).2 (decide_eq_false hy.2)
   ·rw [Int.toNat_natCast, show s88 (s.Shares.take k) y = false from Bool.eq_false_iff.2 fun e => hn ((q73 _ _).1 e)]; rfl
  rw [qdn, hz, decide_eq_false (by simp), cond_false];exact qlr h t (k + 1) h2
theorem qv1 {α : Type} {l : List α} {k : Nat} (hk : k < l.length) (hl : l.length ≤ 1000) : ∃ q, (bif decide (0 < ((k : Nat) : Int)) then ixO l (max 0 (IntKind.i64.wrap (((k : Nat) : Int) - 1))) else some q) = some q ∧ (0 < k → l[k - 1]? = some q) := by
 by_cases h : 0 < k
 ·obtain ⟨q, hq⟩ : ∃ q, l[k - 1]? = some q := ⟨_, List.getElem?_eq_getElem (by omega)⟩;refine ⟨q, ?_, fun _ => hq⟩;rw [decide_eq_true (by omega), cond_true, wrap_i64 (by unfold I64; omega)];unfold ixO;rw [show max 0 (((k : Nat) : Int) - 1) = ((k - 1 : Nat) : Int) by omega, decide_eq_true (by omega), cond_true, Int.toNat_natCast, hq]
 ·refine ⟨l[k], ?_, fun h' => absurd h' h⟩;rw [decide_eq_false (by omega), cond_false]
theorem qls {s : S5100} (h : SlotV s) : ∀ (t : List S5102) (k : Nat), s.Leases.drop k = t → qcq s t k = some 0
 | [], _, _ => by
  have := h.sn;rw [qcq, decide_eq_false (by omega), cond_false];exact qlr h _ 0 U
 | y :: t, k, hd => by
  obtain ⟨h1, h2, h3⟩ := qds hd;obtain ⟨g1, g2⟩ := qu8 (h.ls y (List.mem_of_getElem? h1));have hln := h.ln
  have key : ∃ q, (bif decide (0 < ((k : Nat) : Int)) then ixO s.Leases (max 0 (IntKind.i64.wrap (((k : Nat) : Int) - 1))) else some default) = some q ∧ (0 < k → s.Leases[k - 1]? = some q) := by
   by_cases hk : 0 < k
   ·obtain ⟨q, q1, q2⟩ := qv1 h3 (by omega);rw [decide_eq_true (by omega), cond_true] at q1 ⊢;exact ⟨q, q1, q2⟩
   ·rw [decide_eq_false (by omega), cond_false];exact ⟨default, U, fun h' => absurd h' hk⟩
  obtain ⟨q, q1, q2⟩ := key
  have hc : (decide (0 < ((k : Nat) : Int)) && decide (y.fFrom ≤ q.fTo)) = false := by
   by_cases hk : 0 < k
   ·have e1 := List.getElem?_eq_some_iff.1 (q2 hk);have e2 := List.getElem?_eq_some_iff.1 h1;obtain ⟨e1, e1'⟩ := e1;obtain ⟨e2, e2'⟩ := e2;have := List.pairwise_iff_getElem.1 h.lp (k - 1) k e1 e2 (by omega);rw [e1', e2'] at this;rw [decide_eq_false (show ¬ y.fFrom ≤ q.fTo by omega), Bool.and_false]
   ·rw [decide_eq_false (by omega), Bool.false_and]
  have hz : j7 [(qmc y), (qmd y s), (jg ((decide (0 < ((k : Nat) : Int))) && (decide (y.fFrom ≤ q.fTo))) 15)] = 0 := ke.2 fun x hx => by
   simp only [List.mem_cons, List.not_mem_nil, or_false] at hx
   rcases hx with rfl | rfl | rfl
   ·exact g1
   ·exact g2
   ·rw [hc]; rfl
  rw [qcq, q1];simp only [qz];rw [hz, decide_eq_false (by simp), cond_false];exact qls h t (k + 1) h2
theorem qv3 {s : S5100} (h : SlotV s) : qxz s = some 0 := by
 have hln := h.ln
 have hz : j7 [(qec s.Request), (qbb s.Holder), (jg (decide (8 < (List.length s.Leases : Int))) 5)] = 0 := ke.2 fun x hx => by
  simp only [List.mem_cons, List.not_mem_nil, or_false] at hx
  rcases hx with rfl | rfl | rfl
  ·exact qte h.rq
  ·exact qfl.2 h.ho
  ·exact (xb (by decide)).2 (decide_eq_false (by omega))
 unfold qxz;rw [hz, decide_eq_false (by simp), cond_false];exact qls h _ 0 U
theorem qv2 {w : S5072} (h : WishV w) : ql8 w = 0 := by
 unfold ql8;refine ke.2 fun x hx => ?_;simp only [List.mem_cons, List.not_mem_nil, or_false] at hx
 rcases hx with rfl | rfl
 ·exact qte h.rq
 ·exact qmz.2 h.ra
theorem qu9 {K V : Type} [DecidableEq K] (m : List (K × V)) (k j : K) (v : V) : mget (mset m k v) j = if k = j then some v else mget m j := by
 induction m with
 | nil => by_cases h : k = j <;> simp [mset, mget, h]
 | cons p m ih =>
  obtain ⟨a, b⟩ := p
  by_cases ha : a = k
  ·subst ha
   by_cases h : a = j <;> simp [mset, mget, h]
  ·by_cases h : a = j
   ·subst h;have hk : ¬ k = a := fun h => ha h.symm
    simp [mset, mget, ha, hk]
   ·simp [mset, mget, ha, h, ih]
theorem qrc {K V : Type} [DecidableEq K] (m : List (K × V)) (k j : K) (v z : V) : vj (mset m k v) j z = if k = j then v else vj m j z := by
 unfold vj;rw [qu9]
 by_cases h : k = j <;> simp [h]
theorem qwt {n : Nat} (h : ¬ j7 [jg (decide ((n : Int) < 2)) 16, jg (decide (8 < (n : Int))) 5] ≠ 0) : 2 ≤ n ∧ n ≤ 8 := by
 have h1 := ke.1 (Decidable.not_not.1 h);have h2 := of_decide_eq_false ((xb (by decide)).1 (h1 (jg (decide ((n : Int) < 2)) 16) (by simp)));have h3 := of_decide_eq_false ((xb (by decide)).1 (h1 (jg (decide (8 < (n : Int))) 5) (by simp)))
 omega
def qwp (a0 : S5042) (a1 : ByteArray) (a2 : ByteArray) : Option (S5042 × Int) :=
 (bif decide ((j7 [(xq a0 a1), (xq a0 a2), (jg (decide (a1 = a2)) 9)]) ≠ 0) then some ((S5042.mk [] []), (j7 [(xq a0 a1), (xq a0 a2), (jg (decide (a1 = a2)) 9)])) else qz (quj a0 [a1, a2]) fun r1 => some (r1.1, r1.2))
theorem zb2 {g : GL} (a0 : S5042) (a1 : ByteArray) (a2 : ByteArray) {R : S5042 × Int}  (hb : a0.Slots.length ≤ 1000000) (hb1 : a0.Waiting.length ≤ 1000000) (hR : qwp a0 a1 a2 = some R) : Con (EG g) 54 [G.agg [G.sl 16 (List.map S5100.c a0.Slots), G.sl 14 (List.map S5072.c a0.Waiting)], G.str a1, G.str a2] (G.tup [G.agg [G.sl 16 (List.map S5100.c R.1.Slots), G.sl 14 (List.map S5072.c R.1.Waiting)], G.int R.2]) := by
 unfold qwp at hR;refine qm Tryz.func54 U U fun w0 M0 => ?_;refine qb<|qa [.p, .w, .p]<|su (zg U U) U<|sw (zh 6 U xg U U) U<|sa U U<|qc<|qb<|qb<|zt [.p, .p, .p, .p, .p, .p, .p, .p, .p, .p, .p, .p, .p] (by kernel_rfl)<|su (qp U zi U U U) U<|sm U U<|su (qf U qx0 U (qx1 a0 a1) (qe U (qe U qj))) U<|su (qp U zi U U U) U<|sm U U<|su (qf U qx0 U (qx1 a0 a2) (qe U (qe U qj))) U<|sm U U<|sm U U<|su (ky U U U) U<|su (qf U qdc U (qdd (decide (a1 = a2)) 9) (qe U (qe U qj))) U ?_;refine su (qt U Tryz.underlying170 ty37 z37 U (qv U (qv U (qv U jh))) U (by simp []) (by decide)) U ?_;refine su (qf U qe5 U (qe6 [(xq a0 a1), (xq a0 a2), (jg (decide (a1 = a2)) 9)]) (qe U qj)) U<|sa U U<|qc<|qb<|qa [.p, .p]<|sm U U<|su (zx U U U) U<|qc ?_;refine ql _ U (fun h1 => ?_) (fun h1 => ?_)
 ·replace h1 : (decide ((j7 [(xq a0 a1), (xq a0 a2), (jg (decide (a1 = a2)) 9)]) ≠ 0)) = true := h1;replace hR := zm hR h1;(try simp only [bB] at h1);refine qb<|qa [.p, .p, .w, .p]<|su (jc U xg U qa8 kx U) U<|sm U U<|z7 U U (qw (tv := .g (G.agg [G.lit (.slice none 0 0), G.lit (.slice none 0 0)])) U zi U U U U U)<|sa U U<|qc<|qo ?_;obtain rfl := Option.some.inj hR;exact resN U ⟨qf4 (kr U U zi U U) (qaj ⟨jz _, jz _, O⟩), rv_g U, O⟩ (by simp)
 ·replace h1 : (decide ((j7 [(xq a0 a1), (xq a0 a2), (jg (decide (a1 = a2)) 9)]) ≠ 0)) = false := h1;replace hR := zn hR h1;(try simp only [bB] at h1);refine qn<|qb ?_;obtain ⟨r1, br1, hR⟩ := qi hR;refine qa [.p, .p, .p, .p, .p, .p, .p, .w, .p]<|su (qp U zi U U U) U<|sm U U<|sm U U ?_;refine su (qt U Tryz.underlying35 ty9 z9 U (qv U (qv U jh)) U (by simp []) (by decide)) U ?_;refine su (qf rfl q74 rfl (q75 a0 [a1, a2] (by first | assumption | omega | (simp [qh]; done) | (simp [qh]; omega)) (by first | assumption | omega | (simp [qh]; done) | (simp [qh]; omega)) (by first | assumption | omega | (simp [qh]; done) | (simp [qh]; omega)) br1) (qe rfl (qe rfl qj))) rfl<|su (qu rfl rfl rfl) rfl<|su (qu rfl rfl rfl) rfl<|z7 rfl rfl (qw (tv := .g (G.agg [G.sl 16 (List.map S5100.c r1.1.Slots), G.sl 14 (List.map S5072.c r1.1.Waiting)])) rfl zi rfl rfl rfl rfl rfl)<|sa rfl rfl<|qc<|qo ?_;obtain rfl := Option.some.inj hR;exact resN U ⟨kr U U zi U U, rv_g U, O⟩ (by simp)
def qco (a0 : S5042) (a1 : List ByteArray) : List ByteArray → Nat → Option (S5042 × Int)
 | [], k2 => qz (quj a0 a1) fun r5 => some (r5.1, r5.2)
 | y3 :: t4, k2 => (bif decide ((j7 [(xq a0 y3), (jg (s88 (List.take (Int.toNat ((k2 : Nat) : Int)) a1) y3) 9)]) ≠ 0) then some ((S5042.mk [] []), (j7 [(xq a0 y3), (jg (s88 (List.take (Int.toNat ((k2 : Nat) : Int)) a1) y3) 9)])) else qco a0 a1 t4 (k2 + 1))
def qws (a0 : S5042) (a1 : List ByteArray) : Option (S5042 × Int) :=
 (bif decide ((j7 [(jg (decide ((List.length a1 : Int) < 2)) 16), (jg (decide (8 < (List.length a1 : Int))) 5)]) ≠ 0) then some ((S5042.mk [] []), (j7 [(jg (decide ((List.length a1 : Int) < 2)) 16), (jg (decide (8 < (List.length a1 : Int))) 5)])) else qco a0 a1 a1 0)
theorem zb3 {g : GL} (a0 : S5042) (a1 : List ByteArray) {R : S5042 × Int}  (hb : a0.Slots.length ≤ 1000000) (hb1 : a0.Waiting.length ≤ 1000000) (hR : qws a0 a1 = some R) : Con (EG g) 55 [G.agg [G.sl 16 (List.map S5100.c a0.Slots), G.sl 14 (List.map S5072.c a0.Waiting)], G.sl 1 (List.map cStr a1)] (G.tup [G.agg [G.sl 16 (List.map S5100.c R.1.Slots), G.sl 14 (List.map S5072.c R.1.Waiting)], G.int R.2]) := by
 unfold qws at hR;refine qm Tryz.func55 U U fun w0 M0 => ?_;refine zp (f := cStr) (l := a1) 1 U fun hla1 => ?_;refine qb<|qa [.p, .w, .p]<|su (zg U U) U<|sw (zh 4 U xg U U) U<|sa U U<|qc<|qb<|qb<|qa [.p, .p, .p, .p, .p, .p, .p, .p, .p, .p, .p]<|sm U U<|su (qy (f := cStr) (l := a1) U Tryz.underlying35 U) U<|su (ze U U U) U<|su (qf U qdc U (qdd (decide ((List.length a1 : Int) < 2)) 16) (qe U (qe U qj))) U<|sm U U<|su (qy (f := cStr) (l := a1) U Tryz.underlying35 U) U<|su (z6 U U U) U<|su (qf U qdc U (qdd (decide (8 < (List.length a1 : Int))) 5) (qe U (qe U qj))) U ?_;refine su (qt U Tryz.underlying170 ty37 z37 U (qv U (qv U jh)) U (by simp []) (by decide)) U ?_;refine su (qf U qe5 U (qe6 [(jg (decide ((List.length a1 : Int) < 2)) 16), (jg (decide (8 < (List.length a1 : Int))) 5)]) (qe U qj)) U<|sa U U<|qc<|qb<|qa [.p, .p]<|sm U U<|su (zx U U U) U<|qc ?_;refine ql _ U (fun h1 => ?_) (fun h1 => ?_)
 ·replace h1 : (decide ((j7 [(jg (decide ((List.length a1 : Int) < 2)) 16), (jg (decide (8 < (List.length a1 : Int))) 5)]) ≠ 0)) = true := h1;replace hR := zm hR h1;(try simp only [bB] at h1);refine qb<|qa [.p, .p, .w, .p]<|su (jc U xg U qa8 kx U) U<|sm U U<|z7 U U (qw (tv := .g (G.agg [G.lit (.slice none 0 0), G.lit (.slice none 0 0)])) U zi U U U U U)<|sa U U<|qc<|qo ?_;obtain rfl := Option.some.inj hR;exact resN U ⟨qf4 (kr U U zi U U) (qaj ⟨jz _, jz _, O⟩), rv_g U, O⟩ (by simp)
 ·replace h1 : (decide ((j7 [(jg (decide ((List.length a1 : Int) < 2)) 16), (jg (decide (8 < (List.length a1 : Int))) 5)]) ≠ 0)) = false := h1;replace hR := zn hR h1;(try simp only [bB] at h1);obtain ⟨_, hb2⟩ := qwt h1;refine qn<|qb<|qb<|qa [.p, .p, .p]<|sm U U<|su (qy (f := cStr) (l := a1) U Tryz.underlying35 U) U<|sm U U<|qc<|qq<|za (γ := Nat × (List ByteArray)) (fun g => ([(1, .g (G.sl 1 (List.map cStr a1))), (2, .g (G.ref [G.sl 16 (List.map S5100.c a0.Slots), G.sl 14 (List.map S5072.c a0.Waiting)])), (4, .ptr 4 0), (24, .g (G.sl 1 (List.map cStr a1))), (25, .g (G.int (List.length a1 : Int))), (26, .g (G.int ((g.1 : Nat) : Int)))], [(4, .box [.g (G.lit (.slice none 0 0)), .g (G.lit (.slice none 0 0))])])) (fun g => a1.drop g.1 = g.2 ∧ qco a0 a1 g.2 g.1 = some R) (fun g => List.length g.2) ⟨U, (0, a1), jA, ⟨U, O⟩, U, ⟨U, (by exact hR)⟩, O⟩ ?_
  ·rintro ⟨k2, t4⟩ ⟨hd, hR⟩;replace hd : a1.drop k2 = t4 := hd;replace hR : qco a0 a1 t4 k2 = some R := hR;refine qb<|qa [.p]<|su (ze U U U) U<|qc ?_;refine zp (f := cStr) (l := a1) 1 U fun hlz1 => ?_;refine qb ?_;refine ql _ U (fun h2 => ?_) (fun h2 => ?_)
   ·replace h2 : (decide (((k2 : Nat) : Int) < (List.length a1 : Int))) = true := h2;obtain ⟨y3, t4, rfl, hx1, hd⟩ := zq hd (decT h2);replace h2 := decT h2;rw [qco] at hR;(try dsimp only at hR);refine qn<|qb<|qq<|qb<|qa [.p, .p, .p, .p, .p]<|sm U U<|su (z4 (f := cStr) (l := a1) (a := y3) U Tryz.underlying35 ty9 U U (Int.natCast_nonneg _) hx1) U<|su (qg U ty9 U) U<|sa U U<|sa U U<|qc<|qb<|zt [.p, .p, .p, .p, .p, .p, .p, .p, .p, .p, .p, .p] (by kernel_rfl)<|su (qp U zi U U U) U<|sm U U<|su (qf U qx0 U (qx1 a0 y3) (qe U (qe U qj))) U<|sm U U<|sm U U<|su (qeq (f := cStr) (l := a1) U Tryz.underlying35 ty9 U qbi (qbj U (Int.natCast_nonneg _)) (Nat.zero_le _) (qkz hx1)) U<|sm U U<|su (qf U K88 U (c88 (List.take (Int.toNat ((k2 : Nat) : Int)) a1) y3) (qe U (qe U qj))) U<|su (qf U qdc U (qdd (s88 (List.take (Int.toNat ((k2 : Nat) : Int)) a1) y3) 9) (qe U (qe U qj))) U ?_;refine su (qt U Tryz.underlying170 ty37 z37 U (qv U (qv U jh)) U (by simp []) (by decide)) U ?_;refine su (qf U qe5 U (qe6 [(xq a0 y3), (jg (s88 (List.take (Int.toNat ((k2 : Nat) : Int)) a1) y3) 9)]) (qe U qj)) U<|sa U U<|qc<|qb<|qa [.p, .p]<|sm U U<|su (zx U U U) U<|qc ?_;refine ql _ U (fun h4 => ?_) (fun h4 => ?_)
    ·replace h4 : (decide ((j7 [(xq a0 y3), (jg (s88 (List.take (Int.toNat ((k2 : Nat) : Int)) a1) y3) 9)]) ≠ 0)) = true := h4;replace hR := zm hR h4;(try simp only [bB] at h4);refine qb<|qa [.p, .p, .w, .p]<|su (jc U xg U qa8 kx U) U<|sm U U<|z7 U U (qw (tv := .g (G.agg [G.lit (.slice none 0 0), G.lit (.slice none 0 0)])) U zi U U U U U)<|sa U U<|qc<|qo ?_;obtain rfl := Option.some.inj hR;exact resN U ⟨qf4 (kr U U zi U U) (qaj ⟨jz _, jz _, O⟩), rv_g U, O⟩ (by simp)
    ·replace h4 : (decide ((j7 [(xq a0 y3), (jg (s88 (List.take (Int.toNat ((k2 : Nat) : Int)) a1) y3) 9)]) ≠ 0)) = false := h4;replace hR := zn hR h4;(try simp only [bB] at h4);refine qn<|qa [.p, .p]<|su (zl U U U iE) U<|sm U U<|qc ?_;exact ⟨U, (k2 + 1, t4), jA, ⟨U, O⟩, U, ⟨hd, hR⟩, by simp⟩
   ·replace h2 : (decide (((k2 : Nat) : Int) < (List.length a1 : Int))) = false := h2;obtain rfl := zu hd (decF h2);rw [qco] at hR;refine zr<|qb ?_;obtain ⟨r5, br5, hR⟩ := qi hR;refine qa [.p, .p, .p, .p, .p, .w, .p]<|su (qp rfl zi rfl rfl rfl) rfl<|sm rfl rfl<|su (qf rfl q74 rfl (q75 a0 a1 (by first | assumption | omega | (simp [qh]; done) | (simp [qh]; omega)) (by first | assumption | omega | (simp [qh]; done) | (simp [qh]; omega)) (by first | assumption | omega | (simp [qh]; done) | (simp [qh]; omega)) br5) (qe rfl (qe rfl qj))) rfl<|su (qu rfl rfl rfl) rfl<|su (qu rfl rfl rfl) rfl<|z7 rfl rfl (qw (tv := .g (G.agg [G.sl 16 (List.map S5100.c r5.1.Slots), G.sl 14 (List.map S5072.c r5.1.Waiting)])) rfl zi rfl rfl rfl rfl rfl)<|sa rfl rfl<|qc<|qo ?_;obtain rfl := Option.some.inj hR;exact resN U ⟨kr U U zi U U, rv_g U, O⟩ (by simp)
def qwu (a0 : S5042) (a1 : ByteArray) (a2 : ByteArray) : Option (S5042 × Int) :=
 qz (qjy a0) fun r1 => (bif decide (r1 ≠ 0) then some ((S5042.mk [] []), r1) else qz (qwp a0 a1 a2) fun r2 => some (r2.1, r2.2))
theorem zb4 {g : GL} (a0 : S5042) (a1 : ByteArray) (a2 : ByteArray) {R : S5042 × Int}  (hb : a0.Slots.length ≤ 1000000) (hb1 : a0.Waiting.length ≤ 1000000) (hR : qwu a0 a1 a2 = some R) : Con (EG g) 23 [G.agg [G.sl 16 (List.map S5100.c a0.Slots), G.sl 14 (List.map S5072.c a0.Waiting)], G.str a1, G.str a2] (G.tup [G.agg [G.sl 16 (List.map S5100.c R.1.Slots), G.sl 14 (List.map S5072.c R.1.Waiting)], G.int R.2]) := by
 unfold qwu at hR;refine qm Tryz.func23 U U fun w0 M0 => ?_;refine qb<|qa [.p, .w, .p]<|su (zg U U) U<|sw (zh 6 U xg U U) U<|sa U U<|qc<|qb<|qb ?_;obtain ⟨r1, br1, hR⟩ := qi hR;refine qa [.p, .p, .p]<|su (qp U zi U U U) U<|su (qf U qq8 U (qq9 a0 br1) (qe U qj)) U<|sa U U<|qc<|qb<|qa [.p, .p]<|sm U U<|su (zx U U U) U<|qc ?_;refine ql _ U (fun h1 => ?_) (fun h1 => ?_)
 ·replace h1 : (decide (r1 ≠ 0)) = true := h1;replace hR := zm hR h1;(try simp only [bB] at h1);refine qb<|qa [.p, .p, .w, .p]<|su (jc U xg U qa8 kx U) U<|sm U U<|z7 U U (qw (tv := .g (G.agg [G.lit (.slice none 0 0), G.lit (.slice none 0 0)])) U zi U U U U U)<|sa U U<|qc<|qo ?_;obtain rfl := Option.some.inj hR;exact resN U ⟨qf4 (kr U U zi U U) (qaj ⟨jz _, jz _, O⟩), rv_g U, O⟩ (by simp)
 ·replace h1 : (decide (r1 ≠ 0)) = false := h1;replace hR := zn hR h1;(try simp only [bB] at h1);refine qn<|qb ?_;obtain ⟨r2, br2, hR⟩ := qi hR;refine qa [.p, .p, .p, .p, .p, .p, .w, .p]<|su (qp rfl zi rfl rfl rfl) rfl<|sm rfl rfl<|sm rfl rfl<|su (qf rfl zb5 rfl (zb2 a0 a1 a2 (by first | assumption | omega | (simp [qh]; done) | (simp [qh]; omega)) (by first | assumption | omega | (simp [qh]; done) | (simp [qh]; omega)) br2) (qe rfl (qe rfl (qe rfl qj)))) rfl<|su (qu rfl rfl rfl) rfl<|su (qu rfl rfl rfl) rfl<|z7 rfl rfl (qw (tv := .g (G.agg [G.sl 16 (List.map S5100.c r2.1.Slots), G.sl 14 (List.map S5072.c r2.1.Waiting)])) rfl zi rfl rfl rfl rfl rfl)<|sa rfl rfl<|qc<|qo ?_;obtain rfl := Option.some.inj hR;exact resN U ⟨kr U U zi U U, rv_g U, O⟩ (by simp)
def qwv (a0 : S5042) (a1 : List ByteArray) : Option (S5042 × Int) :=
 qz (qjy a0) fun r1 => (bif decide (r1 ≠ 0) then some ((S5042.mk [] []), r1) else qz (qws a0 a1) fun r2 => some (r2.1, r2.2))
theorem zb6 {g : GL} (a0 : S5042) (a1 : List ByteArray) {R : S5042 × Int}  (hb : a0.Slots.length ≤ 1000000) (hb1 : a0.Waiting.length ≤ 1000000) (hR : qwv a0 a1 = some R) : Con (EG g) 24 [G.agg [G.sl 16 (List.map S5100.c a0.Slots), G.sl 14 (List.map S5072.c a0.Waiting)], G.sl 1 (List.map cStr a1)] (G.tup [G.agg [G.sl 16 (List.map S5100.c R.1.Slots), G.sl 14 (List.map S5072.c R.1.Waiting)], G.int R.2]) := by
 unfold qwv at hR;refine qm Tryz.func24 U U fun w0 M0 => ?_;refine zp (f := cStr) (l := a1) 1 U fun hla1 => ?_;refine qb<|qa [.p, .w, .p]<|su (zg U U) U<|sw (zh 4 U xg U U) U<|sa U U<|qc<|qb<|qb ?_;obtain ⟨r1, br1, hR⟩ := qi hR;refine qa [.p, .p, .p]<|su (qp U zi U U U) U<|su (qf U qq8 U (qq9 a0 br1) (qe U qj)) U<|sa U U<|qc<|qb<|qa [.p, .p]<|sm U U<|su (zx U U U) U<|qc ?_;refine ql _ U (fun h1 => ?_) (fun h1 => ?_)
 ·replace h1 : (decide (r1 ≠ 0)) = true := h1;replace hR := zm hR h1;(try simp only [bB] at h1);refine qb<|qa [.p, .p, .w, .p]<|su (jc U xg U qa8 kx U) U<|sm U U<|z7 U U (qw (tv := .g (G.agg [G.lit (.slice none 0 0), G.lit (.slice none 0 0)])) U zi U U U U U)<|sa U U<|qc<|qo ?_;obtain rfl := Option.some.inj hR;exact resN U ⟨qf4 (kr U U zi U U) (qaj ⟨jz _, jz _, O⟩), rv_g U, O⟩ (by simp)
 ·replace h1 : (decide (r1 ≠ 0)) = false := h1;replace hR := zn hR h1;(try simp only [bB] at h1);refine qn<|qb ?_;obtain ⟨r2, br2, hR⟩ := qi hR;refine qa [.p, .p, .p, .p, .p, .w, .p]<|su (qp rfl zi rfl rfl rfl) rfl<|sm rfl rfl<|su (qf rfl zb7 rfl (zb3 a0 a1 (by first | assumption | omega | (simp [qh]; done) | (simp [qh]; omega)) (by first | assumption | omega | (simp [qh]; done) | (simp [qh]; omega)) br2) (qe rfl (qe rfl qj))) rfl<|su (qu rfl rfl rfl) rfl<|su (qu rfl rfl rfl) rfl<|z7 rfl rfl (qw (tv := .g (G.agg [G.sl 16 (List.map S5100.c r2.1.Slots), G.sl 14 (List.map S5072.c r2.1.Waiting)])) rfl zi rfl rfl rfl rfl rfl)<|sa rfl rfl<|qc<|qo ?_;obtain rfl := Option.some.inj hR;exact resN U ⟨kr U U zi U U, rv_g U, O⟩ (by simp)
def qwy (a0 : S5042) (a1 : ByteArray) (a2 : ByteArray) (a3 : ByteArray) : Option (S5042 × Int) :=
 qz (qjy a0) fun r1 => (bif decide (r1 ≠ 0) then some ((S5042.mk [] []), r1) else qz (qwx a0 a1 a2 a3) fun r2 => some (r2.1, r2.2))
theorem zb8 {g : GL} (a0 : S5042) (a1 : ByteArray) (a2 : ByteArray) (a3 : ByteArray) {R : S5042 × Int}  (hb : a0.Slots.length ≤ 1000000) (hb1 : a0.Waiting.length ≤ 1000000) (hR : qwy a0 a1 a2 a3 = some R) : Con (EG g) 26 [G.agg [G.sl 16 (List.map S5100.c a0.Slots), G.sl 14 (List.map S5072.c a0.Waiting)], G.str a1, G.str a2, G.str a3] (G.tup [G.agg [G.sl 16 (List.map S5100.c R.1.Slots), G.sl 14 (List.map S5072.c R.1.Waiting)], G.int R.2]) := by
 unfold qwy at hR;refine qm Tryz.func26 U U fun w0 M0 => ?_;refine qb<|qa [.p, .w, .p]<|su (zg U U) U<|sw (zh 8 U xg U U) U<|sa U U<|qc<|qb<|qb ?_;obtain ⟨r1, br1, hR⟩ := qi hR;refine qa [.p, .p, .p]<|su (qp U zi U U U) U<|su (qf U qq8 U (qq9 a0 br1) (qe U qj)) U<|sa U U<|qc<|qb<|qa [.p, .p]<|sm U U<|su (zx U U U) U<|qc ?_;refine ql _ U (fun h1 => ?_) (fun h1 => ?_)
 ·replace h1 : (decide (r1 ≠ 0)) = true := h1;replace hR := zm hR h1;(try simp only [bB] at h1);refine qb<|qa [.p, .p, .w, .p]<|su (jc U xg U qa8 kx U) U<|sm U U<|z7 U U (qw (tv := .g (G.agg [G.lit (.slice none 0 0), G.lit (.slice none 0 0)])) U zi U U U U U)<|sa U U<|qc<|qo ?_;obtain rfl := Option.some.inj hR;exact resN U ⟨qf4 (kr U U zi U U) (qaj ⟨jz _, jz _, O⟩), rv_g U, O⟩ (by simp)
 ·replace h1 : (decide (r1 ≠ 0)) = false := h1;replace hR := zn hR h1;(try simp only [bB] at h1);refine qn<|qb ?_;obtain ⟨r2, br2, hR⟩ := qi hR;refine qa [.p, .p, .p, .p, .p, .p, .p, .w, .p]<|su (qp U zi U U U) U<|sm U U<|sm U U<|sm U U<|su (qf U zb9 U (zca a0 a1 a2 a3 hb hb1 br2) (qe U (qe U (qe U (qe U qj))))) U<|su (qu U U U) U<|su (qu U U U) U<|z7 U U (qw (tv := .g (G.agg [G.sl 16 (List.map S5100.c r2.1.Slots), G.sl 14 (List.map S5072.c r2.1.Waiting)])) U zi U U U U U)<|sa U U<|qc<|qo ?_;obtain rfl := Option.some.inj hR;exact resN U ⟨kr U U zi U U, rv_g U, O⟩ (by simp)
def qww (a0 : S5042) (a1 : ByteArray) : Option (ByteArray × Int) :=
 qz (qjy a0) fun r1 => (bif decide ((j7 [r1, (xq a0 a1)]) ≠ 0) then some (⟨#[]⟩, (j7 [r1, (xq a0 a1)])) else qz (ixO a0.Slots (xz a0 a1)) fun y2 => some (y2.Holder, 0))
theorem zcb {g : GL} (a0 : S5042) (a1 : ByteArray) {R : ByteArray × Int}   (hR : qww a0 a1 = some R) : Con (EG g) 25 [G.agg [G.sl 16 (List.map S5100.c a0.Slots), G.sl 14 (List.map S5072.c a0.Waiting)], G.str a1] (G.tup [G.str R.1, G.int R.2]) := by
 unfold qww at hR;refine qm Tryz.func25 U U fun w0 M0 => ?_;refine qb<|qa [.p, .p, .p]<|su (zg U U) U<|sa U U<|sa U U<|qc<|qb<|qb ?_;obtain ⟨r1, br1, hR⟩ := qi hR;refine zt [.p, .p, .p, .p, .p, .p, .p, .p] (by kernel_rfl)<|su (qp U zi U U U) U<|su (qf U qq8 U (qq9 a0 br1) (qe U qj)) U<|su (qp U zi U U U) U<|sm U U<|su (qf U qx0 U (qx1 a0 a1) (qe U (qe U qj))) U ?_;refine su (qt U Tryz.underlying170 ty37 z37 U (qv U (qv U jh)) U (by simp []) (by decide)) U ?_;refine su (qf U qe5 U (qe6 [r1, (xq a0 a1)]) (qe U qj)) U<|sa U U<|qc<|qb<|qa [.p, .p]<|sm U U<|su (zx U U U) U<|qc ?_;refine ql _ U (fun h1 => ?_) (fun h1 => ?_)
 ·replace h1 : (decide ((j7 [r1, (xq a0 a1)]) ≠ 0)) = true := h1;replace hR := zm hR h1;(try simp only [bB] at h1);refine qb<|qa [.p, .p, .p]<|sm U U<|sa U U<|sa U U<|qc<|qo ?_;obtain rfl := Option.some.inj hR;exact resN U ⟨rv_g U, rv_g U, O⟩ (by simp)
 ·replace h1 : (decide ((j7 [r1, (xq a0 a1)]) ≠ 0)) = false := h1;replace hR := zn hR h1;(try simp only [bB] at h1);refine qn<|qb ?_;obtain ⟨y2, by2, hR⟩ := qi hR;refine zt [.p, .p, .p, .p, .p, .p, .p, .p, .p, .p] (by kernel_rfl)<|su (qd U xe U) U<|su (qg U qbt U) U<|su (qp U zi U U U) U<|sm U U<|su (qf U qry U (qrz a0 a1) (qe U (qe U qj))) U<|su (z4 (f := S5100.c) (l := a0.Slots) (a := y2) U Tryz.underlying40 ko U U (jl by2) (zk by2)) U<|su (qd U qcr U) U<|su (qg U ty9 U) U<|sa U U<|sa U U<|qc<|qo ?_;obtain rfl := Option.some.inj hR;exact resN U ⟨rv_g U, rv_g U, O⟩ (by simp)
def qr0 (a0 : List S2062) (a1 : List S1079) (a2 : S115) (a3 : Int) (a4 : Int) : Option Int :=
 qz (qi7 a0 a1) fun r1 => some (vo [r1, (qbz a2), (xl a3 0 1439), (xl a4 0 1439), (xa (decide (a4 < a3)) 11)])
theorem zcc {g : GL} (a0 : List S2062) (a1 : List S1079) (a2 : S115) (a3 : Int) (a4 : Int) {R : Int}  (hb : a1.length ≤ 1000) (hR : qr0 a0 a1 a2 a3 a4 = some R) : Con (EG g) 68 [G.sl 11 (List.map S2062.c a0), G.sl 7 (List.map S1079.c a1), G.agg (S115.c a2), G.int a3, G.int a4] (G.int R) := by
 unfold qr0 at hR;refine qm Tryz.func68 U U fun w0 M0 => ?_;refine zp (f := S2062.c) (l := a0) 0 U fun hla0 => ?_;refine zp (f := S1079.c) (l := a1) 1 U fun hla1 => ?_;refine qb<|qa [.p, .p]<|su (zg U U) U<|sa U U<|qc<|qb ?_;obtain ⟨r1, br1, hR⟩ := qi hR;refine zt [.p, .p, .p, .p, .p, .p, .p, .p, .p, .p, .p, .p, .p, .p, .p, .p] (by kernel_rfl)<|sm U U<|sm U U<|su (qf U q4x U (q4y a0 a1 br1) (qe U (qe U qj))) U<|su (qp U w5 U U U) U<|su (qf U q4z U (q4r a2) (qe U qj)) U<|sm U U<|su (qf U qi0 U (qiz a3 0 1439) (qe U (qe U (qe U qj)))) U<|sm U U<|su (qf U qi0 U (qiz a4 0 1439) (qe U (qe U (qe U qj)))) U<|sm U U<|sm U U<|su (z6 U U U) U<|su (qf U qj2 U (qj1 (decide (a4 < a3)) 11) (qe U (qe U qj))) U ?_;refine su (qt U Tryz.underlying170 ty37 z37 U (qv U (qv U (qv U (qv U (qv U jh))))) U (by simp []) (by decide)) U ?_;refine su (qf U qj3 U (qj0 [r1, (qbz a2), (xl a3 0 1439), (xl a4 0 1439), (xa (decide (a4 < a3)) 11)]) (qe U qj)) U<|sa U U<|qc<|qo ?_;obtain rfl := Option.some.inj hR;exact zb U (rv_g U)
theorem q01 {b : Bool} {n : Int} (hn : n ≠ 0) (h : xa b n = 0) : b = false := by
 unfold xa at h
 cases b with
 | false => rfl
 | true => exact absurd h hn
theorem q40 {a0 : List S2062} {a1 : List S1079} {a2 : S115} {a3 a4 r : Int} (hl : a1.length ≤ 1000) (h : qr0 a0 a1 a2 a3 a4 = some r) (h1 : ¬ r ≠ 0) : a0.length ≤ 32 ∧ (∀ x ∈ a0, LimOk x) ∧ MsOk a1 ∧ (∀ m ∈ a1, MvOk m) ∧ s102 a2.Period = 0 ∧ 0 ≤ a3 ∧ a3 ≤ a4 ∧ a4 ≤ 1439 := by
 unfold qr0 at h;obtain ⟨r1, e1, h⟩ := qi h;have h := Option.some.inj h;have h0 : r = 0 := Decidable.not_not.1 h1;rw [h0] at h;have h3 := jx.1 h;have h4 : r1 = 0 := h3 r1 (by simp);obtain ⟨h5, h6, h7, h8⟩ := qr1 hl e1 (by rw [h4]; simp);have h9 : qbz a2 = 0 := h3 _ (by simp);have h10 := wn.1 (h3 (xl a3 0 1439) (by simp));have h11 := wn.1 (h3 (xl a4 0 1439) (by simp));have h12 := q01 (by decide) (h3 (xa (decide (a4 < a3)) 11) (by simp));exact ⟨h5, h6, h7, h8, qx2 (by rw [h9]; simp), h10.1, by have := of_decide_eq_false h12; omega, h11.2⟩
theorem qfk {x : Int} (h0 : -9223372036854775808 ≤ x) (h1 : x ≤ 9223372036854775807) : IntKind.i64.wrap x = x := by
 exact wrap_i64 (by unfold I64; omega)
theorem q76 {a3 a4 : Int} (h0 : 0 ≤ a3) (h1 : a3 ≤ a4) (h2 : a4 ≤ 1439) : IntKind.i64.wrap (IntKind.i64.wrap (a4 - a3) + 1) = a4 - a3 + 1 := by
 rw [qfk (x := a4 - a3) (by omega) (by omega), qfk (by omega) (by omega)]
def qfr (rec1 : (List Int) → Int → Option ((List Int) × Int)) (x4 : Int) (x7 : List Int) : Option ((List Int) × Int) :=
 rec1 x7 (x4 + 1)
def qad (a3 : Int) (r2 : List Bool) : Nat → (List Int) → Int → Option ((List Int) × Int)
 | 0, x3, x4 => some (x3, 0)
 | k6 + 1, x3, x4 => qz (qr2 r2 (IntKind.i64.wrap (a3 + x4))) fun r8 => (bif r8 then qfr (fun z0_ z1_ => qad a3 r2 k6 z0_ z1_) x4 (x3 ++ [IntKind.i64.wrap (a3 + x4)]) else qfr (fun z0_ z1_ => qad a3 r2 k6 z0_ z1_) x4 x3)
def qr3 (a0 : List S2062) (a1 : List S1079) (a2 : S115) (a3 : Int) (a4 : Int) : Option ((List Int) × Int) :=
 qz (qr0 a0 a1 a2 a3 a4) fun r1 => (bif decide (r1 ≠ 0) then some ([], r1) else qz (qr4 a0 a1 a2) fun r2 => qad a3 r2 (((IntKind.i64.wrap ((IntKind.i64.wrap (a4 - a3)) + 1)) - 0).toNat) [] 0)
theorem q77 {g : GL} (a0 : List S2062) (a1 : List S1079) (a2 : S115) (a3 : Int) (a4 : Int) {R : (List Int) × Int}  (hb : a1.length ≤ 1000) (hR : qr3 a0 a1 a2 a3 a4 = some R) : Con (EG g) 30 [G.sl 11 (List.map S2062.c a0), G.sl 7 (List.map S1079.c a1), G.agg (S115.c a2), G.int a3, G.int a4] (G.tup [G.sl 1 (List.map cInt R.1), G.int R.2]) := by
 unfold qr3 at hR;refine qm Tryz.func30 U U fun w0 M0 => ?_;refine zp (f := S2062.c) (l := a0) 0 U fun hla0 => ?_;refine zp (f := S1079.c) (l := a1) 1 U fun hla1 => ?_;refine qb<|qa [.p, .p, .p]<|su (zg U U) U<|sa U U<|sa U U<|qc<|qb<|qb ?_;obtain ⟨r1, br1, hR⟩ := qi hR;refine qa [.p, .p, .p, .p, .p, .p, .p]<|sm rfl rfl<|sm rfl rfl<|su (qp rfl w5 rfl rfl rfl) rfl<|sm rfl rfl<|sm rfl rfl<|su (qf rfl zcd rfl (zcc a0 a1 a2 a3 a4 (by first | assumption | omega | (simp [qh]; done) | (simp [qh]; omega)) br1) (qe rfl (qe rfl (qe rfl (qe rfl (qe rfl qj)))))) rfl<|sa rfl rfl<|qc<|qb<|qa [.p, .p]<|sm rfl rfl<|su (zx rfl rfl rfl) rfl<|qc ?_;refine ql _ U (fun h1 => ?_) (fun h1 => ?_)
 ·replace h1 : (decide (r1 ≠ 0)) = true := h1;replace hR := zm hR h1;(try simp only [bB] at h1);refine qb<|qa [.p, .p, .p]<|sm U U<|sa U U<|sa U U<|qc<|qo ?_;obtain rfl := Option.some.inj hR;exact resN U ⟨qiu U (qg8 _), rv_g U, O⟩ (by simp)
 ·replace h1 : (decide (r1 ≠ 0)) = false := h1;replace hR := zn hR h1;(try simp only [bB] at h1);obtain ⟨hl0, hlim, hms, hmv, hrq, h3, h4, h5⟩ := q40 hb br1 h1;have hW := q76 h3 h4 h5;refine qn<|qb ?_;obtain ⟨r2, br2, hR⟩ := qi hR;refine qa [.p, .p, .p, .p, .p, .p]<|sm U U<|sm U U<|su (qp U w5 U U U) U<|su (qf U q78 U (q79 a0 a1 a2 (by omega) hlim hms hrq br2) (qe U (qe U (qe U qj)))) U<|su (w6 U U U) U<|sa U U<|qc<|qb<|qa [.w]<|sw (kh 14 3 1 U U U) U<|qc<|qb<|qb<|qa [.p, .p, .p, .p, .p]<|sm U U<|sm U U<|su (ku U U U) U<|su (jo U U U) U<|sm U U<|qc<|qq<|za (γ := Nat × (List Int) × Int) (fun g => ([(3, .g (G.int a3)), (13, .g (G.fn (.func 70) [G.ref (List.map G.bool r2)] [])), (14, .osl 14 1 0 (List.length g.2.1)), (33, .g (G.int (IntKind.i64.wrap ((IntKind.i64.wrap (a4 - a3)) + 1)))), (34, .g (G.int g.2.2))], [(14, .arr 3 1 (List.map cInt g.2.1))])) (fun g => g.1 = ((IntKind.i64.wrap ((IntKind.i64.wrap (a4 - a3)) + 1)) - g.2.2).toNat ∧ (g.2.1.length : Int) ≤ g.2.2 ∧ 0 ≤ g.2.2 ∧ qad a3 r2 g.1 g.2.1 g.2.2 = some R) (fun g => g.1) ⟨U, (((IntKind.i64.wrap ((IntKind.i64.wrap (a4 - a3)) + 1)) - 0).toNat, [], 0), jA, ⟨U, O⟩, U, ⟨U, iD, iD, (by exact hR)⟩, O⟩ ?_
  ·rintro ⟨k6, x3, x4⟩ ⟨hk1, iv1_0, iv1_1, hR⟩;replace hk1 : k6 = ((IntKind.i64.wrap ((IntKind.i64.wrap (a4 - a3)) + 1)) - x4).toNat := hk1;replace hR : qad a3 r2 k6 x3 x4 = some R := hR;replace iv1_0 : (x3.length : Int) ≤ x4 := iv1_0;replace iv1_1 : 0 ≤ x4 := iv1_1;refine qb<|qa [.p]<|su (ze U U U) U<|qc<|qb ?_;refine ql _ U (fun h2 => ?_) (fun h2 => ?_)
   ·replace h2 : (decide (x4 < IntKind.i64.wrap ((IntKind.i64.wrap (a4 - a3)) + 1))) = true := h2;replace h2 := decT h2;obtain ⟨k6, rfl⟩ : ∃ m, k6 = m + 1 := ⟨k6 - 1, by omega⟩;rw [qad] at hR;(try dsimp only at hR);refine qn ?_;refine jy (γ := (List Int)) (fun g => ([(3, .g (G.int a3)), (13, .g (G.fn (.func 70) [G.ref (List.map G.bool r2)] [])), (14, .osl 14 1 0 (List.length g)), (33, .g (G.int (IntKind.i64.wrap ((IntKind.i64.wrap (a4 - a3)) + 1)))), (34, .g (G.int x4))], [(14, .arr 3 1 (List.map cInt g))])) (fun g => (g.length : Int) ≤ x4 + 1 ∧ qfr (fun z0_ z1_ => qad a3 r2 k6 z0_ z1_) x4 g = some R) ?_ ?_
    ·refine qq<|qb<|qa [.p, .p]<|sm U U<|sa U U<|qc<|qb ?_;obtain ⟨r8, br8, hR⟩ := qi hR;refine qa [.p, .p, .p, .p, .p]<|sm U U<|sm U U<|sm U U<|su (jo U U U) U<|su (qu1 U q8a U (q8b r2 (IntKind.i64.wrap (a3 + x4)) (qx3 (by assumption)) br8) (qe U qj)) U<|qc ?_;refine ql _ U (fun h4 => ?_) (fun h4 => ?_)
     ·replace h4 : (r8) = true := h4;replace hR := zm hR h4;(try simp only [bB] at h4);refine qa [.p, .p, .p, .p, .p, .k, .p]<|su (zd U U) U<|sm U U<|sm U U<|su (jo U U U) U ?_;refine su (qt U Tryz.underlying38 ty3 z3 U (qv U jh) U (by simp []) (by decide)) U ?_;refine st_k U U (ve (f := cInt) (out := x3) (new := [IntKind.i64.wrap (a3 + x4)]) U qx4 U U (wx U (wy (by decide) (by simp []))) (qgf U) (by simp; omega)) U ?_;refine su (zw U U) U<|qc ?_;exact ⟨U, x3 ++ [IntKind.i64.wrap (a3 + x4)], jA, ⟨U, O⟩, U, ⟨iB, hR⟩, O⟩
     ·replace h4 : (r8) = false := h4;replace hR := zn hR h4;(try simp only [bB] at h4);refine qn ?_;exact ⟨U, x3, jA, ⟨U, O⟩, U, ⟨iB, hR⟩, O⟩
    ·rintro x7 ⟨jv1_0, hR⟩;replace jv1_0 : (x7.length : Int) ≤ x4 + 1 := jv1_0;replace hR : qfr (fun z0_ z1_ => qad a3 r2 k6 z0_ z1_) x4 x7 = some R := hR;unfold qfr at hR;refine qa [.p, .p]<|su (zl U U U iG) U<|sm U U<|qc ?_;exact ⟨U, (k6, x7, x4 + 1), jA, ⟨U, O⟩, U, ⟨iB, iB, iB, hR⟩, by simp⟩
   ·replace h2 : (decide (x4 < IntKind.i64.wrap ((IntKind.i64.wrap (a4 - a3)) + 1))) = false := h2;replace h2 := decF h2
    obtain rfl : k6 = 0 := by omega
    rw [qad] at hR;refine zr<|qb<|qa [.p, .p, .p]<|su (zd U U) U<|su (zw U U) U<|sa U U<|qc<|qo ?_;obtain rfl := Option.some.inj hR;exact resN U ⟨qat U U, rv_g U, O⟩ (by simp)
def qx5 (a0 : S2062) : Int :=
 IntKind.i64.wrap ((IntKind.i64.wrap ((IntKind.i64.wrap (Int.tdiv a0.fTo a0.Step)) - (IntKind.i64.wrap (Int.tdiv (IntKind.i64.wrap ((IntKind.i64.wrap (a0.fFrom + a0.Step)) - 1)) a0.Step)))) + 1)
theorem zce {g : GL} (a0 : S2062)  (hst : 1 ≤ a0.Step ∧ a0.Step ≤ 1440) (hf : 0 ≤ a0.fFrom ∧ a0.fFrom ≤ 1439) (hto : 0 ≤ a0.fTo ∧ a0.fTo ≤ 1439)  : Con (EG g) 73 [G.agg (S2062.c a0)] (G.int (qx5 a0)) := by
 generalize hR : qx5 a0 = R;unfold qx5 at hR;refine qm Tryz.func73 U U fun w0 M0 => ?_;refine qb<|qa [.p, .p]<|su (zg U U) U<|sa U U<|qc<|qb<|zt [.p, .p, .p, .p, .p, .p, .p, .p, .p, .p, .p, .p, .p, .p, .p, .p, .p] (by kernel_rfl)<|su (qd U qkj U) U<|su (qg U ty3 U) U<|su (qd U qh8 U) U<|su (qg U ty3 U) U<|su (qhr U U U (by omega)) U<|su (qd U qki U) U<|su (qg U ty3 U) U<|su (qd U qh8 U) U<|su (qg U ty3 U) U<|su (jo U U U) U<|su (ku U U U) U<|su (qd U qh8 U) U<|su (qg U ty3 U) U<|su (qhr U U U (by omega)) U<|su (ku U U U) U<|su (jo U U U) U<|sa U U<|qc<|qo ?_;subst hR;exact zb U (rv_g U)
def qia (rec1 : Nat → Int → Bool) (k3 : Nat) (x6 : Int) : Bool :=
 rec1 (k3 + 1) x6
def qcs  : List S2062 → Nat → Int → Bool
 | [], k3, x1 => decide (x1 ≤ 400)
 | y4 :: t5, k3, x1 => (bif (((decide (40 < (ByteArray.size y4.Name : Int))) || (decide (40 < (ByteArray.size y4.Kind : Int)))) || (decide (40 < (ByteArray.size y4.Terminal : Int)))) || (!(qxv y4.Period 24)) then false else (bif decide ((qmb y4) = 0) then qia (fun k_ z0_ => qcs  t5 k_ z0_) k3 (IntKind.i64.wrap (x1 + (IntKind.i64.wrap ((qx5 y4) * (List.length (s104 y4.Period) : Int))))) else qia (fun k_ z0_ => qcs  t5 k_ z0_) k3 x1))
def quc (a0 : List S2062) (a1 : Int) : Bool :=
 (bif ((decide (a1 < (List.length a0 : Int))) && (decide ((List.length a0 : Int) ≤ 32))) || (decide (34 < (List.length a0 : Int))) then false else qcs a0 0 0)
theorem zao {g : GL} (a0 : List S2062) (a1 : Int)    : Con (EG g) 31 [G.sl 11 (List.map S2062.c a0), G.int a1] (G.bool (quc a0 a1)) := by
 generalize hR : quc a0 a1 = R;unfold quc at hR;refine qm Tryz.func31 U U fun w0 M0 => ?_;refine zp (f := S2062.c) (l := a0) 0 U fun hla0 => ?_;refine qb<|qa [.p]<|sa U U<|qc<|qb<|qb<|qa [.p, .p, .p, .p, .p, .p, .p, .p, .p, .p, .p, .p, .p, .p]<|sm U U<|su (qy (f := S2062.c) (l := a0) U Tryz.underlying91 U) U<|sm U U<|su (z6 U U U) U<|sm U U<|sg U U (fun h => qk U U) U<|sg U U (fun h => qy (f := S2062.c) (l := a0) U Tryz.underlying91 (gd h U)) U<|sg U U (fun h => vl U (gd h U) U) U<|su (zy U U U U) U<|sm U U<|sg U U (fun h => qk U U) U<|sg U U (fun h => qy (f := S2062.c) (l := a0) U Tryz.underlying91 (gd h U)) U<|sg U U (fun h => z6 U (gd h U) U) U<|su (jm U U U U) U<|qc ?_;refine ql _ U (fun h1 => ?_) (fun h1 => ?_)
 ·replace hR := zm hR h1;refine qb<|qa [.p]<|sa U U<|qc<|qo ?_;subst hR;exact zb U (rv_g U)
 ·replace h1 : (((decide (a1 < (List.length a0 : Int))) && (decide ((List.length a0 : Int) ≤ 32))) || (decide (34 < (List.length a0 : Int)))) = false := h1;replace hR := zn hR h1;(try simp only [bB] at h1);refine qn<|qb<|qa [.p]<|sa U U<|qc<|qb<|qb<|qa [.p]<|sa U U<|qc<|qq<|za (γ := Nat × (List S2062) × Int) (fun g => ([(0, .g (G.sl 11 (List.map S2062.c a0))), (5, .g (G.int g.2.2)), (6, .g (G.int ((g.1 : Nat) : Int)))], [])) (fun g => a0.drop g.1 = g.2.1 ∧ qcs  g.2.1 g.1 g.2.2 = R) (fun g => List.length g.2.1) ⟨U, (0, a0, 0), ⟨U, U, U, O⟩, O, U, ⟨U, (by exact hR)⟩, O⟩ ?_
  ·rintro ⟨k3, t5, x1⟩ ⟨hd, hR⟩;replace hd : a0.drop k3 = t5 := hd;replace hR : qcs  t5 k3 x1 = R := hR;refine qb<|qb<|qa [.p, .p, .p, .p]<|sm U U<|sm U U<|su (qy (f := S2062.c) (l := a0) U Tryz.underlying91 U) U<|su (ze U U U) U<|qc ?_;refine zp (f := S2062.c) (l := a0) 0 U fun hlz1 => ?_;refine ql _ U (fun h2 => ?_) (fun h2 => ?_)
   ·replace h2 : (decide (((k3 : Nat) : Int) < (List.length a0 : Int))) = true := h2;obtain ⟨y4, t5, rfl, hx1, hd⟩ := zq hd (decT h2);replace h2 := decT h2;rw [qcs] at hR;(try dsimp only at hR);refine qn ?_;refine jy (γ := Int) (fun g => ([(0, .g (G.sl 11 (List.map S2062.c a0))), (5, .g (G.int g)), (6, .g (G.int ((k3 : Nat) : Int)))], [])) (fun g => qia (fun k_ z0_ => qcs  t5 k_ z0_) k3 g = R) ?_ ?_
    ·refine qq<|qb<|qb<|qa [.p, .p, .p, .p, .p, .p, .p, .p, .p, .p, .p, .p, .p, .p, .p, .p, .p, .p, .p, .p, .p, .p, .p, .p, .p, .p, .p, .p, .p, .p, .p, .p, .p, .p]<|sm U U<|sm U U<|su (z4 (f := S2062.c) (l := a0) (a := y4) U Tryz.underlying91 qam U U (Int.natCast_nonneg _) hx1) U<|su (qd U qkg U) U<|su (qg U ty9 U) U<|su (vd U Tryz.underlying9 U) U<|su (z6 U U U) U<|sm U U<|sg U U (fun h => qk U U) U<|sg U U (fun h => qk U U) U<|sg U U (fun h => z4 (f := S2062.c) (l := a0) (a := y4) U Tryz.underlying91 qam (gd h U) (gd h U) (Int.natCast_nonneg _) hx1) U<|sg U U (fun h => qd U qfo (gd h U)) U<|sg U U (fun h => qg U ty9 (gd h U)) U<|sg U U (fun h => vd U Tryz.underlying9 (gd h U)) U<|sg U U (fun h => z6 U (gd h U) U) U<|su (jm U U U U) U<|sm U U<|sg U U (fun h => qk U U) U<|sg U U (fun h => qk U U) U<|sg U U (fun h => z4 (f := S2062.c) (l := a0) (a := y4) U Tryz.underlying91 qam (gd h U) (gd h U) (Int.natCast_nonneg _) hx1) U<|sg U U (fun h => qd U qkh (gd h U)) U<|sg U U (fun h => qg U ty9 (gd h U)) U<|sg U U (fun h => vd U Tryz.underlying9 (gd h U)) U<|sg U U (fun h => z6 U (gd h U) U) U<|su (jm U U U U) U<|sm U U<|sg U U (fun h => qk U U) U<|sg U U (fun h => qk U U) U<|sg U U (fun h => z4 (f := S2062.c) (l := a0) (a := y4) U Tryz.underlying91 qam (gd h U) (gd h U) (Int.natCast_nonneg _) hx1) U<|sg U U (fun h => qd U qoo (gd h U)) U<|sg U U (fun h => qp U ty46 (gd h U) U U) U<|sg U U (fun h => qf U zcf U (zbs y4.Period 24) (qe (gd h U) (qe U qj))) U<|sg U U (fun h => jn U (gd h U)) U<|su (jm U U U U) U<|qc ?_;refine ql _ U (fun h4 => ?_) (fun h4 => ?_)
     ·replace hR := zm hR h4;refine qb<|qa [.p]<|sa U U<|qc<|qo ?_;subst hR;exact zb U (rv_g U)
     ·replace h4 : ((((decide (40 < (ByteArray.size y4.Name : Int))) || (decide (40 < (ByteArray.size y4.Kind : Int)))) || (decide (40 < (ByteArray.size y4.Terminal : Int)))) || (!(qxv y4.Period 24))) = false := h4;replace hR := zn hR h4;(try simp only [bB] at h4);refine qn<|qb<|qa [.p, .p, .p, .p, .p, .p]<|sm U U<|sm U U<|su (z4 (f := S2062.c) (l := a0) (a := y4) U Tryz.underlying91 qam U U (Int.natCast_nonneg _) hx1) U<|su (qp U qam U U U) U<|su (qf U q72 U (q71 y4) (qe U qj)) U<|su (jq U U U) U<|qc ?_;refine ql _ U (fun h5 => ?_) (fun h5 => ?_)
      ·replace h5 : (decide ((qmb y4) = 0)) = true := h5;replace hR := zm hR h5;(try simp only [bB] at h5);have hl := q2h h5;have hp := vk _ hl.per;have hs1 := hl.st;have hs2 := hl.f;have hs3 := hl.o;refine zt [.p, .p, .p, .p, .p, .p, .p, .p, .p, .p, .p, .p, .p, .p, .p, .p] (by kernel_rfl)<|sm rfl rfl<|sm rfl rfl<|sm rfl rfl<|su (z4 (f := S2062.c) (l := a0) (a := y4) rfl Tryz.underlying91 qam rfl rfl (Int.natCast_nonneg _) hx1) rfl<|su (qp rfl qam rfl rfl rfl) rfl<|su (qf rfl zcg rfl (zce y4 (by first | assumption | omega | (simp [qh]; done) | (simp [qh]; omega)) (by first | assumption | omega | (simp [qh]; done) | (simp [qh]; omega)) (by first | assumption | omega | (simp [qh]; done) | (simp [qh]; omega))) (qe rfl qj)) rfl<|sm rfl rfl<|sm rfl rfl<|su (z4 (f := S2062.c) (l := a0) (a := y4) rfl Tryz.underlying91 qam rfl rfl (Int.natCast_nonneg _) hx1) rfl<|su (qd rfl qoo rfl) rfl<|su (qp rfl ty46 rfl rfl rfl) rfl<|su (qf rfl K104 rfl (c104 y4.Period (by omega) (by omega)) (qe rfl qj)) rfl<|su (qy (f := cInt) (l := (s104 y4.Period)) rfl Tryz.underlying38 rfl) rfl<|su (qdf rfl rfl rfl) rfl<|su (jo rfl rfl rfl) rfl<|sa rfl rfl<|qc ?_;exact ⟨U, IntKind.i64.wrap (x1 + (IntKind.i64.wrap ((qx5 y4) * (List.length (s104 y4.Period) : Int)))), ⟨U, U, U, O⟩, O, U, hR, O⟩
      ·replace hR := zn hR h5;refine qn ?_;exact ⟨U, x1, ⟨U, U, U, O⟩, O, U, hR, O⟩
    ·rintro x6 hR;replace hR : qia (fun k_ z0_ => qcs  t5 k_ z0_) k3 x6 = R := hR;unfold qia at hR;refine qa [.p, .p, .p]<|sm U U<|su (zl U U U iE) U<|sa U U<|qc ?_;exact ⟨U, (k3 + 1, t5, x6), ⟨U, U, U, O⟩, O, U, ⟨hd, hR⟩, by simp⟩
   ·replace h2 : (decide (((k3 : Nat) : Int) < (List.length a0 : Int))) = false := h2;obtain rfl := zu hd (decF h2);rw [qcs] at hR;refine zr<|qb<|qa [.p, .p, .p]<|sm U U<|su (vl U U U) U<|sa U U<|qc<|qo ?_;subst hR;exact zb U (rv_g U)
def qct (rec1 : (List Int) → Int → List Int) (x2 : Int) (x4 : List Int) : List Int :=
 rec1 x4 (x2 + 1)
def xx (a0 : S2062) (a1 : Int) : Nat → (List Int) → Int → List Int
 | 0, x1, x2 => x1
 | k3 + 1, x1, x2 => (bif decide (Int.tmod x2 a0.Step = 0) then qct (fun z0_ z1_ => xx a0 a1 k3 z0_ z1_) x2 (x1 ++ [IntKind.i64.wrap ((IntKind.i64.wrap (1440 * a1)) + x2)]) else qct (fun z0_ z1_ => xx a0 a1 k3 z0_ z1_) x2 x1)
def qd6 (a0 : S2062) (a1 : Int) : List Int :=
 xx a0 a1 (((a0.fTo + 1) - a0.fFrom).toNat) [] a0.fFrom
theorem zch {g : GL} (a0 : S2062) (a1 : Int)  (hst : 1 ≤ a0.Step ∧ a0.Step ≤ 1440) (hf : 0 ≤ a0.fFrom ∧ a0.fFrom ≤ 1439) (hto : 0 ≤ a0.fTo ∧ a0.fTo ≤ 1439)  : Con (EG g) 66 [G.agg (S2062.c a0), G.int a1] (G.sl 1 (List.map cInt (qd6 a0 a1))) := by
 generalize hR : qd6 a0 a1 = R;unfold qd6 at hR;refine qm Tryz.func66 U U fun w0 M0 => ?_;refine qb<|qa [.p, .w]<|su (zg U U) U<|sw (kh 4 3 1 U U U) U<|qc<|qb<|qa [.w]<|sw (kh 5 3 1 U U U) U<|qc<|qb<|qb<|qa [.p, .p, .p]<|su (qd U qki U) U<|su (qg U ty3 U) U<|sa U U<|qc<|qq<|za (γ := Nat × (List Int) × Int) (fun g => ([(1, .g (G.int a1)), (2, .g (G.ref (S2062.c a0))), (5, .osl 5 1 0 (List.length g.2.1)), (6, .g (G.int g.2.2))], [(5, .arr 3 1 (List.map cInt g.2.1))])) (fun g => g.1 = ((a0.fTo + 1) - g.2.2).toNat ∧ a0.fFrom ≤ g.2.2 ∧ g.2.1.length ≤ (g.2.2 - a0.fFrom).toNat ∧ xx a0 a1 g.1 g.2.1 g.2.2 = R) (fun g => g.1) ⟨U, (((a0.fTo + 1) - a0.fFrom).toNat, [], a0.fFrom), jA, ⟨U, O⟩, U, ⟨U, iD, iD, (by exact hR)⟩, O⟩ ?_
 ·rintro ⟨k3, x1, x2⟩ ⟨hk1, iv1_0, iv1_1, hR⟩;replace hk1 : k3 = ((a0.fTo + 1) - x2).toNat := hk1;replace hR : xx a0 a1 k3 x1 x2 = R := hR;replace iv1_0 : a0.fFrom ≤ x2 := iv1_0;replace iv1_1 : x1.length ≤ (x2 - a0.fFrom).toNat := iv1_1;refine qb<|qb<|qa [.p, .p, .p, .p]<|sm U U<|su (qd U qkj U) U<|su (qg U ty3 U) U<|su (vl U U U) U<|qc ?_;refine ql _ U (fun h1 => ?_) (fun h1 => ?_)
  ·replace h1 : (decide (x2 ≤ a0.fTo)) = true := h1;replace h1 := decT h1;obtain ⟨k3, rfl⟩ : ∃ m, k3 = m + 1 := ⟨k3 - 1, by omega⟩;rw [xx] at hR;(try dsimp only at hR);refine qn ?_;refine jy (γ := (List Int)) (fun g => ([(1, .g (G.int a1)), (2, .g (G.ref (S2062.c a0))), (5, .osl 5 1 0 (List.length g)), (6, .g (G.int x2))], [(5, .arr 3 1 (List.map cInt g))])) (fun g => g.length ≤ (x2 + 1 - a0.fFrom).toNat ∧ qct (fun z0_ z1_ => xx a0 a1 k3 z0_ z1_) x2 g = R) ?_ ?_
   ·refine qq<|qb<|qa [.p, .p, .p, .p, .p]<|sm U U<|su (qd U qh8 U) U<|su (qg U ty3 U) U<|su (qhe U U U (by omega)) U<|su (jq U U U) U<|qc ?_;refine ql _ U (fun h3 => ?_) (fun h3 => ?_)
    ·replace h3 : (decide (Int.tmod x2 a0.Step = 0)) = true := h3;replace hR := zm hR h3;(try simp only [bB] at h3);refine qa [.p, .p, .p, .p, .p, .p, .k, .p]<|su (zd U U) U<|sm U U<|su (qdf U U U) U<|sm U U<|su (jo U U U) U ?_;refine su (qt U Tryz.underlying38 ty3 z3 U (qv U jh) U (by simp []) (by decide)) U ?_;refine st_k U U (ve (f := cInt) (out := x1) (new := [IntKind.i64.wrap ((IntKind.i64.wrap (1440 * a1)) + x2)]) U qx4 U U (wx U (wy (by decide) (by simp []))) (qgf U) (by simp; omega)) U ?_;refine su (zw U U) U<|qc ?_;exact ⟨U, x1 ++ [IntKind.i64.wrap ((IntKind.i64.wrap (1440 * a1)) + x2)], jA, ⟨U, O⟩, U, ⟨iB, hR⟩, O⟩
    ·replace h3 : (decide (Int.tmod x2 a0.Step = 0)) = false := h3;replace hR := zn hR h3;(try simp only [bB] at h3);refine qn ?_;exact ⟨U, x1, jA, ⟨U, O⟩, U, ⟨iB, hR⟩, O⟩
   ·rintro x4 ⟨jv1_0, hR⟩;replace jv1_0 : x4.length ≤ (x2 + 1 - a0.fFrom).toNat := jv1_0;replace hR : qct (fun z0_ z1_ => xx a0 a1 k3 z0_ z1_) x2 x4 = R := hR;unfold qct at hR;refine qa [.p, .p, .p]<|sm U U<|su (zl U U U iG) U<|sa U U<|qc ?_;exact ⟨U, (k3, x4, x2 + 1), jA, ⟨U, O⟩, U, ⟨iB, iB, iB, hR⟩, by simp⟩
  ·replace h1 : (decide (x2 ≤ a0.fTo)) = false := h1;replace h1 := decF h1
   obtain rfl : k3 = 0 := by omega
   rw [xx] at hR;refine zr<|qb<|qa [.p, .p]<|su (zd U U) U<|su (zw U U) U<|qc<|qo ?_;subst hR;exact zb U (qat U U)
def qcu (a0 : S115) : List Int → Nat → (List S1079) → List S1079
 | [], k3, x1 => x1
 | y4 :: t5, k3, x1 => qcu a0 t5 (k3 + 1) (x1 ++ [(S1079.mk (IntKind.i64.wrap ((IntKind.i64.wrap (1440 * y4)) + a0.Minute)) a0.Kind a0.Terminal a0.Seats a0.Size a0.Noise a0.Name)])
def qop (a0 : S115) : List S1079 :=
 qcu a0 (s104 a0.Period) 0 []
set_option maxHeartbeats 4000000 in
theorem zci {g : GL} (a0 : S115)  (hp : s102 a0.Period = 0)  : Con (EG g) 12 [G.agg (S115.c a0)] (G.sl 7 (List.map S1079.c (qop a0))) := by
 generalize hR : qop a0 = R;unfold qop at hR;refine qm Tryz.func12 U U fun w0 M0 => ?_;have hl := q02 hp;have hp0 := vk _ hp;refine qb<|qa [.p, .w]<|su (zg U U) U<|sw (kh 2 53 7 U U U) U<|qc<|qb<|qa [.p, .p, .p, .p]<|su (qd U wd U) U<|su (qp U ty46 U U U) U<|su (qf U K104 U (c104 a0.Period (by omega) (by omega)) (qe U qj)) U<|sa U U<|qc<|qb<|qa [.w]<|sw (kh 4 53 7 U U U) U<|qc<|qb<|qb<|qa [.p]<|sa U U<|qc<|qq<|za (γ := Nat × (List Int) × (List S1079)) (fun g => ([(1, .g (G.ref (S115.c a0))), (3, .g (G.sl 1 (List.map cInt (s104 a0.Period)))), (4, .osl 4 7 0 (List.length g.2.2)), (5, .g (G.int ((g.1 : Nat) : Int)))], [(4, .arr 53 7 (List.map S1079.c g.2.2))])) (fun g => g.2.2.length ≤ g.1 ∧ g.1 ≤ (s104 a0.Period).length ∧ g.2.2.length ≤ g.1 ∧ (s104 a0.Period).drop g.1 = g.2.1 ∧ qcu a0 g.2.1 g.1 g.2.2 = R) (fun g => List.length g.2.1) ⟨U, (0, (s104 a0.Period), []), jA, ⟨U, O⟩, U, ⟨iH, iH, iH, U, (by exact hR)⟩, O⟩ ?_
 ·rintro ⟨k3, t5, x1⟩ ⟨iv1_0, iv1_1, iv1_2, hd, hR⟩;replace hd : (s104 a0.Period).drop k3 = t5 := hd;replace hR : qcu a0 t5 k3 x1 = R := hR;replace iv1_0 : x1.length ≤ k3 := iv1_0;replace iv1_1 : k3 ≤ (s104 a0.Period).length := iv1_1;replace iv1_2 : x1.length ≤ k3 := iv1_2;refine qb<|qb<|qa [.p, .p, .p, .p]<|sm U U<|sm U U<|su (qy (f := cInt) (l := (s104 a0.Period)) U Tryz.underlying38 U) U<|su (ze U U U) U<|qc ?_;refine zp (f := cInt) (l := (s104 a0.Period)) 3 U fun hlz1 => ?_;refine ql _ U (fun h1 => ?_) (fun h1 => ?_)
  ·replace h1 : (decide (((k3 : Nat) : Int) < (List.length (s104 a0.Period) : Int))) = true := h1;obtain ⟨y4, t5, rfl, hx1, hd⟩ := zq hd (decT h1);replace h1 := decT h1;rw [qcu] at hR;(try dsimp only at hR);refine qn<|qb<|qq<|qs1 [.p, .pn 4, .pn 4, .pn 4, .pn 4, .pn 4, .pn 4, .pn 4, .pn 4, .pn 4, .pn 4, .pn 4, .pn 4, .pn 4, .pn 4, .pn 4, .pn 4, .pn 4, .pn 4, .pn 4, .pn 4, .pn 4, .pn 4, .kn 4, .p] (by kernel_rfl)<|su (zd U U) U<|qbc U U (qk U U) U U U<|qbc U U (qk U U) U U U<|qbc U U (z4 (f := cInt) (l := (s104 a0.Period)) (a := y4) U Tryz.underlying38 ty3 U U (Int.natCast_nonneg _) hx1) U U U<|qbc U U (qg U ty3 U) U U U<|qbc U U (qdf U U U) U U U<|qbc U U (qd U qi1 U) U U U<|qbc U U (qg U ty3 U) U U U<|qbc U U (jo U U U) U U U<|qbc U U (qd U qe2 U) U U U<|qbc U U (qg U ty9 U) U U U<|qbc U U (qd U qgn U) U U U<|qbc U U (qg U ty9 U) U U U<|qbc U U (qd U qlk U) U U U<|qbc U U (qg U ty3 U) U U U<|qbc U U (qd U qll U) U U U<|qbc U U (qg U ty3 U) U U U<|qbc U U (qd U qh0 U) U U U<|qbc U U (qg U ty3 U) U U U<|qbc U U (qd U vh U) U U U<|qbc U U (qg U ty9 U) U U U<|qbc U U (jc U qny U qsq (z5 U (z5 U (z5 U (z5 U (z5 U (z5 U (z5 U kx))))))) U) U U U ?_;refine qbc U U (qt U Tryz.underlying48 jd qny U (qv U jh) U (by exact lens rfl) (by decide)) U U U ?_;refine za6 U U (ve (f := S1079.c) (out := x1) (new := [(S1079.mk (IntKind.i64.wrap ((IntKind.i64.wrap (1440 * y4)) + a0.Minute)) a0.Kind a0.Terminal a0.Seats a0.Size a0.Noise a0.Name)]) U qoq U U (wx U (wy (by decide) (by simp [S1079.c]))) (qgf U) (by simp; omega)) U ?_;refine su (zw U U) U<|qc<|qa [.p, .p, .p]<|sm U U<|su (zl U U U iE) U<|sa U U<|qc ?_;exact ⟨U, (k3 + 1, t5, x1 ++ [(S1079.mk (IntKind.i64.wrap ((IntKind.i64.wrap (1440 * y4)) + a0.Minute)) a0.Kind a0.Terminal a0.Seats a0.Size a0.Noise a0.Name)]), jA, ⟨U, O⟩, U, ⟨iB, iB, iB, hd, hR⟩, by simp⟩
  ·replace h1 : (decide (((k3 : Nat) : Int) < (List.length (s104 a0.Period) : Int))) = false := h1;obtain rfl := zu hd (decF h1);rw [qcu] at hR;refine zr<|qb<|qa [.p, .p]<|su (zd U U) U<|su (zw U U) U<|qc<|qo ?_;subst hR;exact zb U (qat U U)
theorem qr5 (a0 : S2062) (a1 : Int) : ∀ (k : Nat) (x1 : List Int) (x2 : Int), (xx a0 a1 k x1 x2).length ≤ x1.length + k
 | 0, x1, x2 => Nat.le_refl _
 | k + 1, x1, x2 => by
  rw [xx, cond_eq_ite]
  split
  ·have := qr5 a0 a1 k (x1 ++ [IntKind.i64.wrap ((IntKind.i64.wrap (1440 * a1)) + x2)]) (x2 + 1);simp only [List.length_append, List.length_singleton] at this;simp only [qct]; omega
  ·have := qr5 a0 a1 k x1 (x2 + 1);simp only [qct]; omega
theorem q03 {a0 : S2062} (hf : 0 ≤ a0.fFrom ∧ a0.fFrom ≤ 1439) (hto : 0 ≤ a0.fTo ∧ a0.fTo ≤ 1439) (a1 : Int) : (qd6 a0 a1).length ≤ 1440 := by
 have := qr5 a0 a1 (((a0.fTo + 1) - a0.fFrom).toNat) [] a0.fFrom;simp only [List.length_nil] at this;unfold qd6; omega
def qbo (rec1 : Nat → (List Int) → List Int) (a0 : S2062) (x1 : List Int) (k3 : Nat) (y4 : Int) : List S5036 → Nat → Int → List Int
 | [], k8, x6 => rec1 (k3 + 1) (x1 ++ [x6])
 | y9 :: t10, k8, x6 => qbo rec1 a0 x1 k3 y4 t10 (k8 + 1) (IntKind.i64.wrap (x6 + (qql a0 (qop (S115.mk y9.Request.Name y9.Request.Carrier y9.Request.Kind y9.Request.Terminal y9.Request.Partner y9.Request.Link (S45.mk y9.Request.Period.fFrom y9.Request.Period.fTo y9.Request.Period.Days) y9.Request.Minute y9.Request.Seats y9.Request.Size y9.Request.Noise)) y4)))
def qa0 (a0 : S2062) (a1 : S5025) : List Int → Nat → (List Int) → List Int
 | [], k3, x1 => x1
 | y4 :: t5, k3, x1 => qbo (fun k_ z0_ => qa0 a0 a1 t5 k_ z0_) a0 x1 k3 y4 a1.Slots 0 0
def qr6 (a0 : S2062) (a1 : S5025) (a2 : Int) : List Int :=
 qa0 a0 a1 (qd6 a0 a2) 0 []
theorem zcj {g : GL} (a0 : S2062) (a1 : S5025) (a2 : Int)  (hst : 1 ≤ a0.Step ∧ a0.Step ≤ 1440) (hf : 0 ≤ a0.fFrom ∧ a0.fFrom ≤ 1439) (hto : 0 ≤ a0.fTo ∧ a0.fTo ≤ 1439) (hsl : ∀ x ∈ a1.Slots, s102 x.Request.Period = 0)  : Con (EG g) 29 [G.agg (S2062.c a0), G.agg [G.sl 16 (List.map S5036.c a1.Slots), G.sl 14 (List.map S5072.c a1.Waiting)], G.int a2] (G.sl 1 (List.map cInt (qr6 a0 a1 a2))) := by
 generalize hR : qr6 a0 a1 a2 = R;unfold qr6 at hR;refine qm Tryz.func29 U U fun w0 M0 => ?_;have hBL := q03 hf hto a2;refine qb<|qa [.p, .p, .w]<|su (zg U U) U<|su (zg U U) U<|sw (kh 6 3 1 U U U) U<|qc<|qb<|qa [.w]<|sw (kh 7 3 1 U U U) U<|qc<|qb<|qa [.p, .w, .w]<|su (qp U kq U U U) U<|sw (zh 8 U q6r U U) U<|z7 U U (qw (tv := .g (G.agg (S2062.c a0))) U qam U U U U U)<|qc<|qb<|qb<|qa [.r, .p, .p, .p, .p]<|sr (zj U qam U U U U) U<|sm U U<|su (qf U zck U (zch a0 a2 hst hf hto) (qe U (qe U qj))) U<|su (qy (f := cInt) (l := (qd6 a0 a2)) U Tryz.underlying38 U) U<|sm U U<|qc<|qq<|za (γ := Nat × (List Int) × (List Int)) (fun g => ([(4, .g (G.ref [G.sl 16 (List.map S5036.c a1.Slots), G.sl 14 (List.map S5072.c a1.Waiting)])), (7, .osl 7 1 0 (List.length g.2.2)), (8, .ptr 8 0), (17, .g (G.sl 1 (List.map cInt (qd6 a0 a2)))), (18, .g (G.int (List.length (qd6 a0 a2) : Int))), (19, .g (G.int ((g.1 : Nat) : Int)))], [(7, .arr 3 1 (List.map cInt g.2.2)), (8, .box [.g (G.str a0.Name), .g (G.str a0.Kind), .g (G.str a0.Terminal), .g (G.int a0.Length), .g (G.int a0.Step), .g (G.int a0.fFrom), .g (G.int a0.fTo), .g (G.int a0.Period.fFrom), .g (G.int a0.Period.fTo), .g (G.int a0.Period.Days), .g (G.int a0.Most)])])) (fun g => g.2.2.length ≤ g.1 ∧ (qd6 a0 a2).drop g.1 = g.2.1 ∧ qa0 a0 a1 g.2.1 g.1 g.2.2 = R) (fun g => List.length g.2.1) ⟨U, (0, (qd6 a0 a2), []), jA, ⟨U, U, O⟩, U, ⟨iH, U, (by exact hR)⟩, O⟩ ?_
 ·rintro ⟨k3, t5, x1⟩ ⟨iv1_0, hd, hR⟩;replace hd : (qd6 a0 a2).drop k3 = t5 := hd;replace hR : qa0 a0 a1 t5 k3 x1 = R := hR;replace iv1_0 : x1.length ≤ k3 := iv1_0;refine qb<|qa [.p]<|su (ze U U U) U<|qc ?_;refine zp (f := cInt) (l := (qd6 a0 a2)) 17 U fun hlz1 => ?_;refine qb ?_;refine ql _ U (fun h1 => ?_) (fun h1 => ?_)
  ·replace h1 : (decide (((k3 : Nat) : Int) < (List.length (qd6 a0 a2) : Int))) = true := h1;obtain ⟨y4, t5, rfl, hx1, hd⟩ := zq hd (decT h1);replace h1 := decT h1;rw [qa0] at hR;(try dsimp only at hR);refine qn<|qb<|qq<|qb<|qa [.p, .p, .p]<|su (z4 (f := cInt) (l := (qd6 a0 a2)) (a := y4) U Tryz.underlying38 ty3 U U (Int.natCast_nonneg _) hx1) U<|su (qg U ty3 U) U<|sa U U<|qc<|qb<|qa [.p]<|sa U U<|qc<|qb<|qb<|qa [.p, .p, .p, .p]<|su (qd U wj U) U<|su (qg U qdz U) U<|su (qy (f := S5036.c) (l := a1.Slots) U Tryz.underlying23 U) U<|sm U U<|qc<|qq<|za (γ := Nat × (List S5036) × Int) (fun g => ([(4, .g (G.ref [G.sl 16 (List.map S5036.c a1.Slots), G.sl 14 (List.map S5072.c a1.Waiting)])), (7, .osl 7 1 0 (List.length x1)), (8, .ptr 8 0), (10, .g (G.int y4)), (11, .g (G.int g.2.2)), (17, .g (G.sl 1 (List.map cInt (qd6 a0 a2)))), (18, .g (G.int (List.length (qd6 a0 a2) : Int))), (19, .g (G.int ((k3 : Nat) : Int))), (24, .g (G.sl 16 (List.map S5036.c a1.Slots))), (25, .g (G.int (List.length a1.Slots : Int))), (26, .g (G.int ((g.1 : Nat) : Int)))], [(7, .arr 3 1 (List.map cInt x1)), (8, .box [.g (G.str a0.Name), .g (G.str a0.Kind), .g (G.str a0.Terminal), .g (G.int a0.Length), .g (G.int a0.Step), .g (G.int a0.fFrom), .g (G.int a0.fTo), .g (G.int a0.Period.fFrom), .g (G.int a0.Period.fTo), .g (G.int a0.Period.Days), .g (G.int a0.Most)])])) (fun g => a1.Slots.drop g.1 = g.2.1 ∧ qbo (fun k_ z0_ => qa0 a0 a1 t5 k_ z0_) a0 x1 k3 y4 g.2.1 g.1 g.2.2 = R) (fun g => List.length g.2.1) ⟨U, (0, a1.Slots, 0), jA, ⟨U, U, O⟩, U, ⟨U, (by exact hR)⟩, O⟩ ?_
   ·rintro ⟨k8, t10, x6⟩ ⟨hd2, hR⟩;replace hd2 : a1.Slots.drop k8 = t10 := hd2;replace hR : qbo (fun k_ z0_ => qa0 a0 a1 t5 k_ z0_) a0 x1 k3 y4 t10 k8 x6 = R := hR;refine qb<|qa [.p]<|su (ze U U U) U<|qc ?_;refine zp (f := S5036.c) (l := a1.Slots) 24 U fun hlz2 => ?_;refine qb ?_;refine ql _ U (fun h3 => ?_) (fun h3 => ?_)
    ·replace h3 : (decide (((k8 : Nat) : Int) < (List.length a1.Slots : Int))) = true := h3;obtain ⟨y9, t10, rfl, hx2, hd2⟩ := zq hd2 (decT h3);replace h3 := decT h3;rw [qbo] at hR;(try dsimp only at hR);refine qn<|qb<|qq<|qb<|qa [.p, .p, .w, .w]<|su (z4 (f := S5036.c) (l := a1.Slots) (a := y9) U Tryz.underlying23 qbs U U (Int.natCast_nonneg _) hx2) U<|su (qp U qbs U U U) U<|sw (zh 13 U q4b U U) U<|z7 U U (qw (tv := .g (G.agg [G.str y9.Request.Name, G.str y9.Request.Carrier, G.str y9.Request.Kind, G.str y9.Request.Terminal, G.str y9.Request.Partner, G.str y9.Request.Link, G.int y9.Request.Period.fFrom, G.int y9.Request.Period.fTo, G.int y9.Request.Period.Days, G.int y9.Request.Minute, G.int y9.Request.Seats, G.int y9.Request.Size, G.int y9.Request.Noise, G.str y9.Holder, G.sl 3 (List.map S5102.c y9.Leases), G.sl 1 (List.map cStr y9.Shares)])) U qbs U U U U U)<|qc<|zt [.p, .r, .p, .r, .p, .p, .p, .p, .p] (by kernel_rfl)<|sm U U<|sr (zj U qam U U U U) U<|su (zo U qbf U) U<|sr (zj U w5 U U U U) U<|su (qf U zcl U (zci (S115.mk y9.Request.Name y9.Request.Carrier y9.Request.Kind y9.Request.Terminal y9.Request.Partner y9.Request.Link (S45.mk y9.Request.Period.fFrom y9.Request.Period.fTo y9.Request.Period.Days) y9.Request.Minute y9.Request.Seats y9.Request.Size y9.Request.Noise) (hsl _ (List.mem_of_getElem? (by assumption)))) (qe U qj)) U<|sm U U<|su (qf U zcm U (zby a0 (qop (S115.mk y9.Request.Name y9.Request.Carrier y9.Request.Kind y9.Request.Terminal y9.Request.Partner y9.Request.Link (S45.mk y9.Request.Period.fFrom y9.Request.Period.fTo y9.Request.Period.Days) y9.Request.Minute y9.Request.Seats y9.Request.Size y9.Request.Noise)) y4) (qe U (qe U (qe U qj)))) U<|su (jo U U U) U<|sa U U<|qc<|qa [.p, .p]<|su (zl U U U iE) U<|sm U U<|qc ?_;exact ⟨U, (k8 + 1, t10, IntKind.i64.wrap (x6 + (qql a0 (qop (S115.mk y9.Request.Name y9.Request.Carrier y9.Request.Kind y9.Request.Terminal y9.Request.Partner y9.Request.Link (S45.mk y9.Request.Period.fFrom y9.Request.Period.fTo y9.Request.Period.Days) y9.Request.Minute y9.Request.Seats y9.Request.Size y9.Request.Noise)) y4))), jA, ⟨U, U, O⟩, U, ⟨hd2, hR⟩, by simp⟩
    ·replace h3 : (decide (((k8 : Nat) : Int) < (List.length a1.Slots : Int))) = false := h3;obtain rfl := zu hd2 (decF h3);rw [qbo] at hR;refine zr ?_;have hkl := jv hx1;refine qa [.p, .p, .p, .k, .p]<|su (zd U U) U<|sm U U ?_;refine su (qt U Tryz.underlying38 ty3 z3 U (qv U jh) U (by simp []) (by decide)) U ?_;refine st_k U U (ve (f := cInt) (out := x1) (new := [x6]) U qx4 U U (wx U (wy (by decide) (by simp []))) (qgf U) (by simp; omega)) U ?_;refine su (zw U U) U<|qc<|qa [.p, .p]<|su (zl U U U iE) U<|sm U U<|qc ?_;exact ⟨U, (k3 + 1, t5, x1 ++ [x6]), jA, ⟨U, U, O⟩, U, ⟨iB, hd, hR⟩, by simp⟩
  ·replace h1 : (decide (((k3 : Nat) : Int) < (List.length (qd6 a0 a2) : Int))) = false := h1;obtain rfl := zu hd (decF h1);rw [qa0] at hR;refine zr<|qb<|qa [.p, .p]<|su (zd U U) U<|su (zw U U) U<|qc<|qo ?_;subst hR;exact zb U (qat U U)
theorem q8c {a0 : S2062} {a1 : List S1079} {a2 r : Int} (hl : a1.length ≤ 1000) (h : qal a1 = some r) (h1 : ¬ vo [qbu a0, r, xl a2 0 99999] ≠ 0) : LimOk a0 ∧ MsOk a1 ∧ (∀ m ∈ a1, MvOk m) ∧ 0 ≤ a2 ∧ a2 ≤ 99999 := by
 have h3 := jx.1 (Decidable.not_not.1 h1);have h4 := qx6 (h3 (qbu a0) (by simp));have h5 : r = 0 := h3 r (by simp);have h6 := wn.1 (h3 (xl a2 0 99999) (by simp));subst h5;obtain ⟨h7, h8⟩ := q8d hl h;exact ⟨h4, h7, h8, h6.1, h6.2⟩
def qa1 (a0 : S2062) (a1 : List S1079) : List Int → (List Int) → Option ((List Int) × Int)
 | [], x2 => some (x2, 0)
 | y3 :: t4, x2 => qa1 a0 a1 t4 (x2 ++ [cntI (ofL a0 a1) y3 a0.Length])
def qva (a0 : S2062) (a1 : List S1079) (a2 : Int) : Option ((List Int) × Int) :=
 qz (qal a1) fun r1 => (bif decide ((vo [(qbu a0), r1, (xl a2 0 99999)]) ≠ 0) then some ([], (vo [(qbu a0), r1, (xl a2 0 99999)])) else (bif !(qi2 a0 a2) then some ([], 30) else qa1 a0 a1 (begL a0 a2) ([] : List Int)))
theorem q8e {g : GL} (a0 : S2062) (a1 : List S1079) (a2 : Int) {R : (List Int) × Int}  (hb : a1.length ≤ 1000) (hR : qva a0 a1 a2 = some R) : Con (EG g) 27 [G.agg (S2062.c a0), G.sl 7 (List.map S1079.c a1), G.int a2] (G.tup [G.sl 1 (List.map cInt R.1), G.int R.2]) := by
 unfold qva at hR;refine qfm Tryz.func27 U U (qxe (xu (qpa fun x => (xu (wa _) qle)) (xu (wa _) qle))) fun w0 M0 => ?_;refine zp (f := S1079.c) (l := a1) 1 U fun hla1 => ?_;refine qb<|qa [.p, .p, .p]<|su (zg U U) U<|sa U U<|sa U U<|qc<|qb<|qb ?_;obtain ⟨r1, br1, hR⟩ := qi hR;refine qa [.p, .p, .p, .p, .p, .p, .p, .p, .p]<|su (qp U kq U U U) U<|su (qf U q7w U (q7p a0) (qe U qj)) U<|sm U U<|su (qf U q04 U (q0v a1 br1) (qe U qj)) U<|sm U U<|su (qf U qi0 U (qiz a2 0 99999) (qe U (qe U (qe U qj)))) U ?_;refine su (qt U Tryz.underlying170 ty37 z37 U (qv U (qv U (qv U jh))) U (by simp []) (by decide)) U ?_;refine su (qf U qj3 U (qj0 [(qbu a0), r1, (xl a2 0 99999)]) (qe U qj)) U<|sa U U<|qc<|qb<|qa [.p, .p]<|sm U U<|su (zx U U U) U<|qc ?_;refine ql _ U (fun h1 => ?_) (fun h1 => ?_)
 ·replace h1 : (decide ((vo [(qbu a0), r1, (xl a2 0 99999)]) ≠ 0)) = true := h1;replace hR := zm hR h1;(try simp only [bB] at h1);refine qb<|qa [.p, .p, .p]<|sm U U<|sa U U<|sa U U<|qc<|qo ?_;obtain rfl := Option.some.inj hR;exact resN U ⟨qiu U (qg8 _), rv_g U, O⟩ (by simp)
 ·replace h1 : (decide ((vo [(qbu a0), r1, (xl a2 0 99999)]) ≠ 0)) = false := h1;replace hR := zn hR h1;(try simp only [bB] at h1);obtain ⟨hlok, hms, hm0, hm1⟩ := q8c hb br1 h1;refine qn<|qb<|qb<|qa [.p, .p, .p, .p]<|su (qp U kq U U U) U<|sm U U<|su (qf U q8f U (q7r a0 a2) (qe U (qe U qj))) U<|su (jn U U) U<|qc ?_;refine ql _ U (fun h2 => ?_) (fun h2 => ?_)
  ·replace h2 : (!(qi2 a0 a2)) = true := h2;replace hR := zm hR h2;(try simp only [bB] at h2);refine qb<|qa [.p, .p]<|sa U U<|sa U U<|qc<|qo ?_;obtain rfl := Option.some.inj hR;exact resN U ⟨qiu U (qg8 _), rv_g U, O⟩ (by simp)
  ·replace h2 : (!(qi2 a0 a2)) = false := h2;replace hR := zn hR h2;(try simp only [bB] at h2);refine qn<|qb<|qa [.p, .p, .p, .w, .w]<|su (qp U kq U U U) U<|sm U U<|su (qf U q8g U (q41 a0 a1 hlok.k hms.sz hms.len) (qe U (qe U qj))) U<|sw (zh 9 U q8h U U) U<|z7 U U (qw (tv := .g (G.sl 1 (List.map cInt (ofL a0 a1)))) U qtf U U U U U)<|qc<|qb<|qa [.w]<|sw (zh 10 U z82 U U) U<|qc<|qb<|qb<|qfh 10 0 2100 1 3 U U U U<|qa [.p, .p, .p]<|su (qp U kq U U U) U<|sm U U<|su (qf U q8i U (q42 a0 a2) (qe U (qe U qj))) U<|qc<|qq ?_;refine qvb (α := Int) (γ := (List Int)) (enc := (Value.int .i64)) (l := [(3, .g (G.ref (S2062.c a0))), (9, .ptr 9 0), (10, .ptr 10 0), (32, .g (G.fn (.func 122) [] [G.ref [G.int a2], G.ref (S2062.c a0)]))]) 2100 10 (begL a0 a2) (fun g => [(9, .box [.g (G.sl 1 (List.map cInt (ofL a0 a1)))]), (10, .box [.osl 2100 1 0 (List.length g)]), (2100, .arr 3 1 (List.map cInt g))]) (fun tl_ g => qa1 a0 a1 tl_ g = some R ∧ g.length + tl_.length ≤ 1440) ([] : List Int) (fun g y3 => (upd 11 (.g (G.int y3)) (upd 33 (.g (G.int y3)) (xj [(3, .g (G.ref (S2062.c a0))), (9, .ptr 9 0), (10, .ptr 10 0), (32, .g (G.fn (.func 122) [] [G.ref [G.int a2], G.ref (S2062.c a0)]))])), [(9, .box [.g (G.sl 1 (List.map cInt (ofL a0 a1)))]), (10, .box [.osl 2100 1 0 (List.length g)]), (2100, .arr 3 1 (List.map cInt g))])) U jA ⟨U, U, U, O⟩ U U q8j (qi8 _ _ (by have := hlok.s0; omega)) G.int (fun _ _ _ => U) (by exact ⟨hR, (by simpa using qor hlok a2)⟩) U (fun _ => U) (fun _ => U) U (fun _ => U) (fun _ _ => U) U ?_ (fun _ _ => U) ?_ ?_
   ·rintro y3 x2 lp_ w1_ M1_ x1_;refine qa [.p]<|sa U U<|qc ?_;exact ⟨U, U⟩
   ·rintro y3 t4 x2 hx1 ⟨hR, iv1_0⟩ lp_ w1_ M1_ x1_;replace hR : qa1 a0 a1 (y3 :: t4) x2 = some R := hR;replace iv1_0 : x2.length + (y3 :: t4).length ≤ 1440 := iv1_0;rw [qa1] at hR;(try dsimp only at hR);have hbr := q2u hlok hx1;refine qq<|qs1 [.r, .r, .pn 34, .pn 34, .pn 34, .pn 34, .pn 34, .k, .w] (by kernel_rfl)<|sr (zz U ty82 U U U) U<|sr (zz U qtf U U U) U<|qbc U U (qk U U) U U U<|qbc U U (qd U qfn U) U U U<|qbc U U (qg U ty3 U) U U U<|qbc U U (qf U q8k U (q4v (ofL a0 a1) y3 a0.Length (qi9 hms _) (qos (qja hms _) (qi9 hms _) (by omega) (by omega) (by have := hlok.l0; omega) hlok.l1)) (qe U (qe U (qe U qj)))) U U U ?_;refine qbc U U (qt U Tryz.underlying38 ty3 z3 U (qv U jh) U (by simp []) (by decide)) U U U ?_;refine st_k U U (qc1 10 0 U (ve (f := cInt) (out := x2) (new := [cntI (ofL a0 a1) y3 a0.Length]) U qx4 U U (wx U (wy (by decide) (by simp []))) (qrf U) (by simp; omega))) U ?_;refine z7 U U (qw (tv := .osl 2100 1 0 (List.length (x2 ++ [cntI (ofL a0 a1) y3 a0.Length]))) U ty82 U U U U U)<|qc ?_;exact ⟨x2 ++ [cntI (ofL a0 a1) y3 a0.Length], ⟨hR, (by simp at *; omega)⟩, ⟨U, U, U, O⟩⟩
   ·rintro x2 ⟨hR, iv1_0⟩;replace hR : qa1 a0 a1 [] x2 = some R := hR;rw [qa1] at hR;(try dsimp only at hR);refine qb<|qa [.r, .p, .p]<|sr (zz U ty82 U U U) U<|su (zw U U) U<|sa U U<|qc<|qo ?_;obtain rfl := Option.some.inj hR;exact resN U ⟨qat U U, rv_g U, O⟩ (by simp)
def qfi  (x1 : Int) : Int :=
 x1
def qil (a0 : S115) : Int :=
 (bif (decide ((qot a0) = 0)) && (decide ((List.length (s104 a0.Period) : Int) = 0)) then qfi 12 else qfi (qot a0))
theorem q6k {g : GL} (a0 : S115)    : Con (EG g) 134 [G.agg (S115.c a0)] (G.int (qil a0)) := by
 generalize hR : qil a0 = R;unfold qil at hR;refine qm Tryz.func134 U U fun w0 M0 => ?_;refine qb<|qa [.p, .p]<|su (zg U U) U<|sa U U<|qc<|qb<|qa [.p, .p, .p]<|su (qp U w5 U U U) U<|su (qf U zcn U (zco a0) (qe U qj)) U<|sa U U<|qc ?_;refine jy (γ := Int) (fun g => ([(3, .g (G.int g))], [])) (fun g => qfi g = R) ?_ ?_
 ·refine qb<|qa [.p, .p, .p, .p, .p, .p, .p, .p, .p]<|sm U U<|su (jq U U U) U<|sm U U<|sg U U (fun h => qd U wd U) U<|sg U U (fun h => qp U ty46 (gd h U) U U) U<|sg U U (fun h => qf U K104 U (c104 a0.Period (rq_g h).1 (rq_g h).2) (qe (gd h U) qj)) U<|sg U U (fun h => qy (f := cInt) (l := (s104 a0.Period)) U Tryz.underlying38 (gd h U)) U<|sg U U (fun h => jq U (gd h U) U) U<|su (zy U U U U) U<|qc ?_;refine ql _ U (fun h1 => ?_) (fun h1 => ?_)
  ·replace hR := zm hR h1;refine qa [.p]<|sa U U<|qc ?_;exact ⟨U, 12, ⟨U, O⟩, O, U, hR, O⟩
  ·replace hR := zn hR h1;refine qn ?_;exact ⟨U, (qot a0), ⟨U, O⟩, O, U, hR, O⟩
 ·rintro x1 hR;replace hR : qfi x1 = R := hR;unfold qfi at hR;refine qb<|qa [.p, .p]<|sm U U<|sa U U<|qc<|qo ?_;subst hR;exact zb U (rv_g U)
end Go.Sim
