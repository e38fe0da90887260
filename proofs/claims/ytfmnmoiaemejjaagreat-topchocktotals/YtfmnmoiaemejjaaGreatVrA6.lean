/-
  What is proved: lemmas and contracts of functions on the way to the law topChockTotals (part 6).
-/
import Derived.Test.YtfmnmoiaemejjaaGreatVrA5
import Derived.Test.YtfmnmoiaemejjaaGreatVrA3
import Derived.RangeFuncBox
import Derived.RangeFuncNested
import Derived.RangeFuncBound
import Derived.RangeFuncCalls
import Derived.RangeFuncLeaves
import Derived.Shelf.Abstract
import Derived.Shelf.RegionOpen
import Derived.WalkKit
import Derived.OwnWalkIn
import Derived.TacticsInMore
import Derived.LoopNIn
import Derived.LoopIn
import Derived.Maps.AppendAt
import Derived.Lib.Hide
import Derived.Stop.RegionWithIn
import Derived.Sort.QuietIn
set_option linter.unusedSectionVars false
set_option linter.unusedSimpArgs false
set_option linter.unusedVariables false
set_option linter.unnecessarySimpa false
set_option linter.deprecated false
set_option maxRecDepth 10000
namespace Go.Sim
open Go.Proofs
def qdb  : List Int → Nat → Int
 | [], k2 => 0
 | y3 :: t4, k2 => (bif decide (y3 ≠ 0) then y3 else qdb  t4 (k2 + 1))
def s152 (a0 : List Int) : Int :=
 qdb a0 0
theorem c152 {g : GL} (a0 : List Int)    : Con (EG g) 103 [G.sl 1 (List.map cInt a0)] (G.int (s152 a0)) := by
 generalize hR : s152 a0 = R;unfold s152 at hR;refine qm Tryz.func103 rfl rfl fun w0 M0 => ?_;refine zp (f := cInt) (l := a0) 0 rfl fun hla0 => ?_;refine qb<|qa [.p]<|sa rfl rfl<|qc<|qb<|qb<|qa [.p, .p, .p]<|sm rfl rfl<|su (qy (f := cInt) (l := a0) rfl Tryz.underlying170 rfl) rfl<|sm rfl rfl<|qc<|qq<|za (γ := Nat × (List Int)) (fun g => ([(5, .g (G.sl 1 (List.map cInt a0))), (6, .g (G.int (List.length a0 : Int))), (7, .g (G.int ((g.1 : Nat) : Int)))], [])) (fun g => a0.drop g.1 = g.2 ∧ qdb  g.2 g.1 = R) (fun g => List.length g.2) ⟨rfl, (0, a0), ⟨rfl, rfl, rfl, trivial⟩, trivial, rfl, ⟨rfl, (by exact hR)⟩, trivial⟩ ?_
 ·rintro ⟨k2, t4⟩ ⟨hd, hR⟩;replace hd : a0.drop k2 = t4 := hd;replace hR : qdb  t4 k2 = R := hR;refine qb<|qa [.p]<|su (ze rfl rfl rfl) rfl<|qc ?_;refine zp (f := cInt) (l := a0) 5 rfl fun hlz1 => ?_;refine qb ?_;refine ql _ rfl (fun h1 => ?_) (fun h1 => ?_)
  ·replace h1 : (decide (((k2 : Nat) : Int) < (List.length a0 : Int))) = true := h1;obtain ⟨y3, t4, rfl, hx1, hd⟩ := zq hd (decT h1);replace h1 := decT h1;rw [qdb] at hR;(try dsimp only at hR);refine qn<|qb<|qq<|qb<|qa [.p, .p, .p]<|su (z4 (f := cInt) (l := a0) (a := y3) rfl Tryz.underlying170 ty37 rfl rfl (Int.natCast_nonneg _) hx1) rfl<|su (qg rfl ty37 rfl) rfl<|sa rfl rfl<|qc<|qb<|qa [.p, .p]<|sm rfl rfl<|su (zx rfl rfl rfl) rfl<|qc ?_;refine ql _ rfl (fun h3 => ?_) (fun h3 => ?_)
   ·replace hR := zm hR h3;refine qb<|qa [.p, .p]<|sm rfl rfl<|sa rfl rfl<|qc<|qo ?_;subst hR;exact zb rfl (rv_g rfl)
   ·replace h3 : (decide (y3 ≠ 0)) = false := h3;replace hR := zn hR h3;(try simp only [bB] at h3);refine qn<|qa [.p, .p]<|su (zl rfl rfl rfl iE) rfl<|sm rfl rfl<|qc ?_;exact ⟨rfl, (k2 + 1, t4), ⟨rfl, rfl, rfl, trivial⟩, trivial, rfl, ⟨hd, hR⟩, by simp⟩
  ·replace h1 : (decide (((k2 : Nat) : Int) < (List.length a0 : Int))) = false := h1;obtain rfl := zu hd (decF h1);rw [qdb] at hR;refine zr<|qb<|qa [.p]<|sa rfl rfl<|qc<|qo ?_;subst hR;exact zb rfl (rv_g rfl)
def s154 (a0 : Bool) (a1 : Int) : Int :=
 (bif a0 then a1 else 0)
theorem c154 {g : GL} (a0 : Bool) (a1 : Int)    : Con (EG g) 105 [G.bool a0, G.int a1] (G.int (s154 a0 a1)) := by
 generalize hR : s154 a0 a1 = R;unfold s154 at hR;refine qm Tryz.func105 rfl rfl fun w0 M0 => ?_;refine qb<|qa [.p]<|sa rfl rfl<|qc<|qb<|qb<|qa [.p]<|sm rfl rfl<|qc ?_;refine ql _ rfl (fun h1 => ?_) (fun h1 => ?_)
 ·replace hR := zm hR h1;refine qb<|qa [.p, .p]<|sm rfl rfl<|sa rfl rfl<|qc<|qo ?_;subst hR;exact zb rfl (rv_g rfl)
 ·replace hR := zn hR h1;refine qn<|qb<|qa [.p]<|sa rfl rfl<|qc<|qo ?_;subst hR;exact zb rfl (rv_g rfl)
def s155 (a0 : Int) (a1 : Int) (a2 : Int) : Int :=
 (s154 ((decide (a0 < a1)) || (decide (a2 < a0))) 3)
theorem c155 {g : GL} (a0 : Int) (a1 : Int) (a2 : Int)    : Con (EG g) 106 [G.int a0, G.int a1, G.int a2] (G.int (s155 a0 a1 a2)) := by
 generalize hR : s155 a0 a1 a2 = R;unfold s155 at hR;refine qm Tryz.func106 rfl rfl fun w0 M0 => ?_;refine qb<|qa [.p]<|sa rfl rfl<|qc<|qb<|qa [.p, .p, .p, .p, .p, .p, .p, .p, .p, .p]<|sm rfl rfl<|sm rfl rfl<|su (ze rfl rfl rfl) rfl<|sm rfl rfl<|sg rfl rfl (fun h => qk rfl rfl) rfl<|sg rfl rfl (fun h => qk rfl rfl) rfl<|sg rfl rfl (fun h => z6 rfl (gd h rfl) (gd h rfl)) rfl<|su (jm rfl rfl rfl rfl) rfl<|su (qf rfl K154 rfl (c154 ((decide (a0 < a1)) || (decide (a2 < a0))) 3) (qe rfl (qe rfl qj))) rfl<|sa rfl rfl<|qc<|qo ?_;subst hR;exact zb rfl (rv_g rfl)
def s153 (a0 : Int) : Int :=
 (s155 a0 0 99999)
theorem c153 {g : GL} (a0 : Int)    : Con (EG g) 104 [G.int a0] (G.int (s153 a0)) := by
 generalize hR : s153 a0 = R;unfold s153 at hR;refine qm Tryz.func104 rfl rfl fun w0 M0 => ?_;refine qb<|qa [.p]<|sa rfl rfl<|qc<|qb<|qa [.p, .p, .p]<|sm rfl rfl<|su (qf rfl K155 rfl (c155 a0 0 99999) (qe rfl (qe rfl (qe rfl qj)))) rfl<|sa rfl rfl<|qc<|qo ?_;subst hR;exact zb rfl (rv_g rfl)
def qie  : List Int → Nat → Int
 | [], k2 => 0
 | y3 :: t4, k2 => (bif decide (y3 ≠ 0) then y3 else qie  t4 (k2 + 1))
def s89 (a0 : List Int) : Int :=
 qie a0 0
theorem c89 {g : GL} (a0 : List Int)    : Con (EG g) 133 [G.sl 1 (List.map cInt a0)] (G.int (s89 a0)) := by
 generalize hR : s89 a0 = R;unfold s89 at hR;refine qm Tryz.func133 rfl rfl fun w0 M0 => ?_;refine zp (f := cInt) (l := a0) 0 rfl fun hla0 => ?_;refine qb<|qa [.p]<|sa rfl rfl<|qc<|qb<|qb<|qa [.p]<|sa rfl rfl<|qc<|qq<|za (γ := Nat × (List Int)) (fun g => ([(0, .g (G.sl 1 (List.map cInt a0))), (3, .g (G.int ((g.1 : Nat) : Int)))], [])) (fun g => a0.drop g.1 = g.2 ∧ qie  g.2 g.1 = R) (fun g => List.length g.2) ⟨rfl, (0, a0), ⟨rfl, rfl, trivial⟩, trivial, rfl, ⟨rfl, (by exact hR)⟩, trivial⟩ ?_
 ·rintro ⟨k2, t4⟩ ⟨hd, hR⟩;replace hd : a0.drop k2 = t4 := hd;replace hR : qie  t4 k2 = R := hR;refine qb<|qb<|qa [.p, .p, .p, .p]<|sm rfl rfl<|sm rfl rfl<|su (qy (f := cInt) (l := a0) rfl Tryz.underlying38 rfl) rfl<|su (ze rfl rfl rfl) rfl<|qc ?_;refine zp (f := cInt) (l := a0) 0 rfl fun hlz1 => ?_;refine ql _ rfl (fun h1 => ?_) (fun h1 => ?_)
  ·replace h1 : (decide (((k2 : Nat) : Int) < (List.length a0 : Int))) = true := h1;obtain ⟨y3, t4, rfl, hx1, hd⟩ := zq hd (decT h1);replace h1 := decT h1;rw [qie] at hR;(try dsimp only at hR);refine qn<|qb<|qq<|qb<|qa [.p, .p, .p, .p, .p]<|sm rfl rfl<|sm rfl rfl<|su (z4 (f := cInt) (l := a0) (a := y3) rfl Tryz.underlying38 ty3 rfl rfl (Int.natCast_nonneg _) hx1) rfl<|su (qg rfl ty3 rfl) rfl<|su (zx rfl rfl rfl) rfl<|qc ?_;refine ql _ rfl (fun h3 => ?_) (fun h3 => ?_)
   ·replace hR := zm hR h3;refine qb<|qa [.p, .p, .p, .p, .p]<|sm rfl rfl<|sm rfl rfl<|su (z4 (f := cInt) (l := a0) (a := y3) rfl Tryz.underlying38 ty3 rfl rfl (Int.natCast_nonneg _) hx1) rfl<|su (qg rfl ty3 rfl) rfl<|sa rfl rfl<|qc<|qo ?_;subst hR;exact zb rfl (rv_g rfl)
   ·replace h3 : (decide (y3 ≠ 0)) = false := h3;replace hR := zn hR h3;(try simp only [bB] at h3);refine qn<|qa [.p, .p, .p]<|sm rfl rfl<|su (zl rfl rfl rfl iE) rfl<|sa rfl rfl<|qc ?_;exact ⟨rfl, (k2 + 1, t4), ⟨rfl, rfl, trivial⟩, trivial, rfl, ⟨hd, hR⟩, by simp⟩
  ·replace h1 : (decide (((k2 : Nat) : Int) < (List.length a0 : Int))) = false := h1;obtain rfl := zu hd (decF h1);rw [qie] at hR;refine zr<|qb<|qa [.p]<|sa rfl rfl<|qc<|qo ?_;subst hR;exact zb rfl (rv_g rfl)
def s90 (a0 : Int) (a1 : Int) (a2 : Int) : Int :=
 (bif (decide (a0 < a1)) || (decide (a2 < a0)) then 3 else 0)
theorem c90 {g : GL} (a0 : Int) (a1 : Int) (a2 : Int)    : Con (EG g) 139 [G.int a0, G.int a1, G.int a2] (G.int (s90 a0 a1 a2)) := by
 generalize hR : s90 a0 a1 a2 = R;unfold s90 at hR;refine qm Tryz.func139 rfl rfl fun w0 M0 => ?_;refine qb<|qa [.p]<|sa rfl rfl<|qc<|qb<|qb<|qa [.p, .p, .p, .p, .p, .p, .p, .p]<|sm rfl rfl<|sm rfl rfl<|su (ze rfl rfl rfl) rfl<|sm rfl rfl<|sg rfl rfl (fun h => qk rfl rfl) rfl<|sg rfl rfl (fun h => qk rfl rfl) rfl<|sg rfl rfl (fun h => z6 rfl (gd h rfl) (gd h rfl)) rfl<|su (jm rfl rfl rfl rfl) rfl<|qc ?_;refine ql _ rfl (fun h1 => ?_) (fun h1 => ?_)
 ·replace hR := zm hR h1;refine qb<|qa [.p]<|sa rfl rfl<|qc<|qo ?_;subst hR;exact zb rfl (rv_g rfl)
 ·replace hR := zn hR h1;refine qn<|qb<|qa [.p]<|sa rfl rfl<|qc<|qo ?_;subst hR;exact zb rfl (rv_g rfl)
def s109 (a0 : Int) : Int :=
 (s90 a0 0 99999)
theorem c109 {g : GL} (a0 : Int)    : Con (EG g) 177 [G.int a0] (G.int (s109 a0)) := by
 generalize hR : s109 a0 = R;unfold s109 at hR;refine qm Tryz.func177 rfl rfl fun w0 M0 => ?_;refine qb<|qa [.p]<|sa rfl rfl<|qc<|qb<|qa [.p, .p, .p]<|sm rfl rfl<|su (qf rfl K90 rfl (c90 a0 0 99999) (qe rfl (qe rfl (qe rfl qj)))) rfl<|sa rfl rfl<|qc<|qo ?_;subst hR;exact zb rfl (rv_g rfl)
def s183 (a0 : ByteArray) : Bool :=
 !decide (a0 = a0)
theorem c183 {g : GL} (a0 : ByteArray)    : Con (EG g) 180 [G.str a0] (G.bool (s183 a0)) := by
 generalize hR : s183 a0 = R;unfold s183 at hR;refine qm Tryz.func180 rfl rfl fun w0 M0 => ?_;refine qb<|qa [.p]<|sa rfl rfl<|qc<|qb<|qa [.p, .p, .p, .p]<|sm rfl rfl<|sm rfl rfl<|su (qc5 rfl rfl rfl) rfl<|sa rfl rfl<|qc<|qo ?_;subst hR;exact zb rfl (rv_g rfl)
def s133 (a0 : ByteArray) (a1 : ByteArray) : Int :=
 (bif (s183 a0) then (bif (s183 a1) then 0 else (-1)) else (bif (s183 a1) then 1 else (bif qa9 a0 a1 then (-1) else (bif !(qa9 a0 a1 || decide (a0 = a1)) then 1 else 0))))
theorem c133 {g : GL} (a0 : ByteArray) (a1 : ByteArray)    : Con (EG g) 144 [G.str a0, G.str a1] (G.int (s133 a0 a1)) := by
 generalize hR : s133 a0 a1 = R;unfold s133 at hR;refine qm Tryz.func144 rfl rfl fun w0 M0 => ?_;refine qb<|qa [.p]<|sa rfl rfl<|qc<|qb<|qa [.p, .p, .p]<|sm rfl rfl<|su (qf rfl K183 rfl (c183 a0) (qe rfl qj)) rfl<|sa rfl rfl<|qc<|qb<|qa [.p, .p, .p]<|sm rfl rfl<|su (qf rfl K183 rfl (c183 a1) (qe rfl qj)) rfl<|sa rfl rfl<|qc<|qb<|qb<|qa [.p]<|sm rfl rfl<|qc ?_;refine ql _ rfl (fun h1 => ?_) (fun h1 => ?_)
 ·replace h1 : ((s183 a0)) = true := h1;replace hR := zm hR h1;(try simp only [bB] at h1);refine qb<|qb<|qa [.p]<|sm rfl rfl<|qc ?_;refine ql _ rfl (fun h2 => ?_) (fun h2 => ?_)
  ·replace hR := zm hR h2;refine qb<|qa [.p]<|sa rfl rfl<|qc<|qo ?_;subst hR;exact zb rfl (rv_g rfl)
  ·replace hR := zn hR h2;refine qn<|qb<|qa [.p]<|sa rfl rfl<|qc<|qo ?_;subst hR;exact zb rfl (rv_g rfl)
 ·replace h1 : ((s183 a0)) = false := h1;replace hR := zn hR h1;(try simp only [bB] at h1);refine qn<|qb<|qb<|qa [.p]<|sm rfl rfl<|qc ?_;refine ql _ rfl (fun h3 => ?_) (fun h3 => ?_)
  ·replace hR := zm hR h3;refine qb<|qa [.p]<|sa rfl rfl<|qc<|qo ?_;subst hR;exact zb rfl (rv_g rfl)
  ·replace h3 : ((s183 a1)) = false := h3;replace hR := zn hR h3;(try simp only [bB] at h3);refine qn<|qb<|qb<|qa [.p, .p, .p]<|sm rfl rfl<|sm rfl rfl<|su (qvu rfl rfl rfl) rfl<|qc ?_;refine ql _ rfl (fun h4 => ?_) (fun h4 => ?_)
   ·replace hR := zm hR h4;refine qb<|qa [.p]<|sa rfl rfl<|qc<|qo ?_;subst hR;exact zb rfl (rv_g rfl)
   ·replace h4 : (qa9 a0 a1) = false := h4;replace hR := zn hR h4;(try simp only [bB] at h4);refine qn<|qb<|qb<|qa [.p, .p, .p]<|sm rfl rfl<|sm rfl rfl<|su (q3y rfl rfl rfl) rfl<|qc ?_;refine ql _ rfl (fun h5 => ?_) (fun h5 => ?_)
    ·replace hR := zm hR h5;refine qb<|qa [.p]<|sa rfl rfl<|qc<|qo ?_;subst hR;exact zb rfl (rv_g rfl)
    ·replace hR := zn hR h5;refine qn<|qb<|qa [.p]<|sa rfl rfl<|qc<|qo ?_;subst hR;exact zb rfl (rv_g rfl)
def s202 (a0 : Int) : Bool :=
 decide (a0 ≠ a0)
theorem c202 {g : GL} (a0 : Int)    : Con (EG g) 179 [G.int a0] (G.bool (s202 a0)) := by
 generalize hR : s202 a0 = R;unfold s202 at hR;refine qm Tryz.func179 rfl rfl fun w0 M0 => ?_;refine qb<|qa [.p]<|sa rfl rfl<|qc<|qb<|qa [.p, .p, .p, .p]<|sm rfl rfl<|sm rfl rfl<|su (zx rfl rfl rfl) rfl<|sa rfl rfl<|qc<|qo ?_;subst hR;exact zb rfl (rv_g rfl)
def s167 (a0 : Int) (a1 : Int) : Int :=
 (bif (s202 a0) then (bif (s202 a1) then 0 else (-1)) else (bif (s202 a1) then 1 else (bif decide (a0 < a1) then (-1) else (bif decide (a1 < a0) then 1 else 0))))
theorem c167 {g : GL} (a0 : Int) (a1 : Int)    : Con (EG g) 143 [G.int a0, G.int a1] (G.int (s167 a0 a1)) := by
 generalize hR : s167 a0 a1 = R;unfold s167 at hR;refine qm Tryz.func143 rfl rfl fun w0 M0 => ?_;refine qb<|qa [.p]<|sa rfl rfl<|qc<|qb<|qa [.p, .p, .p]<|sm rfl rfl<|su (qf rfl K202 rfl (c202 a0) (qe rfl qj)) rfl<|sa rfl rfl<|qc<|qb<|qa [.p, .p, .p]<|sm rfl rfl<|su (qf rfl K202 rfl (c202 a1) (qe rfl qj)) rfl<|sa rfl rfl<|qc<|qb<|qb<|qa [.p]<|sm rfl rfl<|qc ?_;refine ql _ rfl (fun h1 => ?_) (fun h1 => ?_)
 ·replace h1 : ((s202 a0)) = true := h1;replace hR := zm hR h1;(try simp only [bB] at h1);refine qb<|qb<|qa [.p]<|sm rfl rfl<|qc ?_;refine ql _ rfl (fun h2 => ?_) (fun h2 => ?_)
  ·replace hR := zm hR h2;refine qb<|qa [.p]<|sa rfl rfl<|qc<|qo ?_;subst hR;exact zb rfl (rv_g rfl)
  ·replace hR := zn hR h2;refine qn<|qb<|qa [.p]<|sa rfl rfl<|qc<|qo ?_;subst hR;exact zb rfl (rv_g rfl)
 ·replace h1 : ((s202 a0)) = false := h1;replace hR := zn hR h1;(try simp only [bB] at h1);refine qn<|qb<|qb<|qa [.p]<|sm rfl rfl<|qc ?_;refine ql _ rfl (fun h3 => ?_) (fun h3 => ?_)
  ·replace hR := zm hR h3;refine qb<|qa [.p]<|sa rfl rfl<|qc<|qo ?_;subst hR;exact zb rfl (rv_g rfl)
  ·replace h3 : ((s202 a1)) = false := h3;replace hR := zn hR h3;(try simp only [bB] at h3);refine qn<|qb<|qb<|qa [.p, .p, .p]<|sm rfl rfl<|sm rfl rfl<|su (ze rfl rfl rfl) rfl<|qc ?_;refine ql _ rfl (fun h4 => ?_) (fun h4 => ?_)
   ·replace hR := zm hR h4;refine qb<|qa [.p]<|sa rfl rfl<|qc<|qo ?_;subst hR;exact zb rfl (rv_g rfl)
   ·replace h4 : (decide (a0 < a1)) = false := h4;replace hR := zn hR h4;(try simp only [bB] at h4);refine qn<|qb<|qb<|qa [.p, .p, .p]<|sm rfl rfl<|sm rfl rfl<|su (z6 rfl rfl rfl) rfl<|qc ?_;refine ql _ rfl (fun h5 => ?_) (fun h5 => ?_)
    ·replace hR := zm hR h5;refine qb<|qa [.p]<|sa rfl rfl<|qc<|qo ?_;subst hR;exact zb rfl (rv_g rfl)
    ·replace hR := zn hR h5;refine qn<|qb<|qa [.p]<|sa rfl rfl<|qc<|qo ?_;subst hR;exact zb rfl (rv_g rfl)
def s188 (a0 : Int) : Int :=
 Int.tmod (IntKind.i64.wrap (a0 + 5)) 7
theorem c188 {g : GL} (a0 : Int)    : Con (EG g) 190 [G.int a0] (G.int (s188 a0)) := by
 generalize hR : s188 a0 = R;unfold s188 at hR;refine qm Tryz.func190 rfl rfl fun w0 M0 => ?_;refine qb<|qa [.p]<|sa rfl rfl<|qc<|qb<|qa [.p, .p, .p, .p]<|sm rfl rfl<|su (jo rfl rfl rfl) rfl ?_;refine su (qhe rfl rfl rfl (by decide)) rfl ?_;refine sa rfl rfl<|qc<|qo ?_;subst hR;exact zb rfl (rv_g rfl)
def qcx  : List Int → Nat → Int
 | [], k2 => 0
 | y3 :: t4, k2 => (bif decide (y3 ≠ 0) then y3 else qcx  t4 (k2 + 1))
def qyl (a0 : List Int) : Int :=
 qcx a0 0
theorem zef {g : GL} (a0 : List Int)    : Con (EG g) 182 [G.sl 1 (List.map cInt a0)] (G.int (qyl a0)) := by
 generalize hR : qyl a0 = R;unfold qyl at hR;refine qm Tryz.func182 rfl rfl fun w0 M0 => ?_;refine zp (f := cInt) (l := a0) 0 rfl fun hla0 => ?_;refine qb<|qa [.p]<|sa rfl rfl<|qc<|qb<|qb<|qa [.p, .p, .p]<|sm rfl rfl<|su (qy (f := cInt) (l := a0) rfl Tryz.underlying170 rfl) rfl<|sm rfl rfl<|qc<|qq<|za (γ := Nat × (List Int)) (fun g => ([(5, .g (G.sl 1 (List.map cInt a0))), (6, .g (G.int (List.length a0 : Int))), (7, .g (G.int ((g.1 : Nat) : Int)))], [])) (fun g => a0.drop g.1 = g.2 ∧ qcx  g.2 g.1 = R) (fun g => List.length g.2) ⟨rfl, (0, a0), ⟨rfl, rfl, rfl, trivial⟩, trivial, rfl, ⟨rfl, (by exact hR)⟩, trivial⟩ ?_
 ·rintro ⟨k2, t4⟩ ⟨hd, hR⟩;replace hd : a0.drop k2 = t4 := hd;replace hR : qcx  t4 k2 = R := hR;refine qb<|qa [.p]<|su (ze rfl rfl rfl) rfl<|qc ?_;refine zp (f := cInt) (l := a0) 5 rfl fun hlz1 => ?_;refine qb ?_;refine ql _ rfl (fun h1 => ?_) (fun h1 => ?_)
  ·replace h1 : (decide (((k2 : Nat) : Int) < (List.length a0 : Int))) = true := h1;obtain ⟨y3, t4, rfl, hx1, hd⟩ := zq hd (decT h1);replace h1 := decT h1;rw [qcx] at hR;(try dsimp only at hR);refine qn<|qb<|qq<|qb<|qa [.p, .p, .p]<|su (z4 (f := cInt) (l := a0) (a := y3) rfl Tryz.underlying170 ty37 rfl rfl (Int.natCast_nonneg _) hx1) rfl<|su (qg rfl ty37 rfl) rfl<|sa rfl rfl<|qc<|qb<|qa [.p, .p]<|sm rfl rfl<|su (zx rfl rfl rfl) rfl<|qc ?_;refine ql _ rfl (fun h3 => ?_) (fun h3 => ?_)
   ·replace hR := zm hR h3;refine qb<|qa [.p, .p]<|sm rfl rfl<|sa rfl rfl<|qc<|qo ?_;subst hR;exact zb rfl (rv_g rfl)
   ·replace h3 : (decide (y3 ≠ 0)) = false := h3;replace hR := zn hR h3;(try simp only [bB] at h3);refine qn<|qa [.p, .p]<|su (zl rfl rfl rfl iE) rfl<|sm rfl rfl<|qc ?_;exact ⟨rfl, (k2 + 1, t4), ⟨rfl, rfl, rfl, trivial⟩, trivial, rfl, ⟨hd, hR⟩, by simp⟩
  ·replace h1 : (decide (((k2 : Nat) : Int) < (List.length a0 : Int))) = false := h1;obtain rfl := zu hd (decF h1);rw [qcx] at hR;refine zr<|qb<|qa [.p]<|sa rfl rfl<|qc<|qo ?_;subst hR;exact zb rfl (rv_g rfl)
def qi5 (a0 : Bool) (a1 : Int) : Int :=
 (bif a0 then a1 else 0)
theorem qza {g : GL} (a0 : Bool) (a1 : Int)    : Con (EG g) 185 [G.bool a0, G.int a1] (G.int (qi5 a0 a1)) := by
 generalize hR : qi5 a0 a1 = R;unfold qi5 at hR;refine qm Tryz.func185 rfl rfl fun w0 M0 => ?_;refine qb<|qa [.p]<|sa rfl rfl<|qc<|qb<|qb<|qa [.p]<|sm rfl rfl<|qc ?_;refine ql _ rfl (fun h1 => ?_) (fun h1 => ?_)
 ·replace hR := zm hR h1;refine qb<|qa [.p, .p]<|sm rfl rfl<|sa rfl rfl<|qc<|qo ?_;subst hR;exact zb rfl (rv_g rfl)
 ·replace hR := zn hR h1;refine qn<|qb<|qa [.p]<|sa rfl rfl<|qc<|qo ?_;subst hR;exact zb rfl (rv_g rfl)
def qjg (a0 : Int) (a1 : Int) (a2 : Int) : Int :=
 (qi5 ((decide (a0 < a1)) || (decide (a2 < a0))) 3)
theorem q1p {g : GL} (a0 : Int) (a1 : Int) (a2 : Int)    : Con (EG g) 187 [G.int a0, G.int a1, G.int a2] (G.int (qjg a0 a1 a2)) := by
 generalize hR : qjg a0 a1 a2 = R;unfold qjg at hR;refine qm Tryz.func187 rfl rfl fun w0 M0 => ?_;refine qb<|qa [.p]<|sa rfl rfl<|qc<|qb<|qa [.p, .p, .p, .p, .p, .p, .p, .p, .p, .p]<|sm rfl rfl<|sm rfl rfl<|su (ze rfl rfl rfl) rfl<|sm rfl rfl<|sg rfl rfl (fun h => qk rfl rfl) rfl<|sg rfl rfl (fun h => qk rfl rfl) rfl<|sg rfl rfl (fun h => z6 rfl (gd h rfl) (gd h rfl)) rfl<|su (jm rfl rfl rfl rfl) rfl<|su (qf rfl qzb rfl (qza ((decide (a0 < a1)) || (decide (a2 < a0))) 3) (qe rfl (qe rfl qj))) rfl<|sa rfl rfl<|qc<|qo ?_;subst hR;exact zb rfl (rv_g rfl)
def qa5 (rec1 : Int → (List S1079) → Option (List S1079)) (a1 : Int) (a3 : S1079 → S1079 → Option Int) (x1 : Int) : Nat → Int → (List S1079) → Option (List S1079)
 | 0, _, _ => none
 | k8 + 1, x5, x6 => qz (bif decide (a1 < x5) then ixO x6 x5 else some default) fun y9 => qz (bif decide (a1 < x5) then ixO x6 (x5 - 1) else some default) fun y10 => qz (bif decide (a1 < x5) then a3 y9 y10 else some default) fun r11 => (bif (decide (a1 < x5)) && (decide (r11 < 0)) then qz (ixO x6 (x5 - 1)) fun y12 => qz (ixO x6 x5) fun y13 => qz (ixO x6 x5) fun y14 => qz (ixO (List.set x6 (Int.toNat x5) y12) (x5 - 1)) fun y15 => qa5 rec1 a1 a3 x1 k8 (x5 - 1) (List.set (List.set x6 (Int.toNat x5) y12) (Int.toNat (x5 - 1)) y13) else rec1 (x1 + 1) x6)
def xi (a1 : Int) (a3 : S1079 → S1079 → Option Int) : Nat → Int → (List S1079) → Option (List S1079)
 | 0, x1, x2 => some x2
 | k4 + 1, x1, x2 => qa5 (fun z0_ z1_ => xi a1 a3 k4 z0_ z1_) a1 a3 x1 (((x1 - a1).toNat) + 1) x1 x2
def qqv (a0 : List S1079) (a1 : Int) (a2 : Int) (a3 : S1079 → S1079 → Option Int) : Option (List S1079) :=
 xi a1 a3 ((a2 - (a1 + 1)).toNat) (a1 + 1) a0
theorem q9i {g : GL} (a0 : List S1079) (a1 : Int) (a2 : Int) (a3 : S1079 → S1079 → Option Int) {R : List S1079} {N0 : Nat} (hN0 : List.length a0 = N0) {ca3 : G} {ia3 : FuncId} {ka3 : List G} (ha3 : FnIs ca3 ia3 ka3) (Ka3 : zf Tryz.prog ia3) (Ha3 : ∀ (x0 : S1079) (x1 : S1079) (r : Int), a3 x0 x1 = some r → Con (EG g) ia3 ([G.agg (S1079.c x0), G.agg (S1079.c x1)] ++ ka3) (G.int r)) (hA : 0 ≤ a1) (hA2 : a1 ≤ 1000000) (hB : a2 ≤ 1000000) (hR : qqv a0 a1 a2 a3 = some R) : ConB (EG g) 195 [.osl 0 7 0 N0, .g (G.int a1), .g (G.int a2), .g (ca3)] [(0, .arr 53 7 (List.map S1079.c a0))] (G.tup []) [(0, .arr 53 7 (List.map S1079.c R))] := by
 unfold qqv at hR;refine qan Tryz.func195 rfl rfl rfl fun w0 M0 x => ?_;refine qgj (f := S1079.c) (l := a0) 0 rfl fun hla0 => ?_;refine qb<|qa [.p, .p, .p]<|sm rfl rfl<|su (zl rfl rfl rfl iF) rfl<|sa rfl rfl<|qc<|qq<|za (γ := Nat × Int × (List S1079)) (fun g => ([(0, .osl 0 7 0 (N0)), (1, .g (G.int a1)), (2, .g (G.int a2)), (3, .g (ca3)), (8, .g (G.int g.2.1))], [(0, .arr 53 7 (List.map S1079.c g.2.2))])) (fun g => g.1 = (a2 - g.2.1).toNat ∧ (a1 + 1) ≤ g.2.1 ∧ List.length g.2.2 = N0 ∧ xi a1 a3 g.1 g.2.1 g.2.2 = some R) (fun g => g.1) ⟨rfl, ((a2 - (a1 + 1)).toNat, a1 + 1, a0), jA, ⟨rfl, trivial⟩, rfl, ⟨rfl, iD, hN0, (by exact hR)⟩, trivial⟩ ?_
 ·rintro ⟨k4, x1, x2⟩ ⟨hk1, iv1_0, ln3, hR⟩;replace hk1 : k4 = (a2 - x1).toNat := hk1;replace hR : xi a1 a3 k4 x1 x2 = some R := hR;replace iv1_0 : (a1 + 1) ≤ x1 := iv1_0;replace ln3 : List.length x2 = N0 := ln3;refine qb<|qb<|qa [.p, .p, .p]<|sm rfl rfl<|sm rfl rfl<|su (ze rfl rfl rfl) rfl<|qc ?_;refine ql _ rfl (fun h1 => ?_) (fun h1 => ?_)
  ·replace h1 : (decide (x1 < a2)) = true := h1;replace h1 := decT h1;obtain ⟨k4, rfl⟩ : ∃ m, k4 = m + 1 := ⟨k4 - 1, by omega⟩;rw [xi] at hR;(try dsimp only at hR);refine qn<|qb<|qq<|qb<|qa [.p, .p]<|sm rfl rfl<|sa rfl rfl<|qc<|qq<|za (γ := Nat × Int × (List S1079)) (fun g => ([(0, .osl 0 7 0 (N0)), (1, .g (G.int a1)), (2, .g (G.int a2)), (3, .g (ca3)), (8, .g (G.int x1)), (9, .g (G.int g.2.1))], [(0, .arr 53 7 (List.map S1079.c g.2.2))])) (fun g => (g.2.1 - a1).toNat < g.1 ∧ a1 ≤ g.2.1 ∧ g.2.1 ≤ 1000000 ∧ List.length g.2.2 = N0 ∧ qa5 (fun z0_ z1_ => xi a1 a3 k4 z0_ z1_) a1 a3 x1 g.1 g.2.1 g.2.2 = some R) (fun g => g.1) ⟨rfl, (((x1 - a1).toNat) + 1, x1, x2), jA, ⟨rfl, trivial⟩, rfl, ⟨Nat.lt_succ_self _, iD, iD, ln3, (by exact hR)⟩, trivial⟩ ?_
   ·rintro ⟨k8, x5, x6⟩ ⟨hk2, iv2_0, iv2_1, ln7, hR⟩;replace hk2 : (x5 - a1).toNat < k8 := hk2;replace hR : qa5 (fun z0_ z1_ => xi a1 a3 k4 z0_ z1_) a1 a3 x1 k8 x5 x6 = some R := hR;replace iv2_0 : a1 ≤ x5 := iv2_0;replace iv2_1 : x5 ≤ 1000000 := iv2_1;replace ln7 : List.length x6 = N0 := ln7;obtain ⟨k8, rfl⟩ : ∃ m, k8 = m + 1 := ⟨k8 - 1, by omega⟩;rw [qa5] at hR;(try dsimp only at hR);refine qb<|qb ?_;obtain ⟨y9, by9, hR⟩ := qi hR;obtain ⟨y10, by10, hR⟩ := qi hR;obtain ⟨r11, br11, hR⟩ := qi hR;refine zt [.p, .p, .p, .p, .p, .p, .p, .p, .r, .p, .p, .p, .p, .r, .p, .p, .p] (by kernel_rfl)<|sm rfl rfl<|sm rfl rfl<|su (z6 rfl rfl rfl) rfl<|sm rfl rfl<|sg rfl rfl (fun h => qk rfl rfl) rfl<|sg rfl rfl (fun h => zd rfl rfl) rfl<|sg rfl rfl (fun h => qk rfl rfl) rfl<|sg rfl rfl (fun h => vc rfl Tryz.underlying48 jd (gd h rfl) (gd h rfl) (jl (xm by9 h)) (Nat.lt_of_lt_of_eq (jv (zk (xm by9 h))) ln7)) rfl<|qk0 rfl rfl rfl (ji _ _) (fun h => xh (f := S1079.c) (l := x6) (a := y9) rfl jd (gd h rfl) rfl (zk (xm by9 h))) rfl<|sg rfl rfl (fun h => zd rfl rfl) rfl<|sg rfl rfl (fun h => qk rfl rfl) rfl<|sg rfl rfl (fun h => vm rfl (gd h rfl) rfl iF) rfl<|sg rfl rfl (fun h => vc rfl Tryz.underlying48 jd (gd h rfl) (gd h rfl) (jl (xm by10 h)) (Nat.lt_of_lt_of_eq (jv (zk (xm by10 h))) ln7)) rfl<|qk0 rfl rfl rfl (ji _ _) (fun h => xh (f := S1079.c) (l := x6) (a := y10) rfl jd (gd h rfl) rfl (zk (xm by10 h))) rfl<|sg rfl rfl (fun h => xf rfl ha3 Ka3 (gd h rfl) (Con.lend (Ha3 y9 y10 _ (xm br11 h))) (qe (gd h rfl) (qe (gd h rfl) qj))) rfl<|sg rfl rfl (fun h => ze rfl (gd h rfl) rfl) rfl<|su (zy rfl rfl rfl rfl) rfl<|qc ?_;refine ql _ rfl (fun h3 => ?_) (fun h3 => ?_)
    ·replace h3 : ((decide (a1 < x5)) && (decide (r11 < 0))) = true := h3;replace hR := zm hR h3;(try simp only [bB] at h3);refine qn<|qb<|qq ?_;obtain ⟨y12, by12, hR⟩ := qi hR;obtain ⟨y13, by13, hR⟩ := qi hR;obtain ⟨y14, by14, hR⟩ := qi hR;obtain ⟨y15, by15, hR⟩ := qi hR;refine zt [.p, .p, .p, .p, .p, .p, .p, .p, .p, .r, .p, .p, .p, .r, .p, .w, .p, .w] (by kernel_rfl)<|su (zd rfl rfl) rfl<|sm rfl rfl<|su (zd rfl rfl) rfl<|sm rfl rfl<|su (vm rfl rfl rfl iF) rfl<|su (zd rfl rfl) rfl<|sm rfl rfl<|su (vm rfl rfl rfl iF) rfl<|su (vc rfl Tryz.underlying48 jd rfl rfl (jl by12) (Nat.lt_of_lt_of_eq (jv (zk by12)) ln7)) rfl<|sr (xh (f := S1079.c) (l := x6) (a := y12) rfl jd rfl rfl (zk by12)) rfl<|su (zd rfl rfl) rfl<|sm rfl rfl<|su (vc rfl Tryz.underlying48 jd rfl rfl (jl by13) (Nat.lt_of_lt_of_eq (jv (zk by13)) ln7)) rfl<|sr (xh (f := S1079.c) (l := x6) (a := y13) rfl jd rfl rfl (zk by13)) rfl<|su (vc rfl Tryz.underlying48 jd rfl rfl (jl by14) (Nat.lt_of_lt_of_eq (jv (zk by14)) ln7)) rfl<|z7 rfl rfl (qay (f := S1079.c) (l := x6) (a' := y12) rfl jd rfl rfl rfl (Nat.lt_of_lt_of_eq (Nat.lt_of_lt_of_eq (jv (zk by14)) ln7) (Eq.symm ln7)) rfl (fun _ => rfl))<|su (vc rfl Tryz.underlying48 jd rfl rfl (jl by15) (Nat.lt_of_lt_of_eq (jv (zk by15)) ((List.length_set ..).trans ln7))) rfl<|z7 rfl rfl (qay (f := S1079.c) (l := List.set x6 (Int.toNat x5) y12) (a' := y13) rfl jd rfl rfl rfl (Nat.lt_of_lt_of_eq (Nat.lt_of_lt_of_eq (jv (zk by15)) ((List.length_set ..).trans ln7)) (Eq.symm ((List.length_set ..).trans ln7))) rfl (fun _ => rfl))<|qc<|qa [.p, .p, .p]<|sm rfl rfl<|su (vm rfl rfl rfl iF) rfl<|sa rfl rfl<|qc ?_;exact ⟨rfl, (k8, x5 - 1, List.set (List.set x6 (Int.toNat x5) y12) (Int.toNat (x5 - 1)) y13), ⟨(by simp only [List.length_set]; rfl), rfl, rfl, rfl, rfl, rfl, trivial⟩, ⟨rfl, trivial⟩, rfl, ⟨iB, iB, iB, ((List.length_set ..).trans ((List.length_set ..).trans ln7)), hR⟩, by simp⟩
    ·replace h3 : ((decide (a1 < x5)) && (decide (r11 < 0))) = false := h3;replace hR := zn hR h3;(try simp only [bB] at h3);refine zr<|qa [.p, .p, .p]<|sm rfl rfl<|su (zl rfl rfl rfl iG) rfl<|sa rfl rfl<|qc ?_;exact ⟨rfl, (k4, x1 + 1, x6), jA, ⟨rfl, trivial⟩, rfl, ⟨iB, iB, ln7, hR⟩, by simp⟩
  ·replace h1 : (decide (x1 < a2)) = false := h1;replace h1 := decF h1
   obtain rfl : k4 = 0 := by omega
   rw [xi] at hR;refine zr ?_;obtain rfl := Option.some.inj hR;show ResOk _ _ _ _ ∧ MemL _ _;exact ⟨res0 rfl, ⟨rfl, trivial⟩⟩
def qae (a1 : Int) (a2 : Int) : Nat → Int → (List S1079) → Option (List S1079)
 | 0, x1, x2 => some x2
 | k5 + 1, x1, x2 => qz (ixO x2 (a2 + x1)) fun y6 => qz (ixO x2 (a1 + x1)) fun y7 => qz (ixO x2 (a1 + x1)) fun y8 => qz (ixO (List.set x2 (Int.toNat (a1 + x1)) y6) (a2 + x1)) fun y9 => qae a1 a2 k5 (x1 + 1) (List.set (List.set x2 (Int.toNat (a1 + x1)) y6) (Int.toNat (a2 + x1)) y7)
def qqt (a0 : List S1079) (a1 : Int) (a2 : Int) (a3 : Int) (a4 : S1079 → S1079 → Option Int) : Option (List S1079) :=
 qae a1 a2 ((a3 - 0).toNat) 0 a0
theorem q5y {g : GL} (a0 : List S1079) (a1 : Int) (a2 : Int) (a3 : Int) (a4 : S1079 → S1079 → Option Int) {R : List S1079} {N0 : Nat} (hN0 : List.length a0 = N0) {ca4 : G} {ia4 : FuncId} {ka4 : List G} (ha4 : FnIs ca4 ia4 ka4) (Ka4 : zf Tryz.prog ia4) (Ha4 : ∀ (x0 : S1079) (x1 : S1079) (r : Int), a4 x0 x1 = some r → Con (EG g) ia4 ([G.agg (S1079.c x0), G.agg (S1079.c x1)] ++ ka4) (G.int r)) (hA : 0 ≤ a1) (hA2 : a1 ≤ 60000) (hB : 0 ≤ a2) (hB2 : a2 ≤ 60000) (hN : a3 ≤ 60000) (hR : qqt a0 a1 a2 a3 a4 = some R) : ConB (EG g) 198 [.osl 0 7 0 N0, .g (G.int a1), .g (G.int a2), .g (G.int a3), .g (ca4)] [(0, .arr 53 7 (List.map S1079.c a0))] (G.tup []) [(0, .arr 53 7 (List.map S1079.c R))] := by
 unfold qqt at hR;refine qan Tryz.func198 rfl rfl rfl fun w0 M0 x => ?_;refine qgj (f := S1079.c) (l := a0) 0 rfl fun hla0 => ?_;refine qb<|qa [.p]<|sa rfl rfl<|qc<|qq<|za (γ := Nat × Int × (List S1079)) (fun g => ([(0, .osl 0 7 0 (N0)), (1, .g (G.int a1)), (2, .g (G.int a2)), (3, .g (G.int a3)), (10, .g (G.int g.2.1))], [(0, .arr 53 7 (List.map S1079.c g.2.2))])) (fun g => g.1 = (a3 - g.2.1).toNat ∧ 0 ≤ g.2.1 ∧ List.length g.2.2 = N0 ∧ qae a1 a2 g.1 g.2.1 g.2.2 = some R) (fun g => g.1) ⟨rfl, ((a3 - 0).toNat, 0, a0), jA, ⟨rfl, trivial⟩, rfl, ⟨rfl, iD, hN0, (by exact hR)⟩, trivial⟩ ?_
 ·rintro ⟨k5, x1, x2⟩ ⟨hk1, iv1_0, ln3, hR⟩;replace hk1 : k5 = (a3 - x1).toNat := hk1;replace hR : qae a1 a2 k5 x1 x2 = some R := hR;replace iv1_0 : 0 ≤ x1 := iv1_0;replace ln3 : List.length x2 = N0 := ln3;refine qb<|qb<|qa [.p, .p, .p]<|sm rfl rfl<|sm rfl rfl<|su (ze rfl rfl rfl) rfl<|qc ?_;refine ql _ rfl (fun h1 => ?_) (fun h1 => ?_)
  ·replace h1 : (decide (x1 < a3)) = true := h1;replace h1 := decT h1;obtain ⟨k5, rfl⟩ : ∃ m, k5 = m + 1 := ⟨k5 - 1, by omega⟩;rw [qae] at hR;(try dsimp only at hR);refine qn<|qb<|qq ?_;obtain ⟨y6, by6, hR⟩ := qi hR;obtain ⟨y7, by7, hR⟩ := qi hR;obtain ⟨y8, by8, hR⟩ := qi hR;obtain ⟨y9, by9, hR⟩ := qi hR;refine zt [.p, .p, .p, .p, .p, .p, .p, .p, .p, .p, .p, .p, .p, .r, .p, .p, .p, .p, .p, .r, .p, .w, .p, .w] (by kernel_rfl)<|su (zd rfl rfl) rfl<|sm rfl rfl<|sm rfl rfl<|su (zl rfl rfl rfl iF) rfl<|su (zd rfl rfl) rfl<|sm rfl rfl<|sm rfl rfl<|su (zl rfl rfl rfl iF) rfl<|su (zd rfl rfl) rfl<|sm rfl rfl<|sm rfl rfl<|su (zl rfl rfl rfl iF) rfl<|su (vc rfl Tryz.underlying48 jd rfl rfl (jl by6) (Nat.lt_of_lt_of_eq (jv (zk by6)) ln3)) rfl<|sr (xh (f := S1079.c) (l := x2) (a := y6) rfl jd rfl rfl (zk by6)) rfl<|su (zd rfl rfl) rfl<|sm rfl rfl<|sm rfl rfl<|su (zl rfl rfl rfl iF) rfl<|su (vc rfl Tryz.underlying48 jd rfl rfl (jl by7) (Nat.lt_of_lt_of_eq (jv (zk by7)) ln3)) rfl<|sr (xh (f := S1079.c) (l := x2) (a := y7) rfl jd rfl rfl (zk by7)) rfl<|su (vc rfl Tryz.underlying48 jd rfl rfl (jl by8) (Nat.lt_of_lt_of_eq (jv (zk by8)) ln3)) rfl<|z7 rfl rfl (qay (f := S1079.c) (l := x2) (a' := y6) rfl jd rfl rfl rfl (Nat.lt_of_lt_of_eq (Nat.lt_of_lt_of_eq (jv (zk by8)) ln3) (Eq.symm ln3)) rfl (fun _ => rfl))<|su (vc rfl Tryz.underlying48 jd rfl rfl (jl by9) (Nat.lt_of_lt_of_eq (jv (zk by9)) ((List.length_set ..).trans ln3))) rfl<|z7 rfl rfl (qay (f := S1079.c) (l := List.set x2 (Int.toNat (a1 + x1)) y6) (a' := y7) rfl jd rfl rfl rfl (Nat.lt_of_lt_of_eq (Nat.lt_of_lt_of_eq (jv (zk by9)) ((List.length_set ..).trans ln3)) (Eq.symm ((List.length_set ..).trans ln3))) rfl (fun _ => rfl))<|qc<|qa [.p, .p, .p]<|sm rfl rfl<|su (zl rfl rfl rfl iF) rfl<|sa rfl rfl<|qc ?_;exact ⟨rfl, (k5, x1 + 1, List.set (List.set x2 (Int.toNat (a1 + x1)) y6) (Int.toNat (a2 + x1)) y7), ⟨(by simp only [List.length_set]; rfl), rfl, rfl, rfl, rfl, trivial⟩, ⟨rfl, trivial⟩, rfl, ⟨iB, iB, ((List.length_set ..).trans ((List.length_set ..).trans ln3)), hR⟩, by simp⟩
  ·replace h1 : (decide (x1 < a3)) = false := h1;replace h1 := decF h1
   obtain rfl : k5 = 0 := by omega
   rw [qae] at hR;refine zr ?_;obtain rfl := Option.some.inj hR;show ResOk _ _ _ _ ∧ MemL _ _;exact ⟨res0 rfl, ⟨rfl, trivial⟩⟩
theorem qm9 (rec1 : Int → List S1079 → Option (List S1079)) (hrec : ∀ x l r, rec1 x l = some r → r.length = l.length) (a1 : Int) (a3 : S1079 → S1079 → Option Int) (x1 : Int) : ∀ (k : Nat) (x : Int) (l r : List S1079), qa5 rec1 a1 a3 x1 k x l = some r → r.length = l.length
 | 0, _, _, _, h => by rw [qa5] at h; cases h
 | k + 1, x, l, r, h => by
  rw [qa5] at h;obtain ⟨y1, _, h⟩ := qi h;obtain ⟨y2, _, h⟩ := qi h;obtain ⟨y3, _, h⟩ := qi h
  cases hc : (decide (a1 < x) && decide (y3 < 0)) with
  | true =>
   have h := zm h hc;obtain ⟨y4, _, h⟩ := qi h;obtain ⟨y5, _, h⟩ := qi h;obtain ⟨y6, _, h⟩ := qi h;obtain ⟨y7, _, h⟩ := qi h;have := qm9 rec1 hrec a1 a3 x1 k _ _ _ h
   simpa using this
  | false => exact hrec _ _ _ (zn h hc)
theorem qna (a1 : Int) (a3 : S1079 → S1079 → Option Int) : ∀ (k : Nat) (x : Int) (l r : List S1079), xi a1 a3 k x l = some r → r.length = l.length
 | 0, _, _, _, h => by rw [xi] at h; cases h; rfl
 | k + 1, x, l, r, h => by
  rw [xi] at h;exact qm9 _ (fun x l r h => qna a1 a3 k x l r h) a1 a3 x _ _ _ _ h
theorem qo3 {a0 : List S1079} {a1 a2 : Int} {a3 : S1079 → S1079 → Option Int} {R : List S1079} (h : qqv a0 a1 a2 a3 = some R) : R.length = a0.length := qna _ _ _ _ _ _ h
theorem qnb (a1 a2 : Int) : ∀ (k : Nat) (x : Int) (l r : List S1079), qae a1 a2 k x l = some r → r.length = l.length
 | 0, _, _, _, h => by rw [qae] at h; cases h; rfl
 | k + 1, x, l, r, h => by
  rw [qae] at h;obtain ⟨y1, _, h⟩ := qi h;obtain ⟨y2, _, h⟩ := qi h;obtain ⟨y3, _, h⟩ := qi h;obtain ⟨y4, _, h⟩ := qi h;have := qnb a1 a2 k _ _ _ h
  simpa using this
theorem ql1 {a0 : List S1079} {a1 a2 a3 : Int} {a4 : S1079 → S1079 → Option Int} {R : List S1079} (h : qqt a0 a1 a2 a3 a4 = some R) : R.length = a0.length := qnb _ _ _ _ _ _ h
section
variable {E : Env} {o : Oper} {ev : Operand → TV}
theorem q1q {n : Int} (h : 0 ≤ n) (h' : n ≤ 9223372036854775807) : IntKind.u64.wrap n = n := by
 have e : IntKind.u64.wrap n = n % 18446744073709551616 := by
  simp [IntKind.wrap, IntKind.bits, IntKind.signed]
 rw [e]; omega
theorem qe3 {s t : TypeId} {x : Operand} {n : Int} {ds : TypeDesc} (ho : o.op = .convert s t x) (hs : E.P.underlying s = some ds) (ht : E.P.underlying t = some (.int .u64)) (hx : ev x = .g (.int n)) (h : 0 ≤ n) (h' : n ≤ 9223372036854775807) (mem : Mem) : Eff E o mem ev (.g (.lit (.int .u64 n))) := by
 have := qsm (E := E) ho hs ht hx mem
 rwa [q1q h h'] at this
theorem qe4 {s t : TypeId} {x : Operand} {n : Int} {ds : TypeDesc} (ho : o.op = .convert s t x) (hs : E.P.underlying s = some ds) (ht : E.P.underlying t = some (.int .i64)) (hx : ev x = .g (.lit (.int .u64 n))) (h : I64 n) (mem : Mem) : Eff E o mem ev (.g (.int n)) := by
 have := qsm (E := E) ho hs ht hx mem
 rwa [wrap_i64 h] at this
theorem qh5 {t t' : TypeId} {x y : Operand} {k : IntKind} {a : Int} (ho : o.op = .binOp .shr t x y t') (hx : ev x = .g (.lit (.int .u64 a))) (hy : ev y = .g (.lit (.int k 1))) (h0 : 0 ≤ a) (mem : Mem) : Eff E o mem ev (.g (.lit (.int .u64 (a / 2)))) :=
 qnp ho hx hy (fun w => ⟨.int .u64 (a / 2), by
  have h1 : Int.fdiv a (2 ^ min (1 : Int).toNat IntKind.u64.bits) = a / 2 := Int.fdiv_eq_ediv_of_nonneg a (by decide);simp only [eqGuard, binOp, Op.shift, h1]
  rfl, fun _ => rfl⟩) mem
end
def qa4 (a2 : Int) (a4 : S1079 → S1079 → Option Int) : Nat → Int → Int → (List S1079) → Option (List S1079)
 | 0, _, _, _ => none
 | k5 + 1, x1, x2, x3 => (bif decide (x1 ≠ x2) then (bif decide (x2 < x1) then qz (qqt x3 (a2 - x1) a2 x2 a4) fun r6 => qa4 a2 a4 k5 (x1 - x2) x2 r6 else qz (qqt x3 (a2 - x1) ((a2 + x2) - x1) x1 a4) fun r7 => qa4 a2 a4 k5 x1 (x2 - x1) r7) else qz (qqt x3 (a2 - x1) a2 x1 a4) fun r8 => some r8)
def qqu (a0 : List S1079) (a1 : Int) (a2 : Int) (a3 : Int) (a4 : S1079 → S1079 → Option Int) : Option (List S1079) :=
 qa4 a2 a4 ((((a2 - a1) + (a3 - a2)).toNat) + 1) (a2 - a1) (a3 - a2) a0
theorem zeg {g : GL} (a0 : List S1079) (a1 : Int) (a2 : Int) (a3 : Int) (a4 : S1079 → S1079 → Option Int) {R : List S1079} {N0 : Nat} (hN0 : List.length a0 = N0) {ca4 : G} {ia4 : FuncId} {ka4 : List G} (ha4 : FnIs ca4 ia4 ka4) (Ka4 : zf Tryz.prog ia4) (Ha4 : ∀ (x0 : S1079) (x1 : S1079) (r : Int), a4 x0 x1 = some r → Con (EG g) ia4 ([G.agg (S1079.c x0), G.agg (S1079.c x1)] ++ ka4) (G.int r)) (hA : 0 ≤ a1) (hM : a1 < a2) (hN : a2 < a3) (hB : a3 ≤ 30000) (hR : qqu a0 a1 a2 a3 a4 = some R) : ConB (EG g) 197 [.osl 0 7 0 N0, .g (G.int a1), .g (G.int a2), .g (G.int a3), .g (ca4)] [(0, .arr 53 7 (List.map S1079.c a0))] (G.tup []) [(0, .arr 53 7 (List.map S1079.c R))] := by
 unfold qqu at hR;refine qan Tryz.func197 rfl rfl rfl fun w0 M0 x => ?_;refine qgj (f := S1079.c) (l := a0) 0 rfl fun hla0 => ?_;refine qb<|qa [.p, .p, .p, .p]<|sm rfl rfl<|sm rfl rfl<|su (vm rfl rfl rfl iF) rfl<|sa rfl rfl<|qc<|qb<|qa [.p, .p, .p, .p]<|sm rfl rfl<|sm rfl rfl<|su (vm rfl rfl rfl iF) rfl<|sa rfl rfl<|qc<|qb<|qq<|za (γ := Nat × Int × Int × (List S1079)) (fun g => ([(0, .osl 0 7 0 (N0)), (2, .g (G.int a2)), (4, .g (ca4)), (10, .g (G.int g.2.1)), (11, .g (G.int g.2.2.1))], [(0, .arr 53 7 (List.map S1079.c g.2.2.2))])) (fun g => (g.2.1 + g.2.2.1).toNat < g.1 ∧ 0 < g.2.1 ∧ 0 < g.2.2.1 ∧ g.2.1 ≤ a2 ∧ g.2.2.1 ≤ 30000 ∧ List.length g.2.2.2 = N0 ∧ qa4 a2 a4 g.1 g.2.1 g.2.2.1 g.2.2.2 = some R) (fun g => g.1) ⟨rfl, ((((a2 - a1) + (a3 - a2)).toNat) + 1, a2 - a1, a3 - a2, a0), jA, ⟨rfl, trivial⟩, rfl, ⟨Nat.lt_succ_self _, iD, iD, iD, iD, hN0, (by exact hR)⟩, trivial⟩ ?_
 ·rintro ⟨k5, x1, x2, x3⟩ ⟨hk1, iv1_0, iv1_1, iv1_2, iv1_3, ln4, hR⟩;replace hk1 : (x1 + x2).toNat < k5 := hk1;replace hR : qa4 a2 a4 k5 x1 x2 x3 = some R := hR;replace iv1_0 : 0 < x1 := iv1_0;replace iv1_1 : 0 < x2 := iv1_1;replace iv1_2 : x1 ≤ a2 := iv1_2;replace iv1_3 : x2 ≤ 30000 := iv1_3;replace ln4 : List.length x3 = N0 := ln4;obtain ⟨k5, rfl⟩ : ∃ m, k5 = m + 1 := ⟨k5 - 1, by omega⟩;rw [qa4] at hR;(try dsimp only at hR);refine qb<|qb<|qa [.p, .p, .p]<|sm rfl rfl<|sm rfl rfl<|su (zx rfl rfl rfl) rfl<|qc ?_;refine ql _ rfl (fun h1 => ?_) (fun h1 => ?_)
  ·replace h1 : (decide (x1 ≠ x2)) = true := h1;replace hR := zm hR h1;(try simp only [bB] at h1);refine qn<|qq<|qb<|qa [.p, .p, .p]<|sm rfl rfl<|sm rfl rfl<|su (z6 rfl rfl rfl) rfl<|qc ?_;refine ql _ rfl (fun h2 => ?_) (fun h2 => ?_)
   ·replace h2 : (decide (x2 < x1)) = true := h2;replace hR := zm hR h2;(try simp only [bB] at h2);refine qb ?_;obtain ⟨r6, br6, hR⟩ := qi hR;refine qa [.p, .p, .p, .p, .p, .p, .p, .w]<|su (zd rfl rfl) rfl<|sm rfl rfl<|sm rfl rfl<|su (vm rfl rfl rfl iF) rfl<|sm rfl rfl<|sm rfl rfl<|sm rfl rfl<|sw (xd 0 0 rfl q5z rfl (ConB.lend (q5y x3 (a2 - x1) a2 x2 a4 ln4 ha4 Ka4 Ha4 (by first | assumption | omega | (simp [qh]; done) | (simp [qh]; omega)) (by first | assumption | omega | (simp [qh]; done) | (simp [qh]; omega)) (by first | assumption | omega | (simp [qh]; done) | (simp [qh]; omega)) (by first | assumption | omega | (simp [qh]; done) | (simp [qh]; omega)) (by first | assumption | omega | (simp [qh]; done) | (simp [qh]; omega)) br6)) (ja rfl rfl (ja rfl rfl (ja rfl rfl (ja rfl rfl (ja rfl rfl qd1))))) rfl rfl rfl) rfl<|qc<|qa [.p, .p, .p, .p]<|sm rfl rfl<|sm rfl rfl<|su (vm rfl rfl rfl iF) rfl<|sa rfl rfl<|qc ?_;exact ⟨rfl, (k5, x1 - x2, x2, r6), jA, ⟨rfl, trivial⟩, rfl, ⟨iB, iB, iB, iB, iB, ((ql1 br6).trans ln4), hR⟩, by simp⟩
   ·replace h2 : (decide (x2 < x1)) = false := h2;replace hR := zn hR h2;(try simp only [bB] at h2);refine qb ?_;obtain ⟨r7, br7, hR⟩ := qi hR;refine qa [.p, .p, .p, .p, .p, .p, .p, .p, .p, .p, .p, .w]<|su (zd rfl rfl) rfl<|sm rfl rfl<|sm rfl rfl<|su (vm rfl rfl rfl iF) rfl<|sm rfl rfl<|sm rfl rfl<|su (zl rfl rfl rfl iF) rfl<|sm rfl rfl<|su (vm rfl rfl rfl iF) rfl<|sm rfl rfl<|sm rfl rfl<|sw (xd 0 0 rfl q5z rfl (ConB.lend (q5y x3 (a2 - x1) ((a2 + x2) - x1) x1 a4 ln4 ha4 Ka4 Ha4 (by first | assumption | omega | (simp [qh]; done) | (simp [qh]; omega)) (by first | assumption | omega | (simp [qh]; done) | (simp [qh]; omega)) (by first | assumption | omega | (simp [qh]; done) | (simp [qh]; omega)) (by first | assumption | omega | (simp [qh]; done) | (simp [qh]; omega)) (by first | assumption | omega | (simp [qh]; done) | (simp [qh]; omega)) br7)) (ja rfl rfl (ja rfl rfl (ja rfl rfl (ja rfl rfl (ja rfl rfl qd1))))) rfl rfl rfl) rfl<|qc<|qa [.p, .p, .p, .p]<|sm rfl rfl<|sm rfl rfl<|su (vm rfl rfl rfl iF) rfl<|sa rfl rfl<|qc ?_;exact ⟨rfl, (k5, x1, x2 - x1, r7), jA, ⟨rfl, trivial⟩, rfl, ⟨iB, iB, iB, iB, iB, ((ql1 br7).trans ln4), hR⟩, by simp⟩
  ·replace h1 : (decide (x1 ≠ x2)) = false := h1;replace hR := zn hR h1;(try simp only [bB] at h1);refine zr ?_;obtain ⟨r8, br8, hR⟩ := qi hR;refine qa [.p, .p, .p, .p, .p, .p, .p, .w]<|su (zd rfl rfl) rfl<|sm rfl rfl<|sm rfl rfl<|su (vm rfl rfl rfl iF) rfl<|sm rfl rfl<|sm rfl rfl<|sm rfl rfl<|sw (xd 0 0 rfl q5z rfl (ConB.lend (q5y x3 (a2 - x1) a2 x1 a4 ln4 ha4 Ka4 Ha4 (by first | assumption | omega | (simp [qh]; done) | (simp [qh]; omega)) (by first | assumption | omega | (simp [qh]; done) | (simp [qh]; omega)) (by first | assumption | omega | (simp [qh]; done) | (simp [qh]; omega)) (by first | assumption | omega | (simp [qh]; done) | (simp [qh]; omega)) (by first | assumption | omega | (simp [qh]; done) | (simp [qh]; omega)) br8)) (ja rfl rfl (ja rfl rfl (ja rfl rfl (ja rfl rfl (ja rfl rfl qd1))))) rfl rfl rfl) rfl<|qc ?_;obtain rfl := Option.some.inj hR;show ResOk _ _ _ _ ∧ MemL _ _;exact ⟨res0 rfl, ⟨rfl, trivial⟩⟩
theorem qjh (a2 : Int) (a4 : S1079 → S1079 → Option Int) : ∀ (k : Nat) (x1 x2 : Int) (l r : List S1079), qa4 a2 a4 k x1 x2 l = some r → r.length = l.length
 | 0, _, _, _, _, h => by rw [qa4] at h; cases h
 | k + 1, x1, x2, l, r, h => by
  rw [qa4] at h
  cases hc : decide (x1 ≠ x2) with
  | true =>
   have h := zm h hc
   cases hd : decide (x2 < x1) with
   | true =>
    obtain ⟨y1, h1, h⟩ := qi (zm h hd);exact (qjh a2 a4 k _ _ _ _ h).trans (ql1 h1)
   | false =>
    obtain ⟨y1, h1, h⟩ := qi (zn h hd);exact (qjh a2 a4 k _ _ _ _ h).trans (ql1 h1)
  | false =>
   obtain ⟨y1, h1, h⟩ := qi (zn h hc)
   cases h
   exact ql1 h1
theorem qzc {a0 : List S1079} {a1 a2 a3 : Int} {a4 : S1079 → S1079 → Option Int} {R : List S1079} (h : qqu a0 a1 a2 a3 a4 = some R) : R.length = a0.length := qjh _ _ _ _ _ _ _ h
def qaf (x1 : Int) : Nat → Int → (List S1079) → Option (List S1079)
 | 0, _, _ => none
 | k10 + 1, x7, x8 => (bif decide (x7 < x1 - 1) then qz (ixO x8 (x7 + 1)) fun y11 => qz (ixO x8 x7) fun y12 => qz (ixO x8 x7) fun y13 => qz (ixO (List.set x8 (Int.toNat x7) y11) (x7 + 1)) fun y14 => qaf x1 k10 (x7 + 1) (List.set (List.set x8 (Int.toNat x7) y11) (Int.toNat (x7 + 1)) y12) else some x8)
def wo (a0 : List S1079) (a1 : Int) (a4 : S1079 → S1079 → Option Int) : Nat → Int → Int → Option (List S1079)
 | 0, _, _ => none
 | k3 + 1, x1, x2 => (bif decide (x1 < x2) then qz (ixO a0 ((x1 + x2) / 2)) fun y4 => qz (ixO a0 a1) fun y5 => qz (a4 y4 y5) fun r6 => (bif decide (r6 < 0) then wo a0 a1 a4 k3 (((x1 + x2) / 2) + 1) x2 else wo a0 a1 a4 k3 x1 ((x1 + x2) / 2)) else qaf x1 (((x1 - a1).toNat) + 1) a1 a0)
def qag (x15 : Int) : Nat → Int → (List S1079) → Option (List S1079)
 | 0, _, _ => none
 | k24 + 1, x21, x22 => (bif decide (x15 < x21) then qz (ixO x22 (x21 - 1)) fun y25 => qz (ixO x22 x21) fun y26 => qz (ixO x22 x21) fun y27 => qz (ixO (List.set x22 (Int.toNat x21) y25) (x21 - 1)) fun y28 => qag x15 k24 (x21 - 1) (List.set (List.set x22 (Int.toNat x21) y25) (Int.toNat (x21 - 1)) y26) else some x22)
def wt (a0 : List S1079) (a2 : Int) (a4 : S1079 → S1079 → Option Int) : Nat → Int → Int → Option (List S1079)
 | 0, _, _ => none
 | k17 + 1, x15, x16 => (bif decide (x15 < x16) then qz (ixO a0 a2) fun y18 => qz (ixO a0 ((x15 + x16) / 2)) fun y19 => qz (a4 y18 y19) fun r20 => (bif !(decide (r20 < 0)) then wt a0 a2 a4 k17 (((x15 + x16) / 2) + 1) x16 else wt a0 a2 a4 k17 x15 ((x15 + x16) / 2)) else qag x15 (((a2 - x15).toNat) + 1) a2 a0)
def qbq (self : (List S1079) → Int → Int → Int → (S1079 → S1079 → Option Int) → Option (List S1079)) (a1 : Int) (a2 : Int) (a3 : Int) (a4 : S1079 → S1079 → Option Int) (x31 : Int) (x39 : List S1079) : Option (List S1079) :=
 (bif (decide ((a1 + a3) / 2 < (((a1 + a3) / 2) + a2) - x31)) && (decide ((((a1 + a3) / 2) + a2) - x31 < a3)) then qz (self x39 ((a1 + a3) / 2) ((((a1 + a3) / 2) + a2) - x31) a3 a4) fun r41 => some r41 else some x39)
def xy (self : (List S1079) → Int → Int → Int → (S1079 → S1079 → Option Int) → Option (List S1079)) (a1 : Int) (a2 : Int) (a3 : Int) (a4 : S1079 → S1079 → Option Int) (x31 : Int) (x37 : List S1079) : Option (List S1079) :=
 (bif (decide (a1 < x31)) && (decide (x31 < (a1 + a3) / 2)) then qz (self x37 a1 x31 ((a1 + a3) / 2) a4) fun r42 => qbq self a1 a2 a3 a4 x31 r42 else qbq self a1 a2 a3 a4 x31 x37)
def wu (self : (List S1079) → Int → Int → Int → (S1079 → S1079 → Option Int) → Option (List S1079)) (a0 : List S1079) (a1 : Int) (a2 : Int) (a3 : Int) (a4 : S1079 → S1079 → Option Int) : Nat → Int → Int → Option (List S1079)
 | 0, _, _ => none
 | k33 + 1, x31, x32 => (bif decide (x31 < x32) then qz (ixO a0 (((((a1 + a3) / 2) + a2) - 1) - ((x31 + x32) / 2))) fun y34 => qz (ixO a0 ((x31 + x32) / 2)) fun y35 => qz (a4 y34 y35) fun r36 => (bif !(decide (r36 < 0)) then wu self a0 a1 a2 a3 a4 k33 (((x31 + x32) / 2) + 1) x32 else wu self a0 a1 a2 a3 a4 k33 x31 ((x31 + x32) / 2)) else (bif (decide (x31 < a2)) && (decide (a2 < (((a1 + a3) / 2) + a2) - x31)) then qz (qqu a0 x31 a2 ((((a1 + a3) / 2) + a2) - x31) a4) fun r43 => xy self a1 a2 a3 a4 x31 r43 else xy self a1 a2 a3 a4 x31 a0))
def qeg (self : (List S1079) → Int → Int → Int → (S1079 → S1079 → Option Int) → Option (List S1079)) (a0 : List S1079) (a1 : Int) (a2 : Int) (a3 : Int) (a4 : S1079 → S1079 → Option Int) (x29 : Int) (x30 : Int) : Option (List S1079) :=
 wu self a0 a1 a2 a3 a4 (((x30 - x29).toNat) + 1) x29 x30
def qbd : Nat → (List S1079) → Int → Int → Int → (S1079 → S1079 → Option Int) → Option (List S1079)
 | 0, _, _, _, _, _ => none
 | kf_ + 1, a0, a1, a2, a3, a4 => (bif decide (a2 - a1 = 1) then wo a0 a1 a4 (((a3 - a2).toNat) + 1) a2 a3 else (bif decide (a3 - a2 = 1) then wt a0 a2 a4 (((a2 - a1).toNat) + 1) a1 a2 else (bif decide ((a1 + a3) / 2 < a2) then qeg (fun z0_ z1_ z2_ z3_ z4_ => qbd kf_ z0_ z1_ z2_ z3_ z4_) a0 a1 a2 a3 a4 ((((a1 + a3) / 2) + a2) - a3) ((a1 + a3) / 2) else qeg (fun z0_ z1_ z2_ z3_ z4_ => qbd kf_ z0_ z1_ z2_ z3_ z4_) a0 a1 a2 a3 a4 a1 a2)))
theorem qnc (x1 : Int) : ∀ (k : Nat) (x : Int) (l r : List S1079), qaf x1 k x l = some r → r.length = l.length
 | 0, _, _, _, h => by rw [qaf] at h; cases h
 | k + 1, x, l, r, h => by
  rw [qaf] at h
  cases hc : decide (x < x1 - 1) with
  | true =>
   have h := zm h hc;obtain ⟨y1, _, h⟩ := qi h;obtain ⟨y2, _, h⟩ := qi h;obtain ⟨y3, _, h⟩ := qi h;obtain ⟨y4, _, h⟩ := qi h;have := qnc x1 k _ _ _ h
   simpa using this
  | false => have h := zn h hc; cases h; rfl
theorem qji (a0 : List S1079) (a1 : Int) (a4 : S1079 → S1079 → Option Int) : ∀ (k : Nat) (x y : Int) (r : List S1079), wo a0 a1 a4 k x y = some r → r.length = a0.length
 | 0, _, _, _, h => by rw [wo] at h; cases h
 | k + 1, x, y, r, h => by
  rw [wo] at h
  cases hc : decide (x < y) with
  | true =>
   have h := zm h hc;obtain ⟨y1, _, h⟩ := qi h;obtain ⟨y2, _, h⟩ := qi h;obtain ⟨y3, _, h⟩ := qi h
   cases hd : (decide (y3 < 0)) with
   | true => exact qji a0 a1 a4 k _ _ _ (zm h hd)
   | false => exact qji a0 a1 a4 k _ _ _ (zn h hd)
  | false => exact qnc _ _ _ _ _ (zn h hc)
theorem qnd (x1 : Int) : ∀ (k : Nat) (x : Int) (l r : List S1079), qag x1 k x l = some r → r.length = l.length
 | 0, _, _, _, h => by rw [qag] at h; cases h
 | k + 1, x, l, r, h => by
  rw [qag] at h
  cases hc : decide (x1 < x) with
  | true =>
   have h := zm h hc;obtain ⟨y1, _, h⟩ := qi h;obtain ⟨y2, _, h⟩ := qi h;obtain ⟨y3, _, h⟩ := qi h;obtain ⟨y4, _, h⟩ := qi h;have := qnd x1 k _ _ _ h
   simpa using this
  | false => have h := zn h hc; cases h; rfl
theorem qjj (a0 : List S1079) (a2 : Int) (a4 : S1079 → S1079 → Option Int) : ∀ (k : Nat) (x y : Int) (r : List S1079), wt a0 a2 a4 k x y = some r → r.length = a0.length
 | 0, _, _, _, h => by rw [wt] at h; cases h
 | k + 1, x, y, r, h => by
  rw [wt] at h
  cases hc : decide (x < y) with
  | true =>
   have h := zm h hc;obtain ⟨y1, _, h⟩ := qi h;obtain ⟨y2, _, h⟩ := qi h;obtain ⟨y3, _, h⟩ := qi h
   cases hd : !(decide (y3 < 0)) with
   | true => exact qjj a0 a2 a4 k _ _ _ (zm h hd)
   | false => exact qjj a0 a2 a4 k _ _ _ (zn h hd)
  | false => exact qnd _ _ _ _ _ (zn h hc)
section
variable {self : (List S1079) → Int → Int → Int → (S1079 → S1079 → Option Int) → Option (List S1079)} (hself : ∀ l a b c f r, self l a b c f = some r → r.length = l.length)
include hself
theorem qne (a1 a2 a3 : Int) (a4 : S1079 → S1079 → Option Int) (x : Int) (l r : List S1079) (h : qbq self a1 a2 a3 a4 x l = some r) : r.length = l.length := by
 unfold qbq at h;generalize hc : ((decide ((a1 + a3) / 2 < (((a1 + a3) / 2) + a2) - x)) && (decide ((((a1 + a3) / 2) + a2) - x < a3))) = c at h
 cases c with
 | true => obtain ⟨y1, h1, h⟩ := qi (zm h rfl); cases h; exact hself _ _ _ _ _ _ h1
 | false => have h := zn h rfl; cases h; rfl
theorem qnf (a1 a2 a3 : Int) (a4 : S1079 → S1079 → Option Int) (x : Int) (l r : List S1079) (h : xy self a1 a2 a3 a4 x l = some r) : r.length = l.length := by
 unfold xy at h;generalize hc : ((decide (a1 < x)) && (decide (x < (a1 + a3) / 2))) = c at h
 cases c with
 | true => obtain ⟨y1, h1, h⟩ := qi (zm h rfl); exact (qne hself _ _ _ _ _ _ _ h).trans (hself _ _ _ _ _ _ h1)
 | false => exact qne hself _ _ _ _ _ _ _ (zn h rfl)
theorem qfx (a0 : List S1079) (a1 a2 a3 : Int) (a4 : S1079 → S1079 → Option Int) : ∀ (k : Nat) (x y : Int) (r : List S1079), wu self a0 a1 a2 a3 a4 k x y = some r → r.length = a0.length
 | 0, _, _, _, h => by rw [wu] at h; cases h
 | k + 1, x, y, r, h => by
  rw [wu] at h
  cases hc : decide (x < y) with
  | true =>
   have h := zm h hc;obtain ⟨y1, _, h⟩ := qi h;obtain ⟨y2, _, h⟩ := qi h;obtain ⟨y3, _, h⟩ := qi h
   cases hd : !(decide (y3 < 0)) with
   | true => exact qfx a0 a1 a2 a3 a4 k _ _ _ (zm h hd)
   | false => exact qfx a0 a1 a2 a3 a4 k _ _ _ (zn h hd)
  | false =>
   have h := zn h hc;generalize hd : ((decide (x < a2)) && (decide (a2 < (((a1 + a3) / 2) + a2) - x))) = d at h
   cases d with
   | true => obtain ⟨y1, h1, h⟩ := qi (zm h rfl); exact (qnf hself _ _ _ _ _ _ _ h).trans (qzc h1)
   | false => exact qnf hself _ _ _ _ _ _ _ (zn h rfl)
end
theorem ql2 : ∀ (k : Nat) (a0 : List S1079) (a1 a2 a3 : Int) (a4 : S1079 → S1079 → Option Int) (R : List S1079), qbd k a0 a1 a2 a3 a4 = some R → R.length = a0.length
 | 0, _, _, _, _, _, _, h => by rw [qbd] at h; cases h
 | k + 1, a0, a1, a2, a3, a4, R, h => by
  rw [qbd] at h
  cases hc : decide (a2 - a1 = 1) with
  | true => exact qji _ _ _ _ _ _ _ (zm h hc)
  | false =>
   have h := zn h hc
   cases hd : decide (a3 - a2 = 1) with
   | true => exact qjj _ _ _ _ _ _ _ (zm h hd)
   | false =>
    have h := zn h hd
    cases he : decide ((a1 + a3) / 2 < a2) with
    | true => exact qfx (fun l a b c f r h => ql2 k l a b c f r h) _ _ _ _ _ _ _ _ _ (zm h he)
    | false => exact qfx (fun l a b c f r h => ql2 k l a b c f r h) _ _ _ _ _ _ _ _ _ (zn h he)
theorem ql3 {k : Nat} {a0 : List S1079} {a1 a2 a3 : Int} {a4 : S1079 → S1079 → Option Int} {R : List S1079} (h : qbd k a0 a1 a2 a3 a4 = some R) : R.length = a0.length := ql2 _ _ _ _ _ _ _ h
theorem q9j {g : GL} (kf_ : Nat) : ∀ (a0 : List S1079) (a1 : Int) (a2 : Int) (a3 : Int) (a4 : S1079 → S1079 → Option Int) {R : List S1079} {N0 : Nat} (hN0 : List.length a0 = N0) {ca4 : G} {ia4 : FuncId} {ka4 : List G} (ha4 : FnIs ca4 ia4 ka4) (Ka4 : zf Tryz.prog ia4) (Ha4 : ∀ (x0 : S1079) (x1 : S1079) (r : Int), a4 x0 x1 = some r → Con (EG g) ia4 ([G.agg (S1079.c x0), G.agg (S1079.c x1)] ++ ka4) (G.int r)) (hA : 0 ≤ a1) (hM : a1 < a2) (hN : a2 < a3) (hB : a3 ≤ 30000) (hR : qbd kf_ a0 a1 a2 a3 a4 = some R), ConB (EG g) 196 [.osl 0 7 0 N0, .g (G.int a1), .g (G.int a2), .g (G.int a3), .g (ca4)] [(0, .arr 53 7 (List.map S1079.c a0))] (G.tup []) [(0, .arr 53 7 (List.map S1079.c R))] := by
 induction kf_ with
 | zero => intro a0 a1 a2 a3 a4 R N0 hN0 ca4 ia4 ka4 ha4 Ka4 Ha4 hA hM hN hB hR; rw [qbd] at hR; cases hR
 | succ kf_ ih =>
 intro a0 a1 a2 a3 a4 R N0 hN0 ca4 ia4 ka4 ha4 Ka4 Ha4 hA hM hN hB hR;rw [qbd] at hR;(try dsimp only at hR);refine qan Tryz.func196 rfl rfl rfl fun w0 M0 x => ?_;refine qgj (f := S1079.c) (l := a0) 0 rfl fun hla0 => ?_;refine qb<|qb<|qa [.p, .p, .p, .p]<|sm rfl rfl<|sm rfl rfl<|su (vm rfl rfl rfl iF) rfl<|su (jq rfl rfl rfl) rfl<|qc ?_;refine ql _ rfl (fun h1 => ?_) (fun h1 => ?_)
 ·replace h1 : (decide (a2 - a1 = 1)) = true := h1;replace hR := zm hR h1;(try simp only [bB] at h1);refine qb<|qa [.p, .p]<|sm rfl rfl<|sa rfl rfl<|qc<|qb<|qa [.p, .p]<|sm rfl rfl<|sa rfl rfl<|qc<|qb<|qq<|za (γ := Nat × Int × Int) (fun g => ([(0, .osl 0 7 0 (N0)), (1, .g (G.int a1)), (4, .g (ca4)), (10, .g (G.int g.2.1)), (11, .g (G.int g.2.2))], [(0, .arr 53 7 (List.map S1079.c a0))])) (fun g => (g.2.2 - g.2.1).toNat < g.1 ∧ 0 ≤ g.2.1 ∧ g.2.1 ≤ g.2.2 ∧ g.2.2 ≤ 30000 ∧ wo a0 a1 a4 g.1 g.2.1 g.2.2 = some R) (fun g => g.1) ⟨rfl, (((a3 - a2).toNat) + 1, a2, a3), jA, ⟨rfl, trivial⟩, rfl, ⟨Nat.lt_succ_self _, iD, iD, iD, (by exact hR)⟩, trivial⟩ ?_
  ·rintro ⟨k3, x1, x2⟩ ⟨hk1, iv1_0, iv1_1, iv1_2, hR⟩;replace hk1 : (x2 - x1).toNat < k3 := hk1;replace hR : wo a0 a1 a4 k3 x1 x2 = some R := hR;replace iv1_0 : 0 ≤ x1 := iv1_0;replace iv1_1 : x1 ≤ x2 := iv1_1;replace iv1_2 : x2 ≤ 30000 := iv1_2;obtain ⟨k3, rfl⟩ : ∃ m, k3 = m + 1 := ⟨k3 - 1, by omega⟩;rw [wo] at hR;(try dsimp only at hR);refine qb<|qb<|qa [.p, .p, .p]<|sm rfl rfl<|sm rfl rfl<|su (ze rfl rfl rfl) rfl<|qc ?_;refine ql _ rfl (fun h2 => ?_) (fun h2 => ?_)
   ·replace h2 : (decide (x1 < x2)) = true := h2;replace hR := zm hR h2;(try simp only [bB] at h2);refine qn<|qq<|qb<|qa [.p, .p, .p, .p, .p, .p, .p]<|sm rfl rfl<|sm rfl rfl<|su (zl rfl rfl rfl iF) rfl<|su (qe3 rfl Tryz.underlying3 Tryz.underlying233 rfl (by (try dsimp only); omega) (by (try dsimp only); omega)) rfl<|su (qh5 rfl rfl rfl (by (try dsimp only); omega)) rfl<|su (qe4 rfl Tryz.underlying233 Tryz.underlying3 rfl iF) rfl<|sa rfl rfl<|qc<|qb ?_;obtain ⟨y4, by4, hR⟩ := qi hR;obtain ⟨y5, by5, hR⟩ := qi hR;obtain ⟨r6, br6, hR⟩ := qi hR;refine zt [.p, .p, .p, .p, .r, .p, .p, .p, .r, .p, .p] (by kernel_rfl)<|sm rfl rfl<|su (zd rfl rfl) rfl<|sm rfl rfl<|su (vc rfl Tryz.underlying48 jd rfl rfl (jl by4) (Nat.lt_of_lt_of_eq (jv (zk by4)) hN0)) rfl<|sr (xh (f := S1079.c) (l := a0) (a := y4) rfl jd rfl rfl (zk by4)) rfl<|su (zd rfl rfl) rfl<|sm rfl rfl<|su (vc rfl Tryz.underlying48 jd rfl rfl (jl by5) (Nat.lt_of_lt_of_eq (jv (zk by5)) hN0)) rfl<|sr (xh (f := S1079.c) (l := a0) (a := y5) rfl jd rfl rfl (zk by5)) rfl<|su (xf rfl ha4 Ka4 rfl (Con.lend (Ha4 y4 y5 _ br6)) (qe rfl (qe rfl qj))) rfl<|su (ze rfl rfl rfl) rfl<|qc ?_;refine ql _ rfl (fun h3 => ?_) (fun h3 => ?_)
    ·replace h3 : (decide (r6 < 0)) = true := h3;replace hR := zm hR h3;(try simp only [bB] at h3);refine qa [.p, .p, .p]<|sm rfl rfl<|su (zl rfl rfl rfl iF) rfl<|sa rfl rfl<|qc ?_;exact ⟨rfl, (k3, ((x1 + x2) / 2) + 1, x2), jA, ⟨rfl, trivial⟩, rfl, ⟨iB, iB, iB, iB, hR⟩, by simp⟩
    ·replace h3 : (decide (r6 < 0)) = false := h3;replace hR := zn hR h3;(try simp only [bB] at h3);refine qa [.p, .p]<|sm rfl rfl<|sa rfl rfl<|qc ?_;exact ⟨rfl, (k3, x1, (x1 + x2) / 2), jA, ⟨rfl, trivial⟩, rfl, ⟨iB, iB, iB, iB, hR⟩, by simp⟩
   ·replace h2 : (decide (x1 < x2)) = false := h2;replace hR := zn hR h2;(try simp only [bB] at h2);refine zr<|qb<|qb<|qa [.p, .p]<|sm rfl rfl<|sa rfl rfl<|qc<|qq<|za (γ := Nat × Int × (List S1079)) (fun g => ([(0, .osl 0 7 0 (N0)), (10, .g (G.int x1)), (13, .g (G.int g.2.1))], [(0, .arr 53 7 (List.map S1079.c g.2.2))])) (fun g => (x1 - g.2.1).toNat < g.1 ∧ 0 ≤ g.2.1 ∧ g.2.1 ≤ 60000 ∧ List.length g.2.2 = N0 ∧ qaf x1 g.1 g.2.1 g.2.2 = some R) (fun g => g.1) ⟨rfl, (((x1 - a1).toNat) + 1, a1, a0), ⟨rfl, rfl, rfl, trivial⟩, ⟨rfl, trivial⟩, rfl, ⟨Nat.lt_succ_self _, iD, iD, hN0, (by exact hR)⟩, trivial⟩ ?_
    ·rintro ⟨k10, x7, x8⟩ ⟨hk2, iv2_0, iv2_1, ln9, hR⟩;replace hk2 : (x1 - x7).toNat < k10 := hk2;replace hR : qaf x1 k10 x7 x8 = some R := hR;replace iv2_0 : 0 ≤ x7 := iv2_0;replace iv2_1 : x7 ≤ 60000 := iv2_1;replace ln9 : List.length x8 = N0 := ln9;obtain ⟨k10, rfl⟩ : ∃ m, k10 = m + 1 := ⟨k10 - 1, by omega⟩;rw [qaf] at hR;(try dsimp only at hR);refine qb<|qb<|qa [.p, .p, .p, .p]<|sm rfl rfl<|sm rfl rfl<|su (vm rfl rfl rfl iF) rfl<|su (ze rfl rfl rfl) rfl<|qc ?_;refine ql _ rfl (fun h4 => ?_) (fun h4 => ?_)
     ·replace h4 : (decide (x7 < x1 - 1)) = true := h4;replace hR := zm hR h4;(try simp only [bB] at h4);refine qn<|qb<|qq ?_;obtain ⟨y11, by11, hR⟩ := qi hR;obtain ⟨y12, by12, hR⟩ := qi hR;obtain ⟨y13, by13, hR⟩ := qi hR;obtain ⟨y14, by14, hR⟩ := qi hR;refine zt [.p, .p, .p, .p, .p, .p, .p, .p, .p, .r, .p, .p, .p, .r, .p, .w, .p, .w] (by kernel_rfl)<|su (zd rfl rfl) rfl<|sm rfl rfl<|su (zd rfl rfl) rfl<|sm rfl rfl<|su (zl rfl rfl rfl iF) rfl<|su (zd rfl rfl) rfl<|sm rfl rfl<|su (zl rfl rfl rfl iF) rfl<|su (vc rfl Tryz.underlying48 jd rfl rfl (jl by11) (Nat.lt_of_lt_of_eq (jv (zk by11)) ln9)) rfl<|sr (xh (f := S1079.c) (l := x8) (a := y11) rfl jd rfl rfl (zk by11)) rfl<|su (zd rfl rfl) rfl<|sm rfl rfl<|su (vc rfl Tryz.underlying48 jd rfl rfl (jl by12) (Nat.lt_of_lt_of_eq (jv (zk by12)) ln9)) rfl<|sr (xh (f := S1079.c) (l := x8) (a := y12) rfl jd rfl rfl (zk by12)) rfl<|su (vc rfl Tryz.underlying48 jd rfl rfl (jl by13) (Nat.lt_of_lt_of_eq (jv (zk by13)) ln9)) rfl<|z7 rfl rfl (qay (f := S1079.c) (l := x8) (a' := y11) rfl jd rfl rfl rfl (Nat.lt_of_lt_of_eq (Nat.lt_of_lt_of_eq (jv (zk by13)) ln9) (Eq.symm ln9)) rfl (fun _ => rfl))<|su (vc rfl Tryz.underlying48 jd rfl rfl (jl by14) (Nat.lt_of_lt_of_eq (jv (zk by14)) ((List.length_set ..).trans ln9))) rfl<|z7 rfl rfl (qay (f := S1079.c) (l := List.set x8 (Int.toNat x7) y11) (a' := y12) rfl jd rfl rfl rfl (Nat.lt_of_lt_of_eq (Nat.lt_of_lt_of_eq (jv (zk by14)) ((List.length_set ..).trans ln9)) (Eq.symm ((List.length_set ..).trans ln9))) rfl (fun _ => rfl))<|qc<|qa [.p, .p, .p]<|sm rfl rfl<|su (zl rfl rfl rfl iF) rfl<|sa rfl rfl<|qc ?_;exact ⟨rfl, (k10, x7 + 1, List.set (List.set x8 (Int.toNat x7) y11) (Int.toNat (x7 + 1)) y12), ⟨(by simp only [List.length_set]; rfl), rfl, rfl, trivial⟩, ⟨rfl, trivial⟩, rfl, ⟨iB, iB, iB, ((List.length_set ..).trans ((List.length_set ..).trans ln9)), hR⟩, by simp⟩
     ·replace hR := zn hR h4;refine zr<|qo ?_;obtain rfl := Option.some.inj hR;show ResOk _ _ _ _ ∧ MemL _ _;exact ⟨res0 rfl, ⟨rfl, trivial⟩⟩
 ·replace h1 : (decide (a2 - a1 = 1)) = false := h1;replace hR := zn hR h1;(try simp only [bB] at h1);refine qn<|qb<|qb<|qa [.p, .p, .p, .p]<|sm rfl rfl<|sm rfl rfl<|su (vm rfl rfl rfl iF) rfl<|su (jq rfl rfl rfl) rfl<|qc ?_;refine ql _ rfl (fun h5 => ?_) (fun h5 => ?_)
  ·replace h5 : (decide (a3 - a2 = 1)) = true := h5;replace hR := zm hR h5;(try simp only [bB] at h5);refine qb<|qa [.p, .p]<|sm rfl rfl<|sa rfl rfl<|qc<|qb<|qa [.p, .p]<|sm rfl rfl<|sa rfl rfl<|qc<|qb<|qq<|za (γ := Nat × Int × Int) (fun g => ([(0, .osl 0 7 0 (N0)), (2, .g (G.int a2)), (4, .g (ca4)), (14, .g (G.int g.2.1)), (15, .g (G.int g.2.2))], [(0, .arr 53 7 (List.map S1079.c a0))])) (fun g => (g.2.2 - g.2.1).toNat < g.1 ∧ 0 ≤ g.2.1 ∧ g.2.1 ≤ g.2.2 ∧ g.2.2 ≤ 30000 ∧ wt a0 a2 a4 g.1 g.2.1 g.2.2 = some R) (fun g => g.1) ⟨rfl, (((a2 - a1).toNat) + 1, a1, a2), jA, ⟨rfl, trivial⟩, rfl, ⟨Nat.lt_succ_self _, iD, iD, iD, (by exact hR)⟩, trivial⟩ ?_
   ·rintro ⟨k17, x15, x16⟩ ⟨hk3, iv3_0, iv3_1, iv3_2, hR⟩;replace hk3 : (x16 - x15).toNat < k17 := hk3;replace hR : wt a0 a2 a4 k17 x15 x16 = some R := hR;replace iv3_0 : 0 ≤ x15 := iv3_0;replace iv3_1 : x15 ≤ x16 := iv3_1;replace iv3_2 : x16 ≤ 30000 := iv3_2;obtain ⟨k17, rfl⟩ : ∃ m, k17 = m + 1 := ⟨k17 - 1, by omega⟩;rw [wt] at hR;(try dsimp only at hR);refine qb<|qb<|qa [.p, .p, .p]<|sm rfl rfl<|sm rfl rfl<|su (ze rfl rfl rfl) rfl<|qc ?_;refine ql _ rfl (fun h6 => ?_) (fun h6 => ?_)
    ·replace h6 : (decide (x15 < x16)) = true := h6;replace hR := zm hR h6;(try simp only [bB] at h6);refine qn<|qq<|qb<|qa [.p, .p, .p, .p, .p, .p, .p]<|sm rfl rfl<|sm rfl rfl<|su (zl rfl rfl rfl iF) rfl<|su (qe3 rfl Tryz.underlying3 Tryz.underlying233 rfl (by (try dsimp only); omega) (by (try dsimp only); omega)) rfl<|su (qh5 rfl rfl rfl (by (try dsimp only); omega)) rfl<|su (qe4 rfl Tryz.underlying233 Tryz.underlying3 rfl iF) rfl<|sa rfl rfl<|qc<|qb ?_;obtain ⟨y18, by18, hR⟩ := qi hR;obtain ⟨y19, by19, hR⟩ := qi hR;obtain ⟨r20, br20, hR⟩ := qi hR;refine zt [.p, .p, .p, .p, .r, .p, .p, .p, .r, .p, .p, .p] (by kernel_rfl)<|sm rfl rfl<|su (zd rfl rfl) rfl<|sm rfl rfl<|su (vc rfl Tryz.underlying48 jd rfl rfl (jl by18) (Nat.lt_of_lt_of_eq (jv (zk by18)) hN0)) rfl<|sr (xh (f := S1079.c) (l := a0) (a := y18) rfl jd rfl rfl (zk by18)) rfl<|su (zd rfl rfl) rfl<|sm rfl rfl<|su (vc rfl Tryz.underlying48 jd rfl rfl (jl by19) (Nat.lt_of_lt_of_eq (jv (zk by19)) hN0)) rfl<|sr (xh (f := S1079.c) (l := a0) (a := y19) rfl jd rfl rfl (zk by19)) rfl<|su (xf rfl ha4 Ka4 rfl (Con.lend (Ha4 y18 y19 _ br20)) (qe rfl (qe rfl qj))) rfl<|su (ze rfl rfl rfl) rfl<|su (jn rfl rfl) rfl<|qc ?_;refine ql _ rfl (fun h7 => ?_) (fun h7 => ?_)
     ·replace h7 : (!(decide (r20 < 0))) = true := h7;replace hR := zm hR h7;(try simp only [bB] at h7);refine qa [.p, .p, .p]<|sm rfl rfl<|su (zl rfl rfl rfl iF) rfl<|sa rfl rfl<|qc ?_;exact ⟨rfl, (k17, ((x15 + x16) / 2) + 1, x16), jA, ⟨rfl, trivial⟩, rfl, ⟨iB, iB, iB, iB, hR⟩, by simp⟩
     ·replace h7 : (!(decide (r20 < 0))) = false := h7;replace hR := zn hR h7;(try simp only [bB] at h7);refine qa [.p, .p]<|sm rfl rfl<|sa rfl rfl<|qc ?_;exact ⟨rfl, (k17, x15, (x15 + x16) / 2), jA, ⟨rfl, trivial⟩, rfl, ⟨iB, iB, iB, iB, hR⟩, by simp⟩
    ·replace h6 : (decide (x15 < x16)) = false := h6;replace hR := zn hR h6;(try simp only [bB] at h6);refine zr<|qb<|qb<|qa [.p, .p]<|sm rfl rfl<|sa rfl rfl<|qc<|qq<|za (γ := Nat × Int × (List S1079)) (fun g => ([(0, .osl 0 7 0 (N0)), (14, .g (G.int x15)), (17, .g (G.int g.2.1))], [(0, .arr 53 7 (List.map S1079.c g.2.2))])) (fun g => (g.2.1 - x15).toNat < g.1 ∧ 0 ≤ g.2.1 ∧ g.2.1 ≤ 60000 ∧ List.length g.2.2 = N0 ∧ qag x15 g.1 g.2.1 g.2.2 = some R) (fun g => g.1) ⟨rfl, (((a2 - x15).toNat) + 1, a2, a0), ⟨rfl, rfl, rfl, trivial⟩, ⟨rfl, trivial⟩, rfl, ⟨Nat.lt_succ_self _, iD, iD, hN0, (by exact hR)⟩, trivial⟩ ?_
     ·rintro ⟨k24, x21, x22⟩ ⟨hk4, iv4_0, iv4_1, ln23, hR⟩;replace hk4 : (x21 - x15).toNat < k24 := hk4;replace hR : qag x15 k24 x21 x22 = some R := hR;replace iv4_0 : 0 ≤ x21 := iv4_0;replace iv4_1 : x21 ≤ 60000 := iv4_1;replace ln23 : List.length x22 = N0 := ln23;obtain ⟨k24, rfl⟩ : ∃ m, k24 = m + 1 := ⟨k24 - 1, by omega⟩;rw [qag] at hR;(try dsimp only at hR);refine qb<|qb<|qa [.p, .p, .p]<|sm rfl rfl<|sm rfl rfl<|su (z6 rfl rfl rfl) rfl<|qc ?_;refine ql _ rfl (fun h8 => ?_) (fun h8 => ?_)
      ·replace h8 : (decide (x15 < x21)) = true := h8;replace hR := zm hR h8;(try simp only [bB] at h8);refine qn<|qb<|qq ?_;obtain ⟨y25, by25, hR⟩ := qi hR;obtain ⟨y26, by26, hR⟩ := qi hR;obtain ⟨y27, by27, hR⟩ := qi hR;obtain ⟨y28, by28, hR⟩ := qi hR;refine zt [.p, .p, .p, .p, .p, .p, .p, .p, .p, .r, .p, .p, .p, .r, .p, .w, .p, .w] (by kernel_rfl)<|su (zd rfl rfl) rfl<|sm rfl rfl<|su (zd rfl rfl) rfl<|sm rfl rfl<|su (vm rfl rfl rfl iF) rfl<|su (zd rfl rfl) rfl<|sm rfl rfl<|su (vm rfl rfl rfl iF) rfl<|su (vc rfl Tryz.underlying48 jd rfl rfl (jl by25) (Nat.lt_of_lt_of_eq (jv (zk by25)) ln23)) rfl<|sr (xh (f := S1079.c) (l := x22) (a := y25) rfl jd rfl rfl (zk by25)) rfl<|su (zd rfl rfl) rfl<|sm rfl rfl<|su (vc rfl Tryz.underlying48 jd rfl rfl (jl by26) (Nat.lt_of_lt_of_eq (jv (zk by26)) ln23)) rfl<|sr (xh (f := S1079.c) (l := x22) (a := y26) rfl jd rfl rfl (zk by26)) rfl<|su (vc rfl Tryz.underlying48 jd rfl rfl (jl by27) (Nat.lt_of_lt_of_eq (jv (zk by27)) ln23)) rfl<|z7 rfl rfl (qay (f := S1079.c) (l := x22) (a' := y25) rfl jd rfl rfl rfl (Nat.lt_of_lt_of_eq (Nat.lt_of_lt_of_eq (jv (zk by27)) ln23) (Eq.symm ln23)) rfl (fun _ => rfl))<|su (vc rfl Tryz.underlying48 jd rfl rfl (jl by28) (Nat.lt_of_lt_of_eq (jv (zk by28)) ((List.length_set ..).trans ln23))) rfl<|z7 rfl rfl (qay (f := S1079.c) (l := List.set x22 (Int.toNat x21) y25) (a' := y26) rfl jd rfl rfl rfl (Nat.lt_of_lt_of_eq (Nat.lt_of_lt_of_eq (jv (zk by28)) ((List.length_set ..).trans ln23)) (Eq.symm ((List.length_set ..).trans ln23))) rfl (fun _ => rfl))<|qc<|qa [.p, .p, .p]<|sm rfl rfl<|su (vm rfl rfl rfl iF) rfl<|sa rfl rfl<|qc ?_;exact ⟨rfl, (k24, x21 - 1, List.set (List.set x22 (Int.toNat x21) y25) (Int.toNat (x21 - 1)) y26), ⟨(by simp only [List.length_set]; rfl), rfl, rfl, trivial⟩, ⟨rfl, trivial⟩, rfl, ⟨iB, iB, iB, ((List.length_set ..).trans ((List.length_set ..).trans ln23)), hR⟩, by simp⟩
      ·replace hR := zn hR h8;refine zr<|qo ?_;obtain rfl := Option.some.inj hR;show ResOk _ _ _ _ ∧ MemL _ _;exact ⟨res0 rfl, ⟨rfl, trivial⟩⟩
  ·replace h5 : (decide (a3 - a2 = 1)) = false := h5;replace hR := zn hR h5;(try simp only [bB] at h5);refine qn<|qb<|qa [.p, .p, .p, .p, .p, .p, .p]<|sm rfl rfl<|sm rfl rfl<|su (zl rfl rfl rfl iF) rfl<|su (qe3 rfl Tryz.underlying3 Tryz.underlying233 rfl (by (try dsimp only); omega) (by (try dsimp only); omega)) rfl<|su (qh5 rfl rfl rfl (by (try dsimp only); omega)) rfl<|su (qe4 rfl Tryz.underlying233 Tryz.underlying3 rfl iF) rfl<|sa rfl rfl<|qc<|qb<|qa [.p, .p, .p, .p]<|sm rfl rfl<|sm rfl rfl<|su (zl rfl rfl rfl iF) rfl<|sa rfl rfl<|qc<|qb<|qa [.p, .p]<|sa rfl rfl<|sa rfl rfl<|qc ?_;refine jy (γ := Int × Int) (fun g => ([(0, .osl 0 7 0 (N0)), (1, .g (G.int a1)), (2, .g (G.int a2)), (3, .g (G.int a3)), (4, .g (ca4)), (18, .g (G.int ((a1 + a3) / 2))), (19, .g (G.int (((a1 + a3) / 2) + a2))), (20, .g (G.int g.1)), (21, .g (G.int g.2))], [(0, .arr 53 7 (List.map S1079.c a0))])) (fun g => (((a1 + a3) / 2) + a2) - a3 ≤ g.1 ∧ a1 ≤ g.1 ∧ g.1 ≤ 30000 ∧ 0 ≤ g.2 ∧ g.2 ≤ 30000 ∧ qeg (fun z0_ z1_ z2_ z3_ z4_ => qbd kf_ z0_ z1_ z2_ z3_ z4_) a0 a1 a2 a3 a4 g.1 g.2 = some R) ?_ ?_
   ·refine qb<|qa [.p, .p, .p]<|sm rfl rfl<|sm rfl rfl<|su (z6 rfl rfl rfl) rfl<|qc ?_;refine ql _ rfl (fun h14 => ?_) (fun h14 => ?_)
    ·replace h14 : (decide ((a1 + a3) / 2 < a2)) = true := h14;replace hR := zm hR h14;(try simp only [bB] at h14);refine qb<|qa [.p, .p, .p, .p]<|sm rfl rfl<|sm rfl rfl<|su (vm rfl rfl rfl iF) rfl<|sa rfl rfl<|qc<|qa [.p, .p]<|sm rfl rfl<|sa rfl rfl<|qc ?_;exact ⟨rfl, ((((a1 + a3) / 2) + a2) - a3, (a1 + a3) / 2), jA, ⟨rfl, trivial⟩, rfl, ⟨iB, iB, iB, iB, iB, hR⟩, trivial⟩
    ·replace h14 : (decide ((a1 + a3) / 2 < a2)) = false := h14;replace hR := zn hR h14;(try simp only [bB] at h14);refine qb<|qa [.p, .p]<|sm rfl rfl<|sa rfl rfl<|qc<|qa [.p, .p]<|sm rfl rfl<|sa rfl rfl<|qc ?_;exact ⟨rfl, (a1, a2), jA, ⟨rfl, trivial⟩, rfl, ⟨iB, iB, iB, iB, iB, hR⟩, trivial⟩
   ·rintro ⟨x29, x30⟩ ⟨jv3_0, jv3_1, jv3_2, jv3_3, jv3_4, hR⟩;replace jv3_0 : (((a1 + a3) / 2) + a2) - a3 ≤ x29 := jv3_0;replace jv3_1 : a1 ≤ x29 := jv3_1;replace jv3_2 : x29 ≤ 30000 := jv3_2;replace jv3_3 : 0 ≤ x30 := jv3_3;replace jv3_4 : x30 ≤ 30000 := jv3_4;replace hR : qeg (fun z0_ z1_ z2_ z3_ z4_ => qbd kf_ z0_ z1_ z2_ z3_ z4_) a0 a1 a2 a3 a4 x29 x30 = some R := hR;unfold qeg at hR;refine qb<|qa [.p, .p, .p]<|sm rfl rfl<|su (vm rfl rfl rfl iF) rfl<|sa rfl rfl<|qc<|qb<|qq<|za (γ := Nat × Int × Int) (fun g => ([(0, .osl 0 7 0 (N0)), (1, .g (G.int a1)), (2, .g (G.int a2)), (3, .g (G.int a3)), (4, .g (ca4)), (18, .g (G.int ((a1 + a3) / 2))), (19, .g (G.int (((a1 + a3) / 2) + a2))), (20, .g (G.int g.2.1)), (21, .g (G.int g.2.2)), (22, .g (G.int ((((a1 + a3) / 2) + a2) - 1)))], [(0, .arr 53 7 (List.map S1079.c a0))])) (fun g => (g.2.2 - g.2.1).toNat < g.1 ∧ (((a1 + a3) / 2) + a2) - a3 ≤ g.2.1 ∧ a1 ≤ g.2.1 ∧ g.2.1 ≤ 30000 ∧ g.2.2 ≤ 30000 ∧ 0 ≤ g.2.2 ∧ wu (fun z0_ z1_ z2_ z3_ z4_ => qbd kf_ z0_ z1_ z2_ z3_ z4_) a0 a1 a2 a3 a4 g.1 g.2.1 g.2.2 = some R) (fun g => g.1) ⟨rfl, (((x30 - x29).toNat) + 1, x29, x30), jA, ⟨rfl, trivial⟩, rfl, ⟨Nat.lt_succ_self _, iD, iD, iD, iD, iD, (by exact hR)⟩, trivial⟩ ?_
    ·rintro ⟨k33, x31, x32⟩ ⟨hk5, iv5_0, iv5_1, iv5_2, iv5_3, iv5_4, hR⟩;replace hk5 : (x32 - x31).toNat < k33 := hk5;replace hR : wu (fun z0_ z1_ z2_ z3_ z4_ => qbd kf_ z0_ z1_ z2_ z3_ z4_) a0 a1 a2 a3 a4 k33 x31 x32 = some R := hR;replace iv5_0 : (((a1 + a3) / 2) + a2) - a3 ≤ x31 := iv5_0;replace iv5_1 : a1 ≤ x31 := iv5_1;replace iv5_2 : x31 ≤ 30000 := iv5_2;replace iv5_3 : x32 ≤ 30000 := iv5_3;replace iv5_4 : 0 ≤ x32 := iv5_4;obtain ⟨k33, rfl⟩ : ∃ m, k33 = m + 1 := ⟨k33 - 1, by omega⟩;rw [wu] at hR;(try dsimp only at hR);refine qb<|qb<|qa [.p, .p, .p]<|sm rfl rfl<|sm rfl rfl<|su (ze rfl rfl rfl) rfl<|qc ?_;refine ql _ rfl (fun h9 => ?_) (fun h9 => ?_)
     ·replace h9 : (decide (x31 < x32)) = true := h9;replace hR := zm hR h9;(try simp only [bB] at h9);refine qn<|qq<|qb<|qa [.p, .p, .p, .p, .p, .p, .p]<|sm rfl rfl<|sm rfl rfl<|su (zl rfl rfl rfl iF) rfl<|su (qe3 rfl Tryz.underlying3 Tryz.underlying233 rfl (by (try dsimp only); omega) (by (try dsimp only); omega)) rfl<|su (qh5 rfl rfl rfl (by (try dsimp only); omega)) rfl<|su (qe4 rfl Tryz.underlying233 Tryz.underlying3 rfl iF) rfl<|sa rfl rfl<|qc<|qb ?_;obtain ⟨y34, by34, hR⟩ := qi hR;obtain ⟨y35, by35, hR⟩ := qi hR;obtain ⟨r36, br36, hR⟩ := qi hR;refine zt [.p, .p, .p, .p, .p, .p, .r, .p, .p, .p, .r, .p, .p, .p] (by kernel_rfl)<|sm rfl rfl<|su (zd rfl rfl) rfl<|sm rfl rfl<|sm rfl rfl<|su (vm rfl rfl rfl iF) rfl<|su (vc rfl Tryz.underlying48 jd rfl rfl (jl by34) (Nat.lt_of_lt_of_eq (jv (zk by34)) hN0)) rfl<|sr (xh (f := S1079.c) (l := a0) (a := y34) rfl jd rfl rfl (zk by34)) rfl<|su (zd rfl rfl) rfl<|sm rfl rfl<|su (vc rfl Tryz.underlying48 jd rfl rfl (jl by35) (Nat.lt_of_lt_of_eq (jv (zk by35)) hN0)) rfl<|sr (xh (f := S1079.c) (l := a0) (a := y35) rfl jd rfl rfl (zk by35)) rfl<|su (xf rfl ha4 Ka4 rfl (Con.lend (Ha4 y34 y35 _ br36)) (qe rfl (qe rfl qj))) rfl<|su (ze rfl rfl rfl) rfl<|su (jn rfl rfl) rfl<|qc ?_;refine ql _ rfl (fun h10 => ?_) (fun h10 => ?_)
      ·replace h10 : (!(decide (r36 < 0))) = true := h10;replace hR := zm hR h10;(try simp only [bB] at h10);refine qa [.p, .p, .p]<|sm rfl rfl<|su (zl rfl rfl rfl iF) rfl<|sa rfl rfl<|qc ?_;exact ⟨rfl, (k33, ((x31 + x32) / 2) + 1, x32), jA, ⟨rfl, trivial⟩, rfl, ⟨iB, iB, iB, iB, iB, iB, hR⟩, by simp⟩
      ·replace h10 : (!(decide (r36 < 0))) = false := h10;replace hR := zn hR h10;(try simp only [bB] at h10);refine qa [.p, .p]<|sm rfl rfl<|sa rfl rfl<|qc ?_;exact ⟨rfl, (k33, x31, (x31 + x32) / 2), jA, ⟨rfl, trivial⟩, rfl, ⟨iB, iB, iB, iB, iB, iB, hR⟩, by simp⟩
     ·replace h9 : (decide (x31 < x32)) = false := h9;replace hR := zn hR h9;(try simp only [bB] at h9);refine zr<|qb<|qa [.p, .p, .p, .p]<|sm rfl rfl<|sm rfl rfl<|su (vm rfl rfl rfl iF) rfl<|sa rfl rfl<|qc ?_;refine jy (γ := (List S1079)) (fun g => ([(0, .osl 0 7 0 (N0)), (1, .g (G.int a1)), (3, .g (G.int a3)), (4, .g (ca4)), (18, .g (G.int ((a1 + a3) / 2))), (20, .g (G.int x31)), (24, .g (G.int ((((a1 + a3) / 2) + a2) - x31)))], [(0, .arr 53 7 (List.map S1079.c g))])) (fun g => List.length g = N0 ∧ xy (fun z0_ z1_ z2_ z3_ z4_ => qbd kf_ z0_ z1_ z2_ z3_ z4_) a1 a2 a3 a4 x31 g = some R) ?_ ?_
      ·refine qb<|qa [.p, .p, .p, .p, .p, .p, .p, .p]<|sm rfl rfl<|sm rfl rfl<|su (ze rfl rfl rfl) rfl<|sm rfl rfl<|sg rfl rfl (fun h => qk rfl rfl) rfl<|sg rfl rfl (fun h => qk rfl rfl) rfl<|sg rfl rfl (fun h => ze rfl (gd h rfl) (gd h rfl)) rfl<|su (zy rfl rfl rfl rfl) rfl<|qc ?_;refine ql _ rfl (fun h13 => ?_) (fun h13 => ?_)
       ·replace h13 : ((decide (x31 < a2)) && (decide (a2 < (((a1 + a3) / 2) + a2) - x31))) = true := h13;replace hR := zm hR h13;(try simp only [bB] at h13);obtain ⟨r43, br43, hR⟩ := qi hR;refine qa [.p, .p, .p, .p, .p, .w]<|su (zd rfl rfl) rfl<|sm rfl rfl<|sm rfl rfl<|sm rfl rfl<|sm rfl rfl<|sw (xd 0 0 rfl zeh rfl (ConB.lend (zeg a0 x31 a2 ((((a1 + a3) / 2) + a2) - x31) a4 hN0 ha4 Ka4 Ha4 (by first | assumption | omega | (simp [qh]; done) | (simp [qh]; omega)) (by first | assumption | omega | (simp [qh]; done) | (simp [qh]; omega)) (by first | assumption | omega | (simp [qh]; done) | (simp [qh]; omega)) (by first | assumption | omega | (simp [qh]; done) | (simp [qh]; omega)) br43)) (ja rfl rfl (ja rfl rfl (ja rfl rfl (ja rfl rfl (ja rfl rfl qd1))))) rfl rfl rfl) rfl<|qc ?_;exact ⟨rfl, r43, jA, ⟨rfl, trivial⟩, rfl, ⟨((qzc br43).trans hN0), hR⟩, trivial⟩
       ·replace hR := zn hR h13;refine qn ?_;exact ⟨rfl, a0, jA, ⟨rfl, trivial⟩, rfl, ⟨hN0, hR⟩, trivial⟩
      ·rintro x37 ⟨ln38, hR⟩;replace ln38 : List.length x37 = N0 := ln38;replace hR : xy (fun z0_ z1_ z2_ z3_ z4_ => qbd kf_ z0_ z1_ z2_ z3_ z4_) a1 a2 a3 a4 x31 x37 = some R := hR;unfold xy at hR;refine jy (γ := (List S1079)) (fun g => ([(0, .osl 0 7 0 (N0)), (3, .g (G.int a3)), (4, .g (ca4)), (18, .g (G.int ((a1 + a3) / 2))), (24, .g (G.int ((((a1 + a3) / 2) + a2) - x31)))], [(0, .arr 53 7 (List.map S1079.c g))])) (fun g => List.length g = N0 ∧ qbq (fun z0_ z1_ z2_ z3_ z4_ => qbd kf_ z0_ z1_ z2_ z3_ z4_) a1 a2 a3 a4 x31 g = some R) ?_ ?_
       ·refine qb<|qa [.p, .p, .p, .p, .p, .p, .p, .p]<|sm rfl rfl<|sm rfl rfl<|su (ze rfl rfl rfl) rfl<|sm rfl rfl<|sg rfl rfl (fun h => qk rfl rfl) rfl<|sg rfl rfl (fun h => qk rfl rfl) rfl<|sg rfl rfl (fun h => ze rfl (gd h rfl) (gd h rfl)) rfl<|su (zy rfl rfl rfl rfl) rfl<|qc ?_;refine ql _ rfl (fun h12 => ?_) (fun h12 => ?_)
        ·replace h12 : ((decide (a1 < x31)) && (decide (x31 < (a1 + a3) / 2))) = true := h12;replace hR := zm hR h12;(try simp only [bB] at h12);obtain ⟨r42, br42, hR⟩ := qi hR;refine qa [.p, .p, .p, .p, .p, .w]<|su (zd rfl rfl) rfl<|sm rfl rfl<|sm rfl rfl<|sm rfl rfl<|sm rfl rfl<|sw (xd 0 0 rfl q1r rfl (ConB.lend (ih x37 a1 x31 ((a1 + a3) / 2) a4 ln38 ha4 Ka4 Ha4 (by first | assumption | omega) (by first | assumption | omega) (by first | assumption | omega) (by first | assumption | omega) br42)) (ja rfl rfl (ja rfl rfl (ja rfl rfl (ja rfl rfl (ja rfl rfl qd1))))) rfl rfl rfl) rfl<|qc ?_;exact ⟨rfl, r42, jA, ⟨rfl, trivial⟩, rfl, ⟨((ql3 br42).trans ln38), hR⟩, trivial⟩
        ·replace hR := zn hR h12;refine qn ?_;exact ⟨rfl, x37, jA, ⟨rfl, trivial⟩, rfl, ⟨ln38, hR⟩, trivial⟩
       ·rintro x39 ⟨ln40, hR⟩;replace ln40 : List.length x39 = N0 := ln40;replace hR : qbq (fun z0_ z1_ z2_ z3_ z4_ => qbd kf_ z0_ z1_ z2_ z3_ z4_) a1 a2 a3 a4 x31 x39 = some R := hR;unfold qbq at hR;refine qb<|qa [.p, .p, .p, .p, .p, .p, .p, .p]<|sm rfl rfl<|sm rfl rfl<|su (ze rfl rfl rfl) rfl<|sm rfl rfl<|sg rfl rfl (fun h => qk rfl rfl) rfl<|sg rfl rfl (fun h => qk rfl rfl) rfl<|sg rfl rfl (fun h => ze rfl (gd h rfl) (gd h rfl)) rfl<|su (zy rfl rfl rfl rfl) rfl<|qc ?_;refine ql _ rfl (fun h11 => ?_) (fun h11 => ?_)
        ·replace h11 : ((decide ((a1 + a3) / 2 < (((a1 + a3) / 2) + a2) - x31)) && (decide ((((a1 + a3) / 2) + a2) - x31 < a3))) = true := h11;replace hR := zm hR h11;(try simp only [bB] at h11);obtain ⟨r41, br41, hR⟩ := qi hR;refine qa [.p, .p, .p, .p, .p, .w]<|su (zd rfl rfl) rfl<|sm rfl rfl<|sm rfl rfl<|sm rfl rfl<|sm rfl rfl<|sw (xd 0 0 rfl q1r rfl (ConB.lend (ih x39 ((a1 + a3) / 2) ((((a1 + a3) / 2) + a2) - x31) a3 a4 ln40 ha4 Ka4 Ha4 (by first | assumption | omega) (by first | assumption | omega) (by first | assumption | omega) (by first | assumption | omega) br41)) (ja rfl rfl (ja rfl rfl (ja rfl rfl (ja rfl rfl (ja rfl rfl qd1))))) rfl rfl rfl) rfl<|qc ?_;obtain rfl := Option.some.inj hR;show ResOk _ _ _ _ ∧ MemL _ _;exact ⟨res0 rfl, ⟨rfl, trivial⟩⟩
        ·replace hR := zn hR h11;refine qn ?_;obtain rfl := Option.some.inj hR;show ResOk _ _ _ _ ∧ MemL _ _;exact ⟨res0 rfl, ⟨rfl, trivial⟩⟩
def qdo (rec2 : Int → (List S1079) → Option (List S1079)) (x8 : Int) (x18 : List S1079) : Option (List S1079) :=
 rec2 (x8 * 2) x18
def wv (rec2 : Int → (List S1079) → Option (List S1079)) (a1 : Int) (a2 : S1079 → S1079 → Option Int) (x8 : Int) : Nat → Int → Int → (List S1079) → Option (List S1079)
 | 0, _, _, _ => none
 | k16 + 1, x12, x13, x14 => (bif decide (x13 ≤ a1) then qz (qbd 30001 x14 x12 (x12 + x8) x13 a2) fun r17 => wv rec2 a1 a2 x8 k16 x13 (x13 + (2 * x8)) r17 else (bif decide (x12 + x8 < a1) then qz (qbd 30001 x14 x12 (x12 + x8) a1 a2) fun r20 => qdo rec2 x8 r20 else qdo rec2 x8 x14))
def vq (a1 : Int) (a2 : S1079 → S1079 → Option Int) : Nat → Int → (List S1079) → Option (List S1079)
 | 0, _, _ => none
 | k11 + 1, x8, x9 => (bif decide (x8 < a1) then wv (fun z0_ z1_ => vq a1 a2 k11 z0_ z1_) a1 a2 x8 (((a1 + 2 * x8 - (2 * x8)).toNat) + 1) 0 (2 * x8) x9 else some x9)
def qa6 (a1 : Int) (a2 : S1079 → S1079 → Option Int) : Nat → Int → Int → (List S1079) → Option (List S1079)
 | 0, _, _, _ => none
 | k5 + 1, x1, x2, x3 => (bif decide (x2 ≤ a1) then qz (qqv x3 x1 x2 a2) fun r6 => qa6 a1 a2 k5 x2 (x2 + 20) r6 else qz (qqv x3 x1 a1 a2) fun r7 => vq a1 a2 (((a1 - 20).toNat) + 1) 20 r7)
def qy1 (a0 : List S1079) (a1 : Int) (a2 : S1079 → S1079 → Option Int) : Option (List S1079) :=
 qa6 a1 a2 (((a1 + 20 - 20).toNat) + 1) 0 20 a0
theorem zei {g : GL} (a0 : List S1079) (a1 : Int) (a2 : S1079 → S1079 → Option Int) {R : List S1079} {N0 : Nat} (hN0 : List.length a0 = N0) {ca2 : G} {ia2 : FuncId} {ka2 : List G} (ha2 : FnIs ca2 ia2 ka2) (Ka2 : zf Tryz.prog ia2) (Ha2 : ∀ (x0 : S1079) (x1 : S1079) (r : Int), a2 x0 x1 = some r → Con (EG g) ia2 ([G.agg (S1079.c x0), G.agg (S1079.c x1)] ++ ka2) (G.int r)) (hA : 0 ≤ a1) (hB : a1 ≤ 30000) (hR : qy1 a0 a1 a2 = some R) : ConB (EG g) 181 [.osl 0 7 0 N0, .g (G.int a1), .g (ca2)] [(0, .arr 53 7 (List.map S1079.c a0))] (G.tup []) [(0, .arr 53 7 (List.map S1079.c R))] := by
 unfold qy1 at hR;refine qan Tryz.func181 rfl rfl rfl fun w0 M0 x => ?_;refine qgj (f := S1079.c) (l := a0) 0 rfl fun hla0 => ?_;refine qb<|qa [.p]<|sa rfl rfl<|qc<|qb<|qa [.p, .p, .p]<|sm rfl rfl<|sa rfl rfl<|sa rfl rfl<|qc<|qb<|qq<|za (γ := Nat × Int × Int × (List S1079)) (fun g => ([(0, .osl 0 7 0 (N0)), (1, .g (G.int a1)), (2, .g (ca2)), (6, .g (G.int 20)), (7, .g (G.int g.2.1)), (8, .g (G.int g.2.2.1))], [(0, .arr 53 7 (List.map S1079.c g.2.2.2))])) (fun g => (a1 + 20 - g.2.2.1).toNat < g.1 ∧ 0 ≤ g.2.1 ∧ g.2.2.1 = g.2.1 + 20 ∧ g.2.1 ≤ 60000 ∧ List.length g.2.2.2 = N0 ∧ qa6 a1 a2 g.1 g.2.1 g.2.2.1 g.2.2.2 = some R) (fun g => g.1) ⟨rfl, (((a1 + 20 - 20).toNat) + 1, 0, 20, a0), jA, ⟨rfl, trivial⟩, rfl, ⟨Nat.lt_succ_self _, iD, iD, iD, hN0, (by exact hR)⟩, trivial⟩ ?_
 ·rintro ⟨k5, x1, x2, x3⟩ ⟨hk1, iv1_0, iv1_1, iv1_2, ln4, hR⟩;replace hk1 : (a1 + 20 - x2).toNat < k5 := hk1;replace hR : qa6 a1 a2 k5 x1 x2 x3 = some R := hR;replace iv1_0 : 0 ≤ x1 := iv1_0;replace iv1_1 : x2 = x1 + 20 := iv1_1;replace iv1_2 : x1 ≤ 60000 := iv1_2;replace ln4 : List.length x3 = N0 := ln4;obtain ⟨k5, rfl⟩ : ∃ m, k5 = m + 1 := ⟨k5 - 1, by omega⟩;rw [qa6] at hR;(try dsimp only at hR);refine qb<|qb<|qa [.p, .p, .p]<|sm rfl rfl<|sm rfl rfl<|su (vl rfl rfl rfl) rfl<|qc ?_;refine ql _ rfl (fun h1 => ?_) (fun h1 => ?_)
  ·replace h1 : (decide (x2 ≤ a1)) = true := h1;replace hR := zm hR h1;(try simp only [bB] at h1);refine qn<|qq<|qb ?_;obtain ⟨r6, br6, hR⟩ := qi hR;refine qa [.p, .p, .p, .p, .w]<|su (zd rfl rfl) rfl<|sm rfl rfl<|sm rfl rfl<|sm rfl rfl<|sw (xd 0 0 rfl q9k rfl (ConB.lend (q9i x3 x1 x2 a2 ln4 ha2 Ka2 Ha2 (by first | assumption | omega | (simp [qh]; done) | (simp [qh]; omega)) (by first | assumption | omega | (simp [qh]; done) | (simp [qh]; omega)) (by first | assumption | omega | (simp [qh]; done) | (simp [qh]; omega)) br6)) (ja rfl rfl (ja rfl rfl (ja rfl rfl (ja rfl rfl qd1)))) rfl rfl rfl) rfl<|qc<|qb<|qa [.p, .p]<|sm rfl rfl<|sa rfl rfl<|qc<|qa [.p, .p, .p, .p]<|sm rfl rfl<|sm rfl rfl<|su (zl rfl rfl rfl iF) rfl<|sa rfl rfl<|qc ?_;exact ⟨rfl, (k5, x2, x2 + 20, r6), jA, ⟨rfl, trivial⟩, rfl, ⟨(by first | omega | (dsimp only; done) | (dsimp only; omega)), (by first | omega | (dsimp only; done) | (dsimp only; omega)), (by first | omega | (dsimp only; done) | (dsimp only; omega)), (by first | omega | (dsimp only; done) | (dsimp only; omega)), ((qo3 br6).trans ln4), hR⟩, by simp⟩
  ·replace h1 : (decide (x2 ≤ a1)) = false := h1;replace hR := zn hR h1;(try simp only [bB] at h1);refine zr<|qb ?_;obtain ⟨r7, br7, hR⟩ := qi hR;refine qa [.p, .p, .p, .p, .w]<|su (zd rfl rfl) rfl<|sm rfl rfl<|sm rfl rfl<|sm rfl rfl<|sw (xd 0 0 rfl q9k rfl (ConB.lend (q9i x3 x1 a1 a2 ln4 ha2 Ka2 Ha2 (by first | assumption | omega | (simp [qh]; done) | (simp [qh]; omega)) (by first | assumption | omega | (simp [qh]; done) | (simp [qh]; omega)) (by first | assumption | omega | (simp [qh]; done) | (simp [qh]; omega)) br7)) (ja rfl rfl (ja rfl rfl (ja rfl rfl (ja rfl rfl qd1)))) rfl rfl rfl) rfl<|qc<|qq<|za (γ := Nat × Int × (List S1079)) (fun g => ([(0, .osl 0 7 0 (N0)), (1, .g (G.int a1)), (2, .g (ca2)), (6, .g (G.int g.2.1))], [(0, .arr 53 7 (List.map S1079.c g.2.2))])) (fun g => (a1 - g.2.1).toNat < g.1 ∧ 20 ≤ g.2.1 ∧ g.2.1 ≤ 60000 ∧ List.length g.2.2 = N0 ∧ vq a1 a2 g.1 g.2.1 g.2.2 = some R) (fun g => g.1) ⟨rfl, (((a1 - 20).toNat) + 1, 20, r7), jA, ⟨rfl, trivial⟩, rfl, ⟨Nat.lt_succ_self _, iD, iD, ((qo3 br7).trans ln4), (by exact hR)⟩, trivial⟩ ?_
   ·rintro ⟨k11, x8, x9⟩ ⟨hk2, iv2_0, iv2_1, ln10, hR⟩;replace hk2 : (a1 - x8).toNat < k11 := hk2;replace hR : vq a1 a2 k11 x8 x9 = some R := hR;replace iv2_0 : 20 ≤ x8 := iv2_0;replace iv2_1 : x8 ≤ 60000 := iv2_1;replace ln10 : List.length x9 = N0 := ln10;obtain ⟨k11, rfl⟩ : ∃ m, k11 = m + 1 := ⟨k11 - 1, by omega⟩;rw [vq] at hR;(try dsimp only at hR);refine qb<|qb<|qa [.p, .p, .p]<|sm rfl rfl<|sm rfl rfl<|su (ze rfl rfl rfl) rfl<|qc ?_;refine ql _ rfl (fun h2 => ?_) (fun h2 => ?_)
    ·replace h2 : (decide (x8 < a1)) = true := h2;replace hR := zm hR h2;(try simp only [bB] at h2);refine qn<|qq<|qb<|qa [.p, .p, .p, .p]<|sm rfl rfl<|su (qq3 rfl rfl rfl iF) rfl<|sa rfl rfl<|sa rfl rfl<|qc<|qb<|qq<|za (γ := Nat × Int × Int × (List S1079)) (fun g => ([(0, .osl 0 7 0 (N0)), (1, .g (G.int a1)), (2, .g (ca2)), (6, .g (G.int x8)), (7, .g (G.int g.2.1)), (8, .g (G.int g.2.2.1))], [(0, .arr 53 7 (List.map S1079.c g.2.2.2))])) (fun g => (a1 + 2 * x8 - g.2.2.1).toNat < g.1 ∧ 0 ≤ g.2.1 ∧ g.2.2.1 = g.2.1 + 2 * x8 ∧ g.2.1 ≤ 150000 ∧ List.length g.2.2.2 = N0 ∧ wv (fun z0_ z1_ => vq a1 a2 k11 z0_ z1_) a1 a2 x8 g.1 g.2.1 g.2.2.1 g.2.2.2 = some R) (fun g => g.1) ⟨rfl, (((a1 + 2 * x8 - (2 * x8)).toNat) + 1, 0, 2 * x8, x9), jA, ⟨rfl, trivial⟩, rfl, ⟨Nat.lt_succ_self _, iD, iD, iD, ln10, (by exact hR)⟩, trivial⟩ ?_
     ·rintro ⟨k16, x12, x13, x14⟩ ⟨hk3, iv3_0, iv3_1, iv3_2, ln15, hR⟩;replace hk3 : (a1 + 2 * x8 - x13).toNat < k16 := hk3;replace hR : wv (fun z0_ z1_ => vq a1 a2 k11 z0_ z1_) a1 a2 x8 k16 x12 x13 x14 = some R := hR;replace iv3_0 : 0 ≤ x12 := iv3_0;replace iv3_1 : x13 = x12 + 2 * x8 := iv3_1;replace iv3_2 : x12 ≤ 150000 := iv3_2;replace ln15 : List.length x14 = N0 := ln15;obtain ⟨k16, rfl⟩ : ∃ m, k16 = m + 1 := ⟨k16 - 1, by omega⟩;rw [wv] at hR;(try dsimp only at hR);refine qb<|qb<|qa [.p, .p, .p]<|sm rfl rfl<|sm rfl rfl<|su (vl rfl rfl rfl) rfl<|qc ?_;refine ql _ rfl (fun h3 => ?_) (fun h3 => ?_)
      ·replace h3 : (decide (x13 ≤ a1)) = true := h3;replace hR := zm hR h3;(try simp only [bB] at h3);refine qn<|qq<|qb ?_;obtain ⟨r17, br17, hR⟩ := qi hR;refine qa [.p, .p, .p, .p, .p, .p, .p, .w]<|su (zd rfl rfl) rfl<|sm rfl rfl<|sm rfl rfl<|sm rfl rfl<|su (zl rfl rfl rfl iF) rfl<|sm rfl rfl<|sm rfl rfl<|sw (xd 0 0 rfl q1r rfl (ConB.lend (q9j 30001 x14 x12 (x12 + x8) x13 a2 ln15 ha2 Ka2 Ha2 (by first | assumption | omega | (simp [qh]; done) | (simp [qh]; omega)) (by first | assumption | omega | (simp [qh]; done) | (simp [qh]; omega)) (by first | assumption | omega | (simp [qh]; done) | (simp [qh]; omega)) (by first | assumption | omega | (simp [qh]; done) | (simp [qh]; omega)) br17)) (ja rfl rfl (ja rfl rfl (ja rfl rfl (ja rfl rfl (ja rfl rfl qd1))))) rfl rfl rfl) rfl<|qc<|qb<|qa [.p, .p]<|sm rfl rfl<|sa rfl rfl<|qc<|qa [.p, .p, .p, .p, .p]<|sm rfl rfl<|sm rfl rfl<|su (qq3 rfl rfl rfl iF) rfl<|su (zl rfl rfl rfl iF) rfl<|sa rfl rfl<|qc ?_;exact ⟨rfl, (k16, x13, x13 + (2 * x8), r17), jA, ⟨rfl, trivial⟩, rfl, ⟨(by first | omega | (dsimp only; done) | (dsimp only; omega)), (by first | omega | (dsimp only; done) | (dsimp only; omega)), (by first | omega | (dsimp only; done) | (dsimp only; omega)), (by first | omega | (dsimp only; done) | (dsimp only; omega)), ((ql3 br17).trans ln15), hR⟩, by simp⟩
      ·replace h3 : (decide (x13 ≤ a1)) = false := h3;replace hR := zn hR h3;(try simp only [bB] at h3);refine zr ?_;refine jy (γ := (List S1079)) (fun g => ([(0, .osl 0 7 0 (N0)), (1, .g (G.int a1)), (2, .g (ca2)), (6, .g (G.int x8))], [(0, .arr 53 7 (List.map S1079.c g))])) (fun g => List.length g = N0 ∧ qdo (fun z0_ z1_ => vq a1 a2 k11 z0_ z1_) x8 g = some R) ?_ ?_
       ·refine qb<|qa [.p, .p, .p, .p]<|sm rfl rfl<|sm rfl rfl<|su (zl rfl rfl rfl iF) rfl<|sa rfl rfl<|qc<|qb<|qa [.p, .p, .p]<|sm rfl rfl<|sm rfl rfl<|su (ze rfl rfl rfl) rfl<|qc ?_;refine ql _ rfl (fun h4 => ?_) (fun h4 => ?_)
        ·replace h4 : (decide (x12 + x8 < a1)) = true := h4;replace hR := zm hR h4;(try simp only [bB] at h4);obtain ⟨r20, br20, hR⟩ := qi hR;refine qa [.p, .p, .p, .p, .p, .w]<|su (zd rfl rfl) rfl<|sm rfl rfl<|sm rfl rfl<|sm rfl rfl<|sm rfl rfl<|sw (xd 0 0 rfl q1r rfl (ConB.lend (q9j 30001 x14 x12 (x12 + x8) a1 a2 ln15 ha2 Ka2 Ha2 (by first | assumption | omega | (simp [qh]; done) | (simp [qh]; omega)) (by first | assumption | omega | (simp [qh]; done) | (simp [qh]; omega)) (by first | assumption | omega | (simp [qh]; done) | (simp [qh]; omega)) (by first | assumption | omega | (simp [qh]; done) | (simp [qh]; omega)) br20)) (ja rfl rfl (ja rfl rfl (ja rfl rfl (ja rfl rfl (ja rfl rfl qd1))))) rfl rfl rfl) rfl<|qc ?_;exact ⟨rfl, r20, jA, ⟨rfl, trivial⟩, rfl, ⟨((ql3 br20).trans ln15), hR⟩, trivial⟩
        ·replace hR := zn hR h4;refine qn ?_;exact ⟨rfl, x14, jA, ⟨rfl, trivial⟩, rfl, ⟨ln15, hR⟩, trivial⟩
       ·rintro x18 ⟨ln19, hR⟩;replace ln19 : List.length x18 = N0 := ln19;replace hR : qdo (fun z0_ z1_ => vq a1 a2 k11 z0_ z1_) x8 x18 = some R := hR;unfold qdo at hR;refine qa [.p, .p, .p]<|sm rfl rfl<|su (qq3 rfl rfl rfl iF) rfl<|sa rfl rfl<|qc ?_;exact ⟨rfl, (k11, x8 * 2, x18), jA, ⟨rfl, trivial⟩, rfl, ⟨iB, iB, iB, ln19, hR⟩, by simp⟩
    ·replace hR := zn hR h2;refine zr ?_;obtain rfl := Option.some.inj hR;show ResOk _ _ _ _ ∧ MemL _ _;exact ⟨res0 rfl, ⟨rfl, trivial⟩⟩
theorem qng (rec2 : Int → List S1079 → Option (List S1079)) (hrec : ∀ x l r, rec2 x l = some r → r.length = l.length) (a1 : Int) (a2 : S1079 → S1079 → Option Int) (x8 : Int) : ∀ (k : Nat) (x y : Int) (l r : List S1079), wv rec2 a1 a2 x8 k x y l = some r → r.length = l.length
 | 0, _, _, _, _, h => by rw [wv] at h; cases h
 | k + 1, x, y, l, r, h => by
  rw [wv] at h
  cases hc : decide (y ≤ a1) with
  | true => obtain ⟨y1, h1, h⟩ := qi (zm h hc); exact (qng rec2 hrec a1 a2 x8 k _ _ _ _ h).trans (ql3 h1)
  | false =>
   have h := zn h hc
   cases hd : decide (x + x8 < a1) with
   | true => obtain ⟨y1, h1, h⟩ := qi (zm h hd); exact (hrec _ _ _ h).trans (ql3 h1)
   | false => exact hrec _ _ _ (zn h hd)
theorem qnh (a1 : Int) (a2 : S1079 → S1079 → Option Int) : ∀ (k : Nat) (x : Int) (l r : List S1079), vq a1 a2 k x l = some r → r.length = l.length
 | 0, _, _, _, h => by rw [vq] at h; cases h
 | k + 1, x, l, r, h => by
  rw [vq] at h
  cases hc : decide (x < a1) with
  | true => exact qng _ (fun x l r h => qnh a1 a2 k x l r h) _ _ _ _ _ _ _ _ (zm h hc)
  | false => have h := zn h hc; cases h; rfl
theorem qni (a1 : Int) (a2 : S1079 → S1079 → Option Int) : ∀ (k : Nat) (x y : Int) (l r : List S1079), qa6 a1 a2 k x y l = some r → r.length = l.length
 | 0, _, _, _, _, h => by rw [qa6] at h; cases h
 | k + 1, x, y, l, r, h => by
  rw [qa6] at h
  cases hc : decide (y ≤ a1) with
  | true => obtain ⟨y1, h1, h⟩ := qi (zm h hc); exact (qni a1 a2 k _ _ _ _ h).trans (qo3 h1)
  | false => obtain ⟨y1, h1, h⟩ := qi (zn h hc); exact (qnh _ _ _ _ _ _ h).trans (qo3 h1)
theorem q50 {a0 : List S1079} {a1 : Int} {a2 : S1079 → S1079 → Option Int} {R : List S1079} (h : qy1 a0 a1 a2 = some R) : R.length = a0.length := qni _ _ _ _ _ _ _ h
def qsb (a0 : List S1079) (a1 : S1079 → S1079 → Option Int) : Option (List S1079) :=
 qz (qy1 a0 (List.length a0 : Int) a1) fun r1 => some r1
theorem zej {g : GL} (a0 : List S1079) (a1 : S1079 → S1079 → Option Int) {R : List S1079} {N0 : Nat} (hN0 : List.length a0 = N0) {ca1 : G} {ia1 : FuncId} {ka1 : List G} (ha1 : FnIs ca1 ia1 ka1) (Ka1 : zf Tryz.prog ia1) (Ha1 : ∀ (x0 : S1079) (x1 : S1079) (r : Int), a1 x0 x1 = some r → Con (EG g) ia1 ([G.agg (S1079.c x0), G.agg (S1079.c x1)] ++ ka1) (G.int r)) (hB : (List.length a0 : Int) ≤ 30000) (hR : qsb a0 a1 = some R) : ConB (EG g) 149 [.osl 0 7 0 N0, .g (ca1)] [(0, .arr 53 7 (List.map S1079.c a0))] (G.tup []) [(0, .arr 53 7 (List.map S1079.c R))] := by
 unfold qsb at hR;refine qan Tryz.func149 rfl rfl rfl fun w0 M0 x => ?_;refine qgj (f := S1079.c) (l := a0) 0 rfl fun hla0 => ?_;obtain ⟨r1, br1, hR⟩ := qi hR;refine qa [.p, .p, .p, .p, .w]<|su (zd rfl rfl) rfl<|su (zd rfl rfl) rfl<|su (qw8 hN0 rfl Tryz.underlying48 rfl) rfl<|sm rfl rfl<|sw (xd 0 0 rfl zek rfl (ConB.lend (zei a0 (List.length a0 : Int) a1 hN0 ha1 Ka1 Ha1 (by first | assumption | omega | (simp [qh]; done) | (simp [qh]; omega)) (by first | assumption | omega | (simp [qh]; done) | (simp [qh]; omega)) br1)) (ja rfl rfl (ja rfl rfl (ja rfl rfl qd1))) rfl rfl rfl) rfl<|qc ?_;obtain rfl := Option.some.inj hR;show ResOk _ _ _ _ ∧ MemL _ _;exact ⟨res0 rfl, ⟨rfl, trivial⟩⟩
theorem q51 {a0 : List S1079} {a1 : S1079 → S1079 → Option Int} {R : List S1079} (h : qsb a0 a1 = some R) : R.length = a0.length := by
 unfold qsb at h;obtain ⟨y1, h1, h⟩ := qi h
 cases h
 exact q50 h1
theorem zel {g : GL} (a0 : List S1079) (hb : a0.length ≤ 30000) : ConN (EG g) 148 [G.sl 7 (List.map S1079.c a0)] 53 7 (List.map S1079.c a0) := by
 refine qc2 Tryz.func148 rfl rfl fun w0 M0 => ?_;refine qb<|qa [.p]<|sa rfl rfl<|qc<|qb<|qb<|qa [.p, .p]<|sm rfl rfl<|su (qlb (f := S1079.c) (l := a0) rfl Tryz.underlying48 rfl rfl) rfl<|qc ?_;refine qob rfl (fun h => ?_) ?_
 ·refine qb<|qa [.p]<|sa rfl rfl<|qc<|qo ?_;exact qla (E := EG g) rfl rfl (by rw [h]; rfl)
 ·refine qn<|qb<|qa [.w, .p, .k, .p] ?_;refine sw (qgk (xs := List.map S1079.c []) 5 rfl Tryz.underlying48 jd qny rfl jh rfl (by simp) (by decide) rfl) rfl ?_;refine sm rfl rfl ?_;refine st_k rfl rfl (ve (f := S1079.c) (out := []) (new := a0) rfl qoq rfl rfl (wx rfl (wy (by decide) (by simp [S1079.c]))) (qgf rfl) (by simp; omega)) rfl ?_;refine su (zw rfl rfl) rfl<|qc<|qo ?_;exact qd3 (E := EG g) rfl rfl rfl (List.length_map ..)
end Go.Sim
namespace Go.Proofs
open Go.RowKit Go.Shelf
attribute [local go_sem] Oper.semAt_some
theorem q3m (d : Int) (h0 : 0 ≤ d) (h1 : d ≤ 1000000) (w : World) : Calls Tryz.prog 190 #[.int .i64 d] w fun e w' => e = .returned (.int .i64 ((d + 5) % 7)) ∧ w' = w := by
 go_enter Tryz.func190, Tryz.ntmps190
 go_wp2
 go_ret
 exact ⟨rfl, rfl⟩
theorem q1s (a b : Int) : bits BinOp.and IntKind.i64 a b = Sim.andI a b := rfl
theorem q9l (m d : Int) (h0 : 0 ≤ d) (h1 : d ≤ 6) : m / 2 ^ d.toNat = Sim.shrI m d := by
 unfold Sim.shrI;rw [Nat.min_eq_left (by omega), Int.fdiv_eq_ediv_of_nonneg _ (by exact Int.le_of_lt (Int.pow_pos (by decide)))]
theorem q3n (m d : Int) (h0 : 0 ≤ d) (h1 : d ≤ 6) (w : World) : Calls Tryz.prog 189 #[.int .i64 m, .int .i64 d] w fun e w' => e = .returned (.bool (decide (Sim.andI (Sim.shrI m d) 1 = 1))) ∧ w' = w := by
 go_enter Tryz.func189, Tryz.ntmps189
 go_wp2
 go_ret
 refine ⟨?_, rfl⟩;rw [q1s, q9l m d h0 h1];rw [show (Sim.andI (Sim.shrI m d) 1 == 1) = decide (Sim.andI (Sim.shrI m d) 1 = 1) by rw [Bool.eq_iff_iff]; simp]
 rfl
def inM (m d : Int) : Bool := decide (Sim.andI (Sim.shrI m ((d + 5) % 7)) 1 = 1)
def dayL (m : Int) : Nat → Int → List Int
 | 0, _ => []
 | n + 1, d => if inM m d = true then d :: dayL m n (d + 1) else dayL m n (d + 1)
theorem im_T (m d : Int) (hm : inM m d = true) (h0 : 0 ≤ d) (h1 : d ≤ 1000000) (w : World) : Calls Tryz.prog 189 #[.int .i64 m, .int .i64 ((d + 5) % 7)] w fun e w' => e = .returned (.bool true) ∧ w' = w :=
 (q3n m ((d + 5) % 7) (by omega) (by omega) w).mono fun e w' ⟨h, k⟩ => ⟨by rw [h]; unfold inM at hm; rw [hm], k⟩
theorem im_F (m d : Int) (hm : inM m d = false) (h0 : 0 ≤ d) (h1 : d ≤ 1000000) (w : World) : Calls Tryz.prog 189 #[.int .i64 m, .int .i64 ((d + 5) % 7)] w fun e w' => e = .returned (.bool false) ∧ w' = w :=
 (q3n m ((d + 5) % 7) (by omega) (by omega) w).mono fun e w' ⟨h, k⟩ => ⟨by rw [h]; unfold inM at hm; rw [hm], k⟩
set_option maxRecDepth 100000 in
set_option maxHeartbeats 1000000 in
theorem q1t (F : Fence) (n : Nat) (h6 : F.fn 193) (h7 : F.fn 189) (h8 : F.fn 190) (hro : F.round = none) (hw : F = Fence.wide) (hn : 2 ≤ n) (l b o n₀ : Nat) (hb : b < n₀) (f t m : Int) (hf : 0 ≤ f) (ht : t ≤ 1000000) (J Jx : List Int → World → Prop) (hJd : ∀ pre W k, J pre W → J pre (W.drewN k))
  (hY : ∀ pre x W, J pre W → pre.length < (dayL m (t + 1 - f).toNat f).length → YieldAt F (n - 1) Tryz.prog l #[.int .i64 x] W fun e W' =>
   (e = .returned (.bool true) ∧ J (pre ++ [x]) W' ∧ Below n₀ W W') ∨ (e = .returned (.bool false) ∧ Jx (pre ++ [x]) W'))
  (W : World) (c0 : W.cell? ⟨b, o, none⟩ = some (.int .i64 f)) (c1 : W.cell? ⟨b, o + 1, none⟩ = some (.int .i64 t)) (c2 : W.cell? ⟨b, o + 2, none⟩ = some (.int .i64 m)) (h0 : J [] W) :
  CallsIn F n Tryz.prog 193 #[.func (.yield l) #[] #[], .pointer (some ⟨b, o, none⟩)] W fun e W' => (∃ v, e = .returned v) ∧
   ((∃ ys, ys = dayL m (t + 1 - f).toNat f ∧ J ys W') ∨ (∃ pre, pre <+: dayL m (t + 1 - f).toNat f ∧ Jx pre W')) := by
 refine callsIn_of_wp Tryz.func193 rfl h6 ?_ hro;simp only [Tryz.ntmps193, List.size_toArray, List.length_cons, List.length_nil, Nat.reduceAdd, Nat.reduceSub, Array.replicate_succ, Array.replicate_zero, List.push_toArray, List.append_toArray, List.nil_append, List.cons_append];subst hw
 gi_wp2
 gi_loopw [3] (fun p wr => ∃ (pre : List Int) (d : Int), p = .int .i64 d ∧ f ≤ d ∧ (d ≤ t + 1 ∨ d = f) ∧ dayL m (t + 1 - f).toNat f = pre ++ dayL m (t + 1 - d).toNat d ∧ wr.cell? ⟨b, o + 1, none⟩ = some (.int .i64 t) ∧ wr.cell? ⟨b, o + 2, none⟩ = some (.int .i64 m) ∧ J pre wr)
  (fun p _ => (t + 1 - intOf p).toNat)
 case atStart => exact ⟨[], f, rfl, Int.le_refl _, .inr rfl, rfl, c1, c2, h0⟩
 case round =>
  clear c0 c1 c2 h0;obtain ⟨pre, d, rfl, hd1, hd2, hx, c1, c2, hJs⟩ := hrel
  by_cases hlt : d ≤ t
  ·have hs : dayL m (t + 1 - d).toNat d = if inM m d = true then d :: dayL m (t + 1 - (d + 1)).toNat (d + 1) else dayL m (t + 1 - (d + 1)).toNat (d + 1) := by
    obtain ⟨k, hk⟩ : ∃ k, (t + 1 - d).toNat = k + 1 := ⟨(t - d).toNat, by omega⟩;rw [hk, dayL, show (t + 1 - (d + 1)).toNat = k by omega]
   by_cases hm : inM m d = true
   ·obtain ⟨fn, tmps, assign, body, hy, hR'⟩ := YieldAt.mono (hY pre d wr.drew (hJd _ _ 1 hJs) (by rw [hx, hs, if_pos hm]; simp)) (R' := fun e W' => ∃ bb : Bool, e = .returned (.bool bb) ∧ ((bb = true → J (pre ++ [d]) W' ∧ Below n₀ wr.drew W') ∧ (bb = false → Jx (pre ++ [d]) W'))) (by
     rintro e W' (⟨rfl, k1, k2⟩ | ⟨rfl, k1⟩)
     ·exact ⟨true, rfl, (fun _ => ⟨k1, k2⟩), (fun h => (by cases h))⟩
     ·exact ⟨false, rfl, (fun h => (by cases h)), (fun _ => k1)⟩)
    have X1 := Lib.hid hx; clear hx;have X2 := Lib.hid hs; clear hs
    gi_wp2
    gi_region_with (first | (refine ⟨fun h => (by cases h), ?_⟩; gi_at_call 190; refine (callsIn_wide.2 (q3m _ (by omega) (by omega) _)).mono ?_; rintro e w' ⟨rfl, rfl⟩) | (refine ⟨fun h => (by cases h), ?_⟩; gi_at_call 189; refine (callsIn_wide.2 (im_T _ _ hm (by omega) (by omega) _)).mono ?_; rintro e w' ⟨rfl, rfl⟩) | (refine ⟨fun h => (by cases h), ?_⟩; refine hR'.mono ?_; rintro e W' ⟨bb, rfl, hT, hF⟩))
    all_goals
     cases bb with
     | true =>
      obtain ⟨hJ3, hk3⟩ := hT rfl;clear hT hF;have e1 : W'.cell? ⟨b, o + 1, none⟩ = some (.int .i64 t) := (hk3.cell (p := ⟨b, o + 1, none⟩) hb).trans c1;have e2 : W'.cell? ⟨b, o + 2, none⟩ = some (.int .i64 m) := (hk3.cell (p := ⟨b, o + 2, none⟩) hb).trans c2
      go_simp
      gi_wp2
      go_roundw
      case rel => exact ⟨pre ++ [d], d + 1, rfl, by omega, by omega, by rw [X1.out, X2.out, if_pos hm]; simp, e1, e2, hJ3⟩
      case measure => simp [intOf]; omega
     | false =>
      have hX := hF rfl;clear hT hF
      go_simp
      gi_wp2
      refine bodyPost_ret (results_none rfl _ _ _) rfl ?_;exact ⟨⟨_, rfl⟩, .inr ⟨pre ++ [d], ⟨dayL m (t + 1 - (d + 1)).toNat (d + 1), by rw [X1.out, X2.out, if_pos hm]; simp⟩, hX⟩⟩
   ·have hm' : inM m d = false := by simpa using hm
    have X1 := Lib.hid hx; clear hx;have X2 := Lib.hid hs; clear hs
    gi_wp2
    refine wpIn_region_quiet_lit rfl (by kernel_rfl) (by kernel_rfl) ?_
    repeat (gi_big_quiet_step (fail))
    gi_big_quiet_step ((refine ⟨fun h => (by cases h), ?_⟩; exact CallsIn.quiet_of_same (callsIn_wide.2 (q3m d (by omega) (by omega) _))))
    repeat (gi_big_quiet_step (fail))
    gi_big_quiet_step ((refine ⟨fun h => (by cases h), ?_⟩; exact CallsIn.quiet_of_same (callsIn_wide.2 (im_F m d hm' (by omega) (by omega) _))))
    repeat (gi_big_quiet_step (fail))
    refine BigFrame.wpQuietIn_skip (fun _ _ _ _ => trivial) (by rfl) ?_;simp only [Act.put, List.setIfInBounds_toArray, List.set_cons_succ, List.set_cons_zero]
    repeat (gi_big_quiet_step (fail))
    refine wpQuietIn_nil ?_;intro _ hw';obtain ⟨nq, hw''⟩ := hw';subst hw''
    gi_wp2
    go_roundw
    case rel => exact ⟨pre, d + 1, rfl, by omega, by omega, by rw [X1.out, X2.out, if_neg hm], c1, c2, hJd _ _ _ hJs⟩
    case measure => simp [intOf]; omega
  ·have hs : dayL m (t + 1 - d).toNat d = [] := by rw [show (t + 1 - d).toNat = 0 by omega]; rfl
   have X1 := Lib.hid hx; clear hx;have X2 := Lib.hid hs; clear hs
   gi_wp2
   go_end0
   refine ⟨⟨_, rfl⟩, .inl ?_⟩
   have : dayL m (t + 1 - f).toNat f = pre := by rw [X1.out, X2.out]; simp
   rw [this]; exact hJs
theorem qvj (n : Nat) (hn : 2 ≤ n) (b o n₀ : Nat) (f t m : Int) (hf : 0 ≤ f) (ht : t ≤ 1000000) (w : World) (hb : b < n₀) (hn₀ : n₀ ≤ w.heap.size) (c0 : w.cell? ⟨b, o, none⟩ = some (.int .i64 f)) (c1 : w.cell? ⟨b, o + 1, none⟩ = some (.int .i64 t)) (c2 : w.cell? ⟨b, o + 2, none⟩ = some (.int .i64 m)) :
  SeqStopsK Fence.wide n Tryz.prog 193 #[.pointer (some ⟨b, o, none⟩)] (fun x : Int => #[Value.int .i64 x]) (Below n₀) (fun ys => ys = dayL m (t + 1 - f).toNat f) (fun pre => pre <+: dayL m (t + 1 - f).toNat f) (dayL m (t + 1 - f).toNat f).length w := fun l J Jx W hW hJ _ hY h0 =>
 q1t Fence.wide n trivial trivial trivial rfl rfl hn l b o n₀ hb f t m hf ht J Jx (fun pre W k h => hJ pre W (W.drewN k) none h ⟨rfl, rfl, rfl, Nat.le_refl _, fun _ _ _ => rfl⟩ (fun r e => by cases e)) hY W
  ((hW.cell (p := ⟨b, o, none⟩) (Nat.lt_of_lt_of_le hb hn₀)).trans c0) ((hW.cell (p := ⟨b, o + 1, none⟩) (Nat.lt_of_lt_of_le hb hn₀)).trans c1) ((hW.cell (p := ⟨b, o + 2, none⟩) (Nat.lt_of_lt_of_le hb hn₀)).trans c2) h0
theorem qho (m : Int) : ∀ (n : Nat) (d : Int), (dayL m n d).length ≤ n
 | 0, _ => Nat.le_refl _
 | n + 1, d => by
  unfold dayL;have := qho m n (d + 1)
  split <;> simp <;> omega
theorem q52 (x : Int) (w : World) : Calls Tryz.prog 176 #[.int .i64 x] w fun e w' => e = .returned (.bool true) ∧ w' = w := by
 go_enter Tryz.func176, Tryz.ntmps176
 go_wp2
 go_ret
 exact ⟨rfl, rfl⟩
end Go.Proofs
namespace Go.Proofs
open Go.RowKit Go.Shelf
attribute [local go_sem] Oper.semAt_some
theorem qo4 (x : Int) (w : World) : Calls Tryz.prog 176 #[.int .i64 x] w fun e w' => e = .returned (.bool true) ∧ w = w' := (q52 x w).mono fun _ _ ⟨h, k⟩ => ⟨h, k.symm⟩
theorem zem : (Tryz.prog.info? 3).map (fun i => (i.zero, i.size, i.bytes)) = some (some (.int .i64 0), 1, 8) := by kernel_rfl
set_option maxRecDepth 100000 in
set_option maxHeartbeats 2000000 in
theorem qqw (b o : Nat) (f t m : Int) (hf : 0 ≤ f) (ht : t ≤ 1000000) (w : World) (hb : b < w.heap.size) (c0 : w.cell? ⟨b, o, none⟩ = some (.int .i64 f)) (c1 : w.cell? ⟨b, o + 1, none⟩ = some (.int .i64 t)) (c2 : w.cell? ⟨b, o + 2, none⟩ = some (.int .i64 m)) :
  CallsIn Fence.wide 4 Tryz.prog 174 #[.func (.func 193) #[] #[.pointer (some ⟨b, o, none⟩)], .func (.func 176) #[] #[]] w fun e W' => ∃ v, e = .returned v ∧ W'.ownsRow (w.heap.size + 1) 3 1 v (dayL m (t + 1 - f).toNat f).length ((dayL m (t + 1 - f).toNat f).map (Value.int .i64)) ∧ (v = .slice none 0 0 ↔ dayL m (t + 1 - f).toNat f = []) ∧ Below w.heap.size w W' := by
 obtain ⟨i0, hi, hz0, hz1, hz2⟩ := info_parts zem;have hlen := qho m (t + 1 - f).toNat f
 have hlen2 : (t + 1 - f).toNat ≤ 1000001 := by omega
 refine callsIn_of_wp_marks Tryz.func174 rfl trivial ?_ rfl;simp only [Tryz.ntmps174, List.size_toArray, List.length_cons, List.length_nil, Nat.reduceAdd, Nat.reduceSub, Array.replicate_succ, Array.replicate_zero, List.push_toArray, List.append_toArray, List.nil_append, List.cons_append]
 gi_wp2
 have bO := Boxed.new (w.alloc (.cells #[.func (.func 176) #[] #[]] 131)) 38 (.slice none 0 0);rw [World.size_alloc] at bO;have bF := (Boxed.new w 131 (.func (.func 176) #[] #[])).cell;have hB00 : Below w.heap.size w (w.alloc (.cells #[.func (.func 176) #[] #[]] 131)) := (Below.refl _ w).alloc (Nat.le_refl _) _;have hB0 : Below (w.heap.size + 1) (w.alloc (.cells #[.func (.func 176) #[] #[]] 131)) ((w.alloc (.cells #[.func (.func 176) #[] #[]] 131)).alloc (.cells #[.slice none 0 0] 38)) := (Below.refl _ _).alloc (by simp) _;have hB1 : Below w.heap.size w ((w.alloc (.cells #[.func (.func 176) #[] #[]] 131)).alloc (.cells #[.slice none 0 0] 38)) := hB00.trans (hB0.mono (by omega));refine wpIn_rangeFunc_ownG rfl (by decide) (gf := 193) (lb := #[.pointer (some ⟨b, o, none⟩)]) rfl trivial (enters_of Tryz.func193 (by kernel_rfl) rfl)
  (qvj 3 (by decide) b o (w.heap.size + 1) f t m hf ht _ (by omega) (by simp) ((hB1.cell (p := ⟨b, o, none⟩) hb).trans c0) ((hB1.cell (p := ⟨b, o + 1, none⟩) hb).trans c1) ((hB1.cell (p := ⟨b, o + 2, none⟩) hb).trans c2)) belowK_t (belowK_b (by simp)) (Below.refl _ _) (fun _ => rfl)
  (fun pre W => (∃ v, Boxed W (w.heap.size + 1) 38 v ∧ W.ownsRow (w.heap.size + 1) 3 1 v pre.length (pre.map (Value.int .i64)) ∧ (v = .slice none 0 0 ↔ pre = [])) ∧ Below (w.heap.size + 1) (w.alloc (.cells #[.func (.func 176) #[] #[]] 131)) W)
  (fun _ _ _ => False)
  (OwnFrom.and (Own.from (holdsRow_own (w.heap.size + 1) (w.heap.size + 1) 38 3 1 (fun pre : List Int => pre.length) (fun pre => pre.map (Value.int .i64)) (fun pre v => v = .slice none 0 0 ↔ pre = [])) _) (ownFrom_below (by simp) (by simp)))
  (fun _ _ _ _ _ hs _ _ => hs)
  ⟨⟨_, bO, World.ownsRow_nil _ _ _ _, by simp⟩, hB0⟩
  (fun x => { tmps := #[Value.func (Fn.func 193) #[] #[Value.pointer (some { block := b, off := o })],
     Value.func (Fn.func 176) #[] #[], undef, Value.pointer (some { block := w.heap.size, off := 0 }),
     Value.slice none 0 0, Value.pointer (some { block := w.heap.size + 1, off := 0 }), .int .i64 x,
     Value.func (Fn.func 193) #[] #[Value.pointer (some { block := b, off := o })], .int .i64 x, undef, undef, undef,
     undef, undef, undef, undef, undef], defers := [] }) ?assign ?body ?done ?stop
 case assign =>
  intro l x W K hK
  gi_wp2
  exact hK
 case body =>
  rintro l pre x W ⟨⟨v, hv, hrow, hnil⟩, hB⟩ hlt;have hc := hv.cell;have hfc : W.cell? ⟨w.heap.size, 0, none⟩ = some (.func (.func 176) #[] #[]) := (hB.cell (p := ⟨w.heap.size, 0, none⟩) (by simp)).trans bF
  gi_wp2_with (first | (gi_at_call 176; refine (CallsIn.inRound l (callsIn_wide.2 (qo4 x _))).mono ?_; rintro e w' ⟨rfl, rfl⟩) | (refine ⟨trivial, ?_⟩; gi_at_call 176; refine (CallsIn.inRound l (callsIn_wide.2 (qo4 x _))).mono ?_; rintro e w' ⟨rfl, rfl⟩) | (refine ⟨fun h => (by cases h), ?_⟩; gi_at_call 176; refine (CallsIn.inRound l (callsIn_wide.2 (qo4 x _))).mono ?_; rintro e w' ⟨rfl, rfl⟩) | (gi_at_builtin; refine wpListIn_append_own _ rfl _ _ 38 rfl (w.heap.size + 1) 3 i0 (.int .i64 0) 1 8 Tryz.underlying38 hi hz0 hz1 hz2 rfl (by decide) _ _ _ rfl (hrow.alloc _) ⟨W.heap.size, 0, none⟩ 1 1 [.int .i64 x] rfl rfl (cell_one_new _ _ _) (by simp [Value.oneCell']) (by unfold maxLen; omega) (by omega) (by have := hB.size; simp at this ⊢; omega) ?_; intro v' w1 hown' hgrow _; obtain ⟨g', cap', rfl⟩ := ownsRow_succ hown'; obtain ⟨hv1, hv2, hr2, hk2, hb2⟩ := hv.appended (by decide) hrow (by have := hB.size; simp at this ⊢; omega) (Nat.le_refl _) hown' hgrow; have hc1 := hv1.cell; have hf1 := hv1.frozen))
  exact ⟨hk2.from _, hb2, ⟨_, hv2, by simpa using hr2, by simp⟩, hB.trans hb2⟩
 case done =>
  rintro D ys W hD rfl ⟨⟨v, hv, hrow, hnil⟩, hB⟩ hK;have hc := hv.cell
  gi_wp2
  refine ⟨by simp, .inl ⟨_, _, rfl, run_takeDeferred hK, ?_⟩⟩;exact ⟨_, results_tmp rfl _ _ _, v, rfl, ownsRow_putObj hrow _ hK rfl, hnil, hB00.trans ((hB.mono (by omega)).trans (belowK_b (w := w) (Nat.le_refl _) W D _ _ (by simp at hD; omega) hK rfl rfl))⟩
 case stop =>
  rintro D c pre W _ _ h _;exact h.elim
end Go.Proofs
namespace Go.Sim
open Go.Proofs
def qju  : List UInt8 → Nat → Bool
 | [], k2 => true
 | y3 :: t4, k2 => (bif (!(((decide (97 ≤ (y3.toNat : Int))) && (decide ((y3.toNat : Int) ≤ 122))) || ((decide (65 ≤ (y3.toNat : Int))) && (decide ((y3.toNat : Int) ≤ 90))))) && ((decide (((k2 : Nat) : Int) = 0)) || ((decide ((y3.toNat : Int) ≠ 95)) && ((decide ((y3.toNat : Int) < 48)) || (decide (57 < (y3.toNat : Int)))))) then false else qju  t4 (k2 + 1))
def s91 (a0 : ByteArray) : Bool :=
 (bif (decide ((ByteArray.size a0 : Int) = 0)) || (decide (24 < (ByteArray.size a0 : Int))) then false else qju ((ByteArray.data a0).toList) 0)
theorem c91 {g : GL} (a0 : ByteArray)    : Con (EG g) 129 [G.str a0] (G.bool (s91 a0)) := by
 generalize hR : s91 a0 = R;unfold s91 at hR;refine qm Tryz.func129 rfl rfl fun w0 M0 => ?_;refine qb<|qa [.p]<|sa rfl rfl<|qc<|qb<|qb<|qa [.p, .p, .p, .p, .p, .p, .p, .p]<|sm rfl rfl<|su (vd rfl Tryz.underlying9 rfl) rfl<|su (jq rfl rfl rfl) rfl<|sm rfl rfl<|sg rfl rfl (fun h => qk rfl rfl) rfl<|sg rfl rfl (fun h => vd rfl Tryz.underlying9 (gd h rfl)) rfl<|sg rfl rfl (fun h => z6 rfl (gd h rfl) rfl) rfl<|su (jm rfl rfl rfl rfl) rfl<|qc ?_;refine ql _ rfl (fun h1 => ?_) (fun h1 => ?_)
 ·replace hR := zm hR h1;refine qb<|qa [.p]<|sa rfl rfl<|qc<|qo ?_;subst hR;exact zb rfl (rv_g rfl)
 ·replace h1 : ((decide ((ByteArray.size a0 : Int) = 0)) || (decide (24 < (ByteArray.size a0 : Int)))) = false := h1;replace hR := zn hR h1;(try simp only [bB] at h1);refine qn<|qb<|qb<|qa [.p]<|sa rfl rfl<|qc<|qq<|za (γ := Nat × (List UInt8)) (fun g => ([(0, .g (G.str a0)), (3, .g (G.int ((g.1 : Nat) : Int)))], [])) (fun g => ((ByteArray.data a0).toList).drop g.1 = g.2 ∧ qju  g.2 g.1 = R) (fun g => List.length g.2) ⟨rfl, (0, ((ByteArray.data a0).toList)), ⟨rfl, rfl, trivial⟩, trivial, rfl, ⟨rfl, (by exact hR)⟩, trivial⟩ ?_
  ·rintro ⟨k2, t4⟩ ⟨hd, hR⟩;replace hd : ((ByteArray.data a0).toList).drop k2 = t4 := hd;replace hR : qju  t4 k2 = R := hR;refine qb<|qb<|qa [.p, .p, .p, .p]<|sm rfl rfl<|sm rfl rfl<|su (vd rfl Tryz.underlying9 rfl) rfl<|su (ze rfl rfl rfl) rfl<|qc ?_;refine ql _ rfl (fun h2 => ?_) (fun h2 => ?_)
   ·replace h2 : (decide (((k2 : Nat) : Int) < (ByteArray.size a0 : Int))) = true := h2;obtain ⟨y3, t4, rfl, hx1, hd⟩ := qu0 hd (decT h2);replace h2 := decT h2;rw [qju] at hR;(try dsimp only at hR);refine qn<|qb<|qq<|qb<|qa [.p, .p, .p, .p]<|sm rfl rfl<|sm rfl rfl<|su (quy (b := y3) rfl Tryz.underlying9 rfl rfl (Int.natCast_nonneg _) hx1) rfl<|sa rfl rfl<|qc<|qb<|qa [.p, .p, .p, .p, .p, .p, .p, .p, .p, .p, .p, .p, .p, .p, .p]<|sm rfl rfl<|su (w4 rfl rfl rfl) rfl<|sm rfl rfl<|sg rfl rfl (fun h => qk rfl rfl) rfl<|sg rfl rfl (fun h => vl rfl (gd h rfl) rfl) rfl<|su (zy rfl rfl rfl rfl) rfl<|sm rfl rfl<|sg rfl rfl (fun h => qk rfl rfl) rfl<|sg rfl rfl (fun h => w4 rfl (gd h rfl) rfl) rfl<|sg rfl rfl (fun h => qk rfl (gd h rfl)) rfl<|st_g rfl rfl rfl (jr _ _ _) (fun h => qk rfl rfl) rfl<|st_g rfl rfl rfl (jr _ _ _) (fun h => vl rfl (gd h rfl) rfl) rfl<|sg rfl rfl (fun h => zy rfl (gd h rfl) rfl (gd2 h rfl)) rfl<|su (jm rfl rfl rfl rfl) rfl<|sa rfl rfl<|qc<|qb<|qa [.p, .p, .p, .p, .p, .p, .p, .p, .p, .p, .p, .p, .p, .p, .p, .p, .p, .p]<|sm rfl rfl<|su (jn rfl rfl) rfl<|sm rfl rfl<|sg rfl rfl (fun h => qk rfl rfl) rfl<|sg rfl rfl (fun h => jq rfl (gd h rfl) rfl) rfl<|sg rfl rfl (fun h => qk rfl (gd h rfl)) rfl<|st_g rfl rfl rfl (jr _ _ _) (fun h => qk rfl rfl) rfl<|st_g rfl rfl rfl (jr _ _ _) (fun h => zx rfl (gd h rfl) rfl) rfl<|st_g rfl rfl rfl (jr _ _ _) (fun h => qk rfl (gd h rfl)) rfl<|st_g rfl rfl rfl (jr _ _ _) (fun h => qk rfl rfl) rfl<|st_g rfl rfl rfl (jr _ _ _) (fun h => ze rfl (gd h rfl) rfl) rfl<|st_g rfl rfl rfl (jr _ _ _) (fun h => qk rfl (gd h rfl)) rfl<|st_g rfl rfl rfl (jr _ _ _) (fun h => qk rfl rfl) rfl<|st_g rfl rfl rfl (jr _ _ _) (fun h => z6 rfl (gd h rfl) rfl) rfl<|st_g rfl rfl rfl (jr _ _ _) (fun h => jm rfl (gd h rfl) rfl (gd2 h rfl)) rfl<|st_g rfl rfl rfl (jr _ _ _) (fun h => zy rfl (gd h rfl) rfl (gd2 h rfl)) rfl<|sg rfl rfl (fun h => jm rfl (gd h rfl) rfl (gd2 h rfl)) rfl<|su (zy rfl rfl rfl rfl) rfl<|qc ?_;refine ql _ rfl (fun h4 => ?_) (fun h4 => ?_)
    ·replace hR := zm hR h4;refine qb<|qa [.p]<|sa rfl rfl<|qc<|qo ?_;subst hR;exact zb rfl (rv_g rfl)
    ·replace h4 : ((!(((decide (97 ≤ (y3.toNat : Int))) && (decide ((y3.toNat : Int) ≤ 122))) || ((decide (65 ≤ (y3.toNat : Int))) && (decide ((y3.toNat : Int) ≤ 90))))) && ((decide (((k2 : Nat) : Int) = 0)) || ((decide ((y3.toNat : Int) ≠ 95)) && ((decide ((y3.toNat : Int) < 48)) || (decide (57 < (y3.toNat : Int))))))) = false := h4;replace hR := zn hR h4;(try simp only [bB] at h4);refine qn<|qa [.p, .p, .p]<|sm rfl rfl<|su (zl rfl rfl rfl iE) rfl<|sa rfl rfl<|qc ?_;exact ⟨rfl, (k2 + 1, t4), ⟨rfl, rfl, trivial⟩, trivial, rfl, ⟨hd, hR⟩, by simp⟩
   ·replace h2 : (decide (((k2 : Nat) : Int) < (ByteArray.size a0 : Int))) = false := h2;obtain rfl := qxm hd (decF h2);rw [qju] at hR;refine zr<|qb<|qa [.p]<|sa rfl rfl<|qc<|qo ?_;subst hR;exact zb rfl (rv_g rfl)
def qe7  : List (Int × Int) → Bool
 | [] => true
 | y2 :: t3 => (bif (!(((decide (65 ≤ y2.2)) && (decide (y2.2 ≤ 90))) || ((decide (97 ≤ y2.2)) && (decide (y2.2 ≤ 122))))) && ((decide (y2.1 = 0)) || ((decide (y2.2 ≠ 95)) && ((decide (y2.2 < 48)) || (decide (57 < y2.2))))) then false else qe7 t3)
def s147 (a0 : ByteArray) : Bool :=
 (bif (decide ((ByteArray.size a0 : Int) = 0)) || (decide (24 < (ByteArray.size a0 : Int))) then false else qe7 (q0o a0))
theorem c147 {g : GL} (a0 : ByteArray)    : Con (EG g) 99 [G.str a0] (G.bool (s147 a0)) := by
 generalize hR : s147 a0 = R;unfold s147 at hR;refine qm Tryz.func99 rfl rfl fun w0 M0 => ?_;refine qb<|qa [.p]<|sa rfl rfl<|qc<|qb<|qb<|qa [.p, .p, .p, .p, .p, .p, .p, .p]<|sm rfl rfl<|su (vd rfl Tryz.underlying9 rfl) rfl<|su (jq rfl rfl rfl) rfl<|sm rfl rfl<|sg rfl rfl (fun h => qk rfl rfl) rfl<|sg rfl rfl (fun h => vd rfl Tryz.underlying9 (gd h rfl)) rfl<|sg rfl rfl (fun h => z6 rfl (gd h rfl) rfl) rfl<|su (jm rfl rfl rfl rfl) rfl<|qc ?_;refine ql _ rfl (fun h1 => ?_) (fun h1 => ?_)
 ·replace hR := zm hR h1;refine qb<|qa [.p]<|sa rfl rfl<|qc<|qo ?_;subst hR;exact zb rfl (rv_g rfl)
 ·replace h1 : ((decide ((ByteArray.size a0 : Int) = 0)) || (decide (24 < (ByteArray.size a0 : Int)))) = false := h1;replace hR := zn hR h1;(try simp only [bB] at h1);refine qn<|qb<|qb<|qa [.p, .w]<|sm rfl rfl<|sw (quz 15 rfl Tryz.underlying9 rfl rfl) rfl<|qc<|qq<|za (γ := Nat × (List (Int × Int))) (fun g => ([(15, .ptr 15 0)], [(15, .it a0 g.1)])) (fun g => qiy a0 g.1 g.2 ∧ qe7 g.2 = R) (fun g => List.length g.2) ⟨rfl, (0, q0o a0), ⟨rfl, trivial⟩, ⟨rfl, trivial⟩, rfl, ⟨qoe _, hR⟩, trivial⟩ ?_
  ·rintro ⟨p1, t3⟩ ⟨hP, hR⟩;replace hP : qiy a0 p1 t3 := hP;replace hR : qe7 t3 = R := hR
   cases t3 with
   | nil =>
    rw [qe7] at hR;refine qb<|qa [.r, .p]<|sr (qxj rfl rfl rfl (qrs hP)) rfl<|su (qu rfl rfl rfl) rfl<|qc<|qb ?_;refine ql _ rfl (fun h2 => ?_) (fun h2 => ?_)
    ·exact Bool.noConfusion h2
    ·refine zr<|qb<|qa [.p]<|sa rfl rfl<|qc<|qo ?_;subst hR;exact zb rfl (rv_g rfl)
   | cons y2 t3 =>
    obtain ⟨hlt, hy, hP⟩ := qqe hP;rw [qe7] at hR;refine qb<|qa [.w, .p]<|sw (qxn (y := y2) rfl rfl rfl hlt hy) rfl<|su (qu rfl rfl rfl) rfl<|qc<|qb ?_;refine ql _ rfl (fun h3 => ?_) (fun h3 => ?_)
    ·refine qn<|qq<|qb<|qa [.p, .p, .p, .p]<|su (qu rfl rfl rfl) rfl<|su (qu rfl rfl rfl) rfl<|sa rfl rfl<|sa rfl rfl<|qc<|qb<|qa [.p, .p, .p, .p, .p, .p, .p, .p, .p, .p, .p, .p, .p, .p, .p]<|sm rfl rfl<|su (w4 rfl rfl rfl) rfl<|sm rfl rfl<|sg rfl rfl (fun h => qk rfl rfl) rfl<|sg rfl rfl (fun h => vl rfl (gd h rfl) rfl) rfl<|su (zy rfl rfl rfl rfl) rfl<|sm rfl rfl<|sg rfl rfl (fun h => qk rfl rfl) rfl<|sg rfl rfl (fun h => w4 rfl (gd h rfl) rfl) rfl<|sg rfl rfl (fun h => qk rfl (gd h rfl)) rfl<|st_g rfl rfl rfl (jr _ _ _) (fun h => qk rfl rfl) rfl<|st_g rfl rfl rfl (jr _ _ _) (fun h => vl rfl (gd h rfl) rfl) rfl<|sg rfl rfl (fun h => zy rfl (gd h rfl) rfl (gd2 h rfl)) rfl<|su (jm rfl rfl rfl rfl) rfl<|sa rfl rfl<|qc<|qb<|qa [.p, .p, .p, .p, .p, .p, .p, .p, .p, .p, .p, .p, .p, .p, .p, .p, .p, .p]<|sm rfl rfl<|su (jn rfl rfl) rfl<|sm rfl rfl<|sg rfl rfl (fun h => qk rfl rfl) rfl<|sg rfl rfl (fun h => jq rfl (gd h rfl) rfl) rfl<|sg rfl rfl (fun h => qk rfl (gd h rfl)) rfl<|st_g rfl rfl rfl (jr _ _ _) (fun h => qk rfl rfl) rfl<|st_g rfl rfl rfl (jr _ _ _) (fun h => zx rfl (gd h rfl) rfl) rfl<|st_g rfl rfl rfl (jr _ _ _) (fun h => qk rfl (gd h rfl)) rfl<|st_g rfl rfl rfl (jr _ _ _) (fun h => qk rfl rfl) rfl<|st_g rfl rfl rfl (jr _ _ _) (fun h => ze rfl (gd h rfl) rfl) rfl<|st_g rfl rfl rfl (jr _ _ _) (fun h => qk rfl (gd h rfl)) rfl<|st_g rfl rfl rfl (jr _ _ _) (fun h => qk rfl rfl) rfl<|st_g rfl rfl rfl (jr _ _ _) (fun h => z6 rfl (gd h rfl) rfl) rfl<|st_g rfl rfl rfl (jr _ _ _) (fun h => jm rfl (gd h rfl) rfl (gd2 h rfl)) rfl<|st_g rfl rfl rfl (jr _ _ _) (fun h => zy rfl (gd h rfl) rfl (gd2 h rfl)) rfl<|sg rfl rfl (fun h => jm rfl (gd h rfl) rfl (gd2 h rfl)) rfl<|su (zy rfl rfl rfl rfl) rfl<|qc ?_;refine ql _ rfl (fun h4 => ?_) (fun h4 => ?_)
     ·replace hR := zm hR h4;refine qb<|qa [.p]<|sa rfl rfl<|qc<|qo ?_;subst hR;exact zb rfl (rv_g rfl)
     ·replace h4 : ((!(((decide (65 ≤ y2.2)) && (decide (y2.2 ≤ 90))) || ((decide (97 ≤ y2.2)) && (decide (y2.2 ≤ 122))))) && ((decide (y2.1 = 0)) || ((decide (y2.2 ≠ 95)) && ((decide (y2.2 < 48)) || (decide (57 < y2.2)))))) = false := h4;replace hR := zn hR h4;(try simp only [bB] at h4);refine qn ?_;exact ⟨rfl, ((p1 + (Utf8.decode a0 p1).2), t3), ⟨rfl, trivial⟩, ⟨rfl, trivial⟩, rfl, ⟨hP, hR⟩, by simp⟩
    ·exact Bool.noConfusion h3
def s40 (a0 : S45) : Int :=
 (bif (decide ((s109 a0.fFrom) ≠ 0)) || (decide ((s109 a0.fTo) ≠ 0)) then 3 else (bif decide (a0.fTo < a0.fFrom) then 11 else (bif decide (400 < IntKind.i64.wrap (a0.fTo - a0.fFrom)) then 4 else (s90 a0.Days 1 127))))
theorem c40 {g : GL} (a0 : S45)    : Con (EG g) 128 [G.agg (S45.c a0)] (G.int (s40 a0)) := by
 generalize hR : s40 a0 = R;unfold s40 at hR;refine qm Tryz.func128 rfl rfl fun w0 M0 => ?_;refine qb<|qa [.p, .p]<|su (zg rfl rfl) rfl<|sa rfl rfl<|qc<|qb<|qb<|qa [.p, .p, .p, .p, .p, .p, .p, .p, .p, .p]<|su (qd rfl qdg rfl) rfl<|su (qg rfl ty3 rfl) rfl<|su (qf rfl K109 rfl (c109 a0.fFrom) (qe rfl qj)) rfl<|su (zx rfl rfl rfl) rfl<|sm rfl rfl<|sg rfl rfl (fun h => qd rfl qb1 rfl) rfl<|sg rfl rfl (fun h => qg rfl ty3 (gd h rfl)) rfl<|sg rfl rfl (fun h => qf rfl K109 rfl (c109 a0.fTo) (qe (gd h rfl) qj)) rfl<|sg rfl rfl (fun h => zx rfl (gd h rfl) rfl) rfl<|su (jm rfl rfl rfl rfl) rfl<|qc ?_;refine ql _ rfl (fun h1 => ?_) (fun h1 => ?_)
 ·replace hR := zm hR h1;refine qb<|qa [.p]<|sa rfl rfl<|qc<|qo ?_;subst hR;exact zb rfl (rv_g rfl)
 ·replace h1 : ((decide ((s109 a0.fFrom) ≠ 0)) || (decide ((s109 a0.fTo) ≠ 0))) = false := h1;replace hR := zn hR h1;(try simp only [bB] at h1);refine qn<|qb<|qb<|qa [.p, .p, .p, .p, .p]<|su (qd rfl qb1 rfl) rfl<|su (qg rfl ty3 rfl) rfl<|su (qd rfl qdg rfl) rfl<|su (qg rfl ty3 rfl) rfl<|su (ze rfl rfl rfl) rfl<|qc ?_;refine ql _ rfl (fun h2 => ?_) (fun h2 => ?_)
  ·replace hR := zm hR h2;refine qb<|qa [.p]<|sa rfl rfl<|qc<|qo ?_;subst hR;exact zb rfl (rv_g rfl)
  ·replace h2 : (decide (a0.fTo < a0.fFrom)) = false := h2;replace hR := zn hR h2;(try simp only [bB] at h2);refine qn<|qb<|qb<|qa [.p, .p, .p, .p, .p, .p]<|su (qd rfl qb1 rfl) rfl<|su (qg rfl ty3 rfl) rfl<|su (qd rfl qdg rfl) rfl<|su (qg rfl ty3 rfl) rfl<|su (ku rfl rfl rfl) rfl<|su (z6 rfl rfl rfl) rfl<|qc ?_;refine ql _ rfl (fun h3 => ?_) (fun h3 => ?_)
   ·replace hR := zm hR h3;refine qb<|qa [.p]<|sa rfl rfl<|qc<|qo ?_;subst hR;exact zb rfl (rv_g rfl)
   ·replace hR := zn hR h3;refine qn<|qb<|qa [.p, .p, .p, .p]<|su (qd rfl qtb rfl) rfl<|su (qg rfl ty3 rfl) rfl<|su (qf rfl K90 rfl (c90 a0.Days 1 127) (qe rfl (qe rfl (qe rfl qj)))) rfl<|sa rfl rfl<|qc<|qo ?_;subst hR;exact zb rfl (rv_g rfl)
def qiq (a0 : ByteArray) : Bool :=
 (decide (a0 = (⟨#[]⟩))) || (s91 a0)
theorem q9m {g : GL} (a0 : ByteArray)    : Con (EG g) 194 [G.str a0] (G.bool (qiq a0)) := by
 generalize hR : qiq a0 = R;unfold qiq at hR;refine qm Tryz.func194 rfl rfl fun w0 M0 => ?_;refine qb<|qa [.p]<|sa rfl rfl<|qc<|qb<|qa [.p, .p, .p, .p, .p, .p, .p]<|sm rfl rfl<|su (ky rfl rfl rfl) rfl<|sm rfl rfl<|sg rfl rfl (fun h => qk rfl rfl) rfl<|sg rfl rfl (fun h => qf rfl K91 rfl (c91 a0) (qe (gd h rfl) qj)) rfl<|su (jm rfl rfl rfl rfl) rfl<|sa rfl rfl<|qc<|qo ?_;subst hR;exact zb rfl (rv_g rfl)
def qot (a0 : S115) : Int :=
 (bif ((((!(s91 a0.Name)) || (!(s91 a0.Carrier))) || (!(s91 a0.Partner))) || (!(qiq a0.Terminal))) || (!(qiq a0.Link)) then 8 else (bif (!decide (a0.Kind = (⟨#[65]⟩))) && (!decide (a0.Kind = (⟨#[68]⟩))) then 13 else (bif decide (a0.Link = a0.Name) then 32 else (bif decide ((s40 a0.Period) ≠ 0) then (s40 a0.Period) else (s89 [(s90 a0.Minute 0 1439), (s90 a0.Seats 0 999), (s90 a0.Size 1 9), (s90 a0.Noise 0 99)])))))
theorem zco {g : GL} (a0 : S115)    : Con (EG g) 178 [G.agg (S115.c a0)] (G.int (qot a0)) := by
 generalize hR : qot a0 = R;unfold qot at hR;refine qm Tryz.func178 rfl rfl fun w0 M0 => ?_;refine qb<|qa [.p, .p]<|su (zg rfl rfl) rfl<|sa rfl rfl<|qc<|qb<|qb<|qa [.p, .p, .p, .p, .p, .p, .p, .p, .p, .p, .p, .p, .p, .p, .p, .p, .p, .p, .p, .p, .p, .p, .p, .p, .p, .p, .p, .p]<|su (qd rfl vh rfl) rfl<|su (qg rfl ty9 rfl) rfl<|su (qf rfl K91 rfl (c91 a0.Name) (qe rfl qj)) rfl<|su (jn rfl rfl) rfl<|sm rfl rfl<|sg rfl rfl (fun h => qd rfl qk2 rfl) rfl<|sg rfl rfl (fun h => qg rfl ty9 (gd h rfl)) rfl<|sg rfl rfl (fun h => qf rfl K91 rfl (c91 a0.Carrier) (qe (gd h rfl) qj)) rfl<|sg rfl rfl (fun h => jn rfl (gd h rfl)) rfl<|su (jm rfl rfl rfl rfl) rfl<|sm rfl rfl<|sg rfl rfl (fun h => qd rfl qse rfl) rfl<|sg rfl rfl (fun h => qg rfl ty9 (gd h rfl)) rfl<|sg rfl rfl (fun h => qf rfl K91 rfl (c91 a0.Partner) (qe (gd h rfl) qj)) rfl<|sg rfl rfl (fun h => jn rfl (gd h rfl)) rfl<|su (jm rfl rfl rfl rfl) rfl<|sm rfl rfl<|sg rfl rfl (fun h => qd rfl qgn rfl) rfl<|sg rfl rfl (fun h => qg rfl ty9 (gd h rfl)) rfl<|sg rfl rfl (fun h => qf rfl q9n rfl (q9m a0.Terminal) (qe (gd h rfl) qj)) rfl<|sg rfl rfl (fun h => jn rfl (gd h rfl)) rfl<|su (jm rfl rfl rfl rfl) rfl<|sm rfl rfl<|sg rfl rfl (fun h => qd rfl ql4 rfl) rfl<|sg rfl rfl (fun h => qg rfl ty9 (gd h rfl)) rfl<|sg rfl rfl (fun h => qf rfl q9n rfl (q9m a0.Link) (qe (gd h rfl) qj)) rfl<|sg rfl rfl (fun h => jn rfl (gd h rfl)) rfl<|su (jm rfl rfl rfl rfl) rfl<|qc ?_;refine ql _ rfl (fun h1 => ?_) (fun h1 => ?_)
 ·replace hR := zm hR h1;refine qb<|qa [.p]<|sa rfl rfl<|qc<|qo ?_;subst hR;exact zb rfl (rv_g rfl)
 ·replace h1 : (((((!(s91 a0.Name)) || (!(s91 a0.Carrier))) || (!(s91 a0.Partner))) || (!(qiq a0.Terminal))) || (!(qiq a0.Link))) = false := h1;replace hR := zn hR h1;(try simp only [bB] at h1);refine qn<|qb<|qb<|qa [.p, .p, .p, .p, .p, .p, .p, .p]<|su (qd rfl qe2 rfl) rfl<|su (qg rfl ty9 rfl) rfl<|su (qc5 rfl rfl rfl) rfl<|sm rfl rfl<|sg rfl rfl (fun h => qd rfl qe2 rfl) rfl<|sg rfl rfl (fun h => qg rfl ty9 (gd h rfl)) rfl<|sg rfl rfl (fun h => qc5 rfl (gd h rfl) rfl) rfl<|su (zy rfl rfl rfl rfl) rfl<|qc ?_;refine ql _ rfl (fun h2 => ?_) (fun h2 => ?_)
  ·replace hR := zm hR h2;refine qb<|qa [.p]<|sa rfl rfl<|qc<|qo ?_;subst hR;exact zb rfl (rv_g rfl)
  ·replace h2 : ((!decide (a0.Kind = (⟨#[65]⟩))) && (!decide (a0.Kind = (⟨#[68]⟩)))) = false := h2;replace hR := zn hR h2;(try simp only [bB] at h2);refine qn<|qb<|qb<|qa [.p, .p, .p, .p, .p]<|su (qd rfl ql4 rfl) rfl<|su (qg rfl ty9 rfl) rfl<|su (qd rfl vh rfl) rfl<|su (qg rfl ty9 rfl) rfl<|su (ky rfl rfl rfl) rfl<|qc ?_;refine ql _ rfl (fun h3 => ?_) (fun h3 => ?_)
   ·replace hR := zm hR h3;refine qb<|qa [.p]<|sa rfl rfl<|qc<|qo ?_;subst hR;exact zb rfl (rv_g rfl)
   ·replace h3 : (decide (a0.Link = a0.Name)) = false := h3;replace hR := zn hR h3;(try simp only [bB] at h3);refine qn<|qb<|qa [.p, .p, .p, .p]<|su (qd rfl wd rfl) rfl<|su (qp rfl ty46 rfl rfl rfl) rfl<|su (qf rfl K40 rfl (c40 a0.Period) (qe rfl qj)) rfl<|sa rfl rfl<|qc<|qb<|qb<|qa [.p, .p]<|sm rfl rfl<|su (zx rfl rfl rfl) rfl<|qc ?_;refine ql _ rfl (fun h4 => ?_) (fun h4 => ?_)
    ·replace hR := zm hR h4;refine qb<|qa [.p, .p]<|sm rfl rfl<|sa rfl rfl<|qc<|qo ?_;subst hR;exact zb rfl (rv_g rfl)
    ·replace h4 : (decide ((s40 a0.Period) ≠ 0)) = false := h4;replace hR := zn hR h4;(try simp only [bB] at h4);refine qn<|qb<|zt [.p, .p, .p, .p, .p, .p, .p, .p, .p, .p, .p, .p, .p, .p, .p] (by kernel_rfl)<|su (qd rfl qi1 rfl) rfl<|su (qg rfl ty3 rfl) rfl<|su (qf rfl K90 rfl (c90 a0.Minute 0 1439) (qe rfl (qe rfl (qe rfl qj)))) rfl<|su (qd rfl qlk rfl) rfl<|su (qg rfl ty3 rfl) rfl<|su (qf rfl K90 rfl (c90 a0.Seats 0 999) (qe rfl (qe rfl (qe rfl qj)))) rfl<|su (qd rfl qll rfl) rfl<|su (qg rfl ty3 rfl) rfl<|su (qf rfl K90 rfl (c90 a0.Size 1 9) (qe rfl (qe rfl (qe rfl qj)))) rfl<|su (qd rfl qh0 rfl) rfl<|su (qg rfl ty3 rfl) rfl<|su (qf rfl K90 rfl (c90 a0.Noise 0 99) (qe rfl (qe rfl (qe rfl qj)))) rfl ?_;refine su (qt rfl Tryz.underlying38 ty3 z3 rfl (qv rfl (qv rfl (qv rfl (qv rfl jh)))) rfl (by simp []) (by decide)) rfl ?_;refine su (qf rfl K89 rfl (c89 [(s90 a0.Minute 0 1439), (s90 a0.Seats 0 999), (s90 a0.Size 1 9), (s90 a0.Noise 0 99)]) (qe rfl qj)) rfl<|sa rfl rfl<|qc<|qo ?_;subst hR;exact zb rfl (rv_g rfl)
def s102 (a0 : S45) : Int :=
 (bif decide ((s152 [(s153 a0.fFrom), (s153 a0.fTo)]) ≠ 0) then (s152 [(s153 a0.fFrom), (s153 a0.fTo)]) else (s152 [(s154 (decide (a0.fTo < a0.fFrom)) 11), (s154 (decide (400 < IntKind.i64.wrap (a0.fTo - a0.fFrom))) 4), (s155 a0.Days 1 127)]))
theorem c102 {g : GL} (a0 : S45)    : Con (EG g) 48 [G.agg (S45.c a0)] (G.int (s102 a0)) := by
 generalize hR : s102 a0 = R;unfold s102 at hR;refine qm Tryz.func48 rfl rfl fun w0 M0 => ?_;refine qb<|qa [.p, .p]<|su (zg rfl rfl) rfl<|sa rfl rfl<|qc<|qb<|qb<|zt [.p, .p, .p, .p, .p, .p, .p, .p, .p] (by kernel_rfl)<|su (qd rfl qdg rfl) rfl<|su (qg rfl ty3 rfl) rfl<|su (qf rfl K153 rfl (c153 a0.fFrom) (qe rfl qj)) rfl<|su (qd rfl qb1 rfl) rfl<|su (qg rfl ty3 rfl) rfl<|su (qf rfl K153 rfl (c153 a0.fTo) (qe rfl qj)) rfl ?_;refine su (qt rfl Tryz.underlying170 ty37 z37 rfl (qv rfl (qv rfl jh)) rfl (by simp []) (by decide)) rfl ?_;refine su (qf rfl K152 rfl (c152 [(s153 a0.fFrom), (s153 a0.fTo)]) (qe rfl qj)) rfl<|sa rfl rfl<|qc<|qb<|qa [.p, .p]<|sm rfl rfl<|su (zx rfl rfl rfl) rfl<|qc ?_;refine ql _ rfl (fun h1 => ?_) (fun h1 => ?_)
 ·replace hR := zm hR h1;refine qb<|qa [.p, .p]<|sm rfl rfl<|sa rfl rfl<|qc<|qo ?_;subst hR;exact zb rfl (rv_g rfl)
 ·replace h1 : (decide ((s152 [(s153 a0.fFrom), (s153 a0.fTo)]) ≠ 0)) = false := h1;replace hR := zn hR h1;(try simp only [bB] at h1);refine qn<|qb<|zt [.p, .p, .p, .p, .p, .p, .p, .p, .p, .p, .p, .p, .p, .p, .p, .p, .p, .p, .p] (by kernel_rfl)<|su (qd rfl qb1 rfl) rfl<|su (qg rfl ty3 rfl) rfl<|su (qd rfl qdg rfl) rfl<|su (qg rfl ty3 rfl) rfl<|su (ze rfl rfl rfl) rfl<|su (qf rfl K154 rfl (c154 (decide (a0.fTo < a0.fFrom)) 11) (qe rfl (qe rfl qj))) rfl<|su (qd rfl qb1 rfl) rfl<|su (qg rfl ty3 rfl) rfl<|su (qd rfl qdg rfl) rfl<|su (qg rfl ty3 rfl) rfl<|su (ku rfl rfl rfl) rfl<|su (z6 rfl rfl rfl) rfl<|su (qf rfl K154 rfl (c154 (decide (400 < IntKind.i64.wrap (a0.fTo - a0.fFrom))) 4) (qe rfl (qe rfl qj))) rfl<|su (qd rfl qtb rfl) rfl<|su (qg rfl ty3 rfl) rfl<|su (qf rfl K155 rfl (c155 a0.Days 1 127) (qe rfl (qe rfl (qe rfl qj)))) rfl ?_;refine su (qt rfl Tryz.underlying170 ty37 z37 rfl (qv rfl (qv rfl (qv rfl jh))) rfl (by simp []) (by decide)) rfl ?_;refine su (qf rfl K152 rfl (c152 [(s154 (decide (a0.fTo < a0.fFrom)) 11), (s154 (decide (400 < IntKind.i64.wrap (a0.fTo - a0.fFrom))) 4), (s155 a0.Days 1 127)]) (qe rfl qj)) rfl<|sa rfl rfl<|qc<|qo ?_;subst hR;exact zb rfl (rv_g rfl)
def s187 (a0 : Int) (a1 : Int) : Bool :=
 decide (andI (shrI a0 a1) 1 = 1)
theorem c187 {g : GL} (a0 : Int) (a1 : Int)  (hw : 0 ≤ a1)  : Con (EG g) 189 [G.int a0, G.int a1] (G.bool (s187 a0 a1)) := by
 generalize hR : s187 a0 a1 = R;unfold s187 at hR;refine qm Tryz.func189 rfl rfl fun w0 M0 => ?_;refine qb<|qa [.p]<|sa rfl rfl<|qc<|qb<|qa [.p, .p, .p, .p, .p, .p]<|sm rfl rfl<|sm rfl rfl<|su (q4i rfl rfl rfl (by omega)) rfl<|su (q0h rfl rfl rfl) rfl<|su (jq rfl rfl rfl) rfl<|sa rfl rfl<|qc<|qo ?_;subst hR;exact zb rfl (rv_g rfl)
def qlq (a0 : ByteArray) : Int :=
 (qi5 (!(s147 a0)) 8)
theorem q53 {g : GL} (a0 : ByteArray)    : Con (EG g) 183 [G.str a0] (G.int (qlq a0)) := by
 generalize hR : qlq a0 = R;unfold qlq at hR;refine qm Tryz.func183 rfl rfl fun w0 M0 => ?_;refine qb<|qa [.p]<|sa rfl rfl<|qc<|qb<|qa [.p, .p, .p, .p, .p]<|sm rfl rfl<|su (qf rfl K147 rfl (c147 a0) (qe rfl qj)) rfl<|su (jn rfl rfl) rfl<|su (qf rfl qzb rfl (qza (!(s147 a0)) 8) (qe rfl (qe rfl qj))) rfl<|sa rfl rfl<|qc<|qo ?_;subst hR;exact zb rfl (rv_g rfl)
def qo1 (a0 : ByteArray) : Int :=
 (qi5 ((!decide (a0 = (⟨#[]⟩))) && (!(s147 a0))) 8)
theorem q9o {g : GL} (a0 : ByteArray)    : Con (EG g) 184 [G.str a0] (G.int (qo1 a0)) := by
 generalize hR : qo1 a0 = R;unfold qo1 at hR;refine qm Tryz.func184 rfl rfl fun w0 M0 => ?_;refine qb<|qa [.p]<|sa rfl rfl<|qc<|qb<|qa [.p, .p, .p, .p, .p, .p, .p, .p, .p]<|sm rfl rfl<|su (qc5 rfl rfl rfl) rfl<|sm rfl rfl<|sg rfl rfl (fun h => qk rfl rfl) rfl<|sg rfl rfl (fun h => qf rfl K147 rfl (c147 a0) (qe (gd h rfl) qj)) rfl<|sg rfl rfl (fun h => jn rfl (gd h rfl)) rfl<|su (zy rfl rfl rfl rfl) rfl<|su (qf rfl qzb rfl (qza ((!decide (a0 = (⟨#[]⟩))) && (!(s147 a0))) 8) (qe rfl (qe rfl qj))) rfl<|sa rfl rfl<|qc<|qo ?_;subst hR;exact zb rfl (rv_g rfl)
def qqo (a0 : ByteArray) : Bool :=
 (decide (a0 = (⟨#[65]⟩))) || (decide (a0 = (⟨#[68]⟩)))
theorem zen {g : GL} (a0 : ByteArray)    : Con (EG g) 186 [G.str a0] (G.bool (qqo a0)) := by
 generalize hR : qqo a0 = R;unfold qqo at hR;refine qm Tryz.func186 rfl rfl fun w0 M0 => ?_;refine qb<|qa [.p]<|sa rfl rfl<|qc<|qb<|qa [.p, .p, .p, .p, .p, .p, .p]<|sm rfl rfl<|su (ky rfl rfl rfl) rfl<|sm rfl rfl<|sg rfl rfl (fun h => qk rfl rfl) rfl<|sg rfl rfl (fun h => ky rfl (gd h rfl) rfl) rfl<|su (jm rfl rfl rfl rfl) rfl<|sa rfl rfl<|qc<|qo ?_;subst hR;exact zb rfl (rv_g rfl)
def qqn (a0 : S115) : Int :=
 (qyl [(qlq a0.Name), (qlq a0.Carrier), (qlq a0.Partner), (qo1 a0.Terminal), (qo1 a0.Link), (qi5 (!(qqo a0.Kind)) 13), (qi5 (decide (a0.Link = a0.Name)) 32), (s102 a0.Period), (qjg a0.Minute 0 1439), (qjg a0.Seats 0 999), (qjg a0.Size 1 9), (qjg a0.Noise 0 99)])
theorem zeo {g : GL} (a0 : S115)    : Con (EG g) 153 [G.agg (S115.c a0)] (G.int (qqn a0)) := by
 generalize hR : qqn a0 = R;unfold qqn at hR;refine qm Tryz.func153 rfl rfl fun w0 M0 => ?_;refine qb<|qa [.p, .p]<|su (zg rfl rfl) rfl<|sa rfl rfl<|qc<|qb<|zt [.p, .p, .p, .p, .p, .p, .p, .p, .p, .p, .p, .p, .p, .p, .p, .p, .p, .p, .p, .p, .p, .p, .p, .p, .p, .p, .p, .p, .p, .p, .p, .p, .p, .p, .p, .p, .p, .p, .p, .p, .p, .p, .p, .p] (by kernel_rfl)<|su (qd rfl vh rfl) rfl<|su (qg rfl ty9 rfl) rfl<|su (qf rfl q54 rfl (q53 a0.Name) (qe rfl qj)) rfl<|su (qd rfl qk2 rfl) rfl<|su (qg rfl ty9 rfl) rfl<|su (qf rfl q54 rfl (q53 a0.Carrier) (qe rfl qj)) rfl<|su (qd rfl qse rfl) rfl<|su (qg rfl ty9 rfl) rfl<|su (qf rfl q54 rfl (q53 a0.Partner) (qe rfl qj)) rfl<|su (qd rfl qgn rfl) rfl<|su (qg rfl ty9 rfl) rfl<|su (qf rfl q9p rfl (q9o a0.Terminal) (qe rfl qj)) rfl<|su (qd rfl ql4 rfl) rfl<|su (qg rfl ty9 rfl) rfl<|su (qf rfl q9p rfl (q9o a0.Link) (qe rfl qj)) rfl<|su (qd rfl qe2 rfl) rfl<|su (qg rfl ty9 rfl) rfl<|su (qf rfl zep rfl (zen a0.Kind) (qe rfl qj)) rfl<|su (jn rfl rfl) rfl<|su (qf rfl qzb rfl (qza (!(qqo a0.Kind)) 13) (qe rfl (qe rfl qj))) rfl<|su (qd rfl ql4 rfl) rfl<|su (qg rfl ty9 rfl) rfl<|su (qd rfl vh rfl) rfl<|su (qg rfl ty9 rfl) rfl<|su (ky rfl rfl rfl) rfl<|su (qf rfl qzb rfl (qza (decide (a0.Link = a0.Name)) 32) (qe rfl (qe rfl qj))) rfl<|su (qd rfl wd rfl) rfl<|su (qp rfl ty46 rfl rfl rfl) rfl<|su (qf rfl K102 rfl (c102 a0.Period) (qe rfl qj)) rfl<|su (qd rfl qi1 rfl) rfl<|su (qg rfl ty3 rfl) rfl<|su (qf rfl q1u rfl (q1p a0.Minute 0 1439) (qe rfl (qe rfl (qe rfl qj)))) rfl<|su (qd rfl qlk rfl) rfl<|su (qg rfl ty3 rfl) rfl<|su (qf rfl q1u rfl (q1p a0.Seats 0 999) (qe rfl (qe rfl (qe rfl qj)))) rfl<|su (qd rfl qll rfl) rfl<|su (qg rfl ty3 rfl) rfl<|su (qf rfl q1u rfl (q1p a0.Size 1 9) (qe rfl (qe rfl (qe rfl qj)))) rfl<|su (qd rfl qh0 rfl) rfl<|su (qg rfl ty3 rfl) rfl<|su (qf rfl q1u rfl (q1p a0.Noise 0 99) (qe rfl (qe rfl (qe rfl qj)))) rfl ?_;refine su (qt rfl Tryz.underlying170 ty37 z37 rfl (qv rfl (qv rfl (qv rfl (qv rfl (qv rfl (qv rfl (qv rfl (qv rfl (qv rfl (qv rfl (qv rfl (qv rfl jh)))))))))))) rfl (by simp []) (by decide)) rfl ?_;refine su (qf rfl zeq rfl (zef [(qlq a0.Name), (qlq a0.Carrier), (qlq a0.Partner), (qo1 a0.Terminal), (qo1 a0.Link), (qi5 (!(qqo a0.Kind)) 13), (qi5 (decide (a0.Link = a0.Name)) 32), (s102 a0.Period), (qjg a0.Minute 0 1439), (qjg a0.Seats 0 999), (qjg a0.Size 1 9), (qjg a0.Noise 0 99)]) (qe rfl qj)) rfl<|sa rfl rfl<|qc<|qo ?_;subst hR;exact zb rfl (rv_g rfl)
def qzx (a0 : S115) : Bool :=
 (((((decide ((ByteArray.size a0.Name : Int) ≤ 40)) && (decide ((ByteArray.size a0.Carrier : Int) ≤ 40))) && (decide ((ByteArray.size a0.Kind : Int) ≤ 40))) && (decide ((ByteArray.size a0.Terminal : Int) ≤ 40))) && (decide ((ByteArray.size a0.Partner : Int) ≤ 40))) && (decide ((ByteArray.size a0.Link : Int) ≤ 40))
theorem zad {g : GL} (a0 : S115)    : Con (EG g) 132 [G.agg (S115.c a0)] (G.bool (qzx a0)) := by
 generalize hR : qzx a0 = R;unfold qzx at hR;refine qm Tryz.func132 rfl rfl fun w0 M0 => ?_;refine qb<|qa [.p, .p]<|su (zg rfl rfl) rfl<|sa rfl rfl<|qc<|qb<|qa [.p, .p, .p, .p, .p, .p, .p, .p, .p, .p, .p, .p, .p, .p, .p, .p, .p, .p, .p, .p, .p, .p, .p, .p, .p, .p, .p, .p, .p, .p, .p, .p, .p, .p, .p]<|su (qd rfl vh rfl) rfl<|su (qg rfl ty9 rfl) rfl<|su (vd rfl Tryz.underlying9 rfl) rfl<|su (vl rfl rfl rfl) rfl<|sm rfl rfl<|sg rfl rfl (fun h => qd rfl qk2 rfl) rfl<|sg rfl rfl (fun h => qg rfl ty9 (gd h rfl)) rfl<|sg rfl rfl (fun h => vd rfl Tryz.underlying9 (gd h rfl)) rfl<|sg rfl rfl (fun h => vl rfl (gd h rfl) rfl) rfl<|su (zy rfl rfl rfl rfl) rfl<|sm rfl rfl<|sg rfl rfl (fun h => qd rfl qe2 rfl) rfl<|sg rfl rfl (fun h => qg rfl ty9 (gd h rfl)) rfl<|sg rfl rfl (fun h => vd rfl Tryz.underlying9 (gd h rfl)) rfl<|sg rfl rfl (fun h => vl rfl (gd h rfl) rfl) rfl<|su (zy rfl rfl rfl rfl) rfl<|sm rfl rfl<|sg rfl rfl (fun h => qd rfl qgn rfl) rfl<|sg rfl rfl (fun h => qg rfl ty9 (gd h rfl)) rfl<|sg rfl rfl (fun h => vd rfl Tryz.underlying9 (gd h rfl)) rfl<|sg rfl rfl (fun h => vl rfl (gd h rfl) rfl) rfl<|su (zy rfl rfl rfl rfl) rfl<|sm rfl rfl<|sg rfl rfl (fun h => qd rfl qse rfl) rfl<|sg rfl rfl (fun h => qg rfl ty9 (gd h rfl)) rfl<|sg rfl rfl (fun h => vd rfl Tryz.underlying9 (gd h rfl)) rfl<|sg rfl rfl (fun h => vl rfl (gd h rfl) rfl) rfl<|su (zy rfl rfl rfl rfl) rfl<|sm rfl rfl<|sg rfl rfl (fun h => qd rfl ql4 rfl) rfl<|sg rfl rfl (fun h => qg rfl ty9 (gd h rfl)) rfl<|sg rfl rfl (fun h => vd rfl Tryz.underlying9 (gd h rfl)) rfl<|sg rfl rfl (fun h => vl rfl (gd h rfl) rfl) rfl<|su (zy rfl rfl rfl rfl) rfl<|sa rfl rfl<|qc<|qo ?_;subst hR;exact zb rfl (rv_g rfl)
def s180 (a0 : Int) : Int :=
 Int.tmod (IntKind.i64.wrap (a0 + 5)) 7
theorem c180 {g : GL} (a0 : Int)    : Con (EG g) 81 [G.int a0] (G.int (s180 a0)) := by
 generalize hR : s180 a0 = R;unfold s180 at hR;refine qm Tryz.func81 rfl rfl fun w0 M0 => ?_;refine qb<|qa [.p]<|sa rfl rfl<|qc<|qb<|qa [.p, .p, .p, .p]<|sm rfl rfl<|su (jo rfl rfl rfl) rfl ?_;refine su (qhe rfl rfl rfl (by decide)) rfl ?_;refine sa rfl rfl<|qc<|qo ?_;subst hR;exact zb rfl (rv_g rfl)
def qjk  : Nat → Int → Int → Bool
 | 0, x1, x2 => decide (Int.tmod x1 2 = 1)
 | k4 + 1, x1, x2 => qjk k4 (IntKind.i64.wrap (Int.tdiv x1 2)) (x2 + 1)
def s192 (a0 : Int) (a1 : Int) : Bool :=
 qjk ((a1 - 0).toNat) a0 0
theorem c192 {g : GL} (a0 : Int) (a1 : Int)  (hw : a1 ≤ 7)  : Con (EG g) 80 [G.int a0, G.int a1] (G.bool (s192 a0 a1)) := by
 generalize hR : s192 a0 a1 = R;unfold s192 at hR;refine qm Tryz.func80 rfl rfl fun w0 M0 => ?_;refine qb<|qa [.p]<|sa rfl rfl<|qc<|qb<|qb<|qa [.p]<|sa rfl rfl<|qc<|qq<|za (γ := Nat × Int × Int) (fun g => ([(0, .g (G.int g.2.1)), (1, .g (G.int a1)), (5, .g (G.int g.2.2))], [])) (fun g => g.1 = (a1 - g.2.2).toNat ∧ 0 ≤ g.2.2 ∧ qjk g.1 g.2.1 g.2.2 = R) (fun g => g.1) ⟨rfl, ((a1 - 0).toNat, a0, 0), ⟨rfl, rfl, rfl, trivial⟩, trivial, rfl, ⟨rfl, iD, (by exact hR)⟩, trivial⟩ ?_
 ·rintro ⟨k4, x1, x2⟩ ⟨hk1, iv1_0, hR⟩;replace hk1 : k4 = (a1 - x2).toNat := hk1;replace hR : qjk k4 x1 x2 = R := hR;replace iv1_0 : 0 ≤ x2 := iv1_0;refine qb<|qb<|qa [.p, .p, .p]<|sm rfl rfl<|sm rfl rfl<|su (ze rfl rfl rfl) rfl<|qc ?_;refine ql _ rfl (fun h1 => ?_) (fun h1 => ?_)
  ·replace h1 : (decide (x2 < a1)) = true := h1;replace h1 := decT h1;obtain ⟨k4, rfl⟩ : ∃ m, k4 = m + 1 := ⟨k4 - 1, by omega⟩;rw [qjk] at hR;(try dsimp only at hR);refine qn<|qb<|qq<|qa [.p, .p, .p]<|sm rfl rfl ?_;refine su (qhr rfl rfl rfl (by decide)) rfl ?_;refine sa rfl rfl<|qc<|qa [.p, .p, .p]<|sm rfl rfl<|su (zl rfl rfl rfl iG) rfl<|sa rfl rfl<|qc ?_;exact ⟨rfl, (k4, IntKind.i64.wrap (Int.tdiv x1 2), x2 + 1), ⟨rfl, rfl, rfl, trivial⟩, trivial, rfl, ⟨iB, iB, hR⟩, by simp⟩
  ·replace h1 : (decide (x2 < a1)) = false := h1;replace h1 := decF h1
   obtain rfl : k4 = 0 := by omega
   rw [qjk] at hR;refine zr<|qb<|qa [.p, .p, .p, .p]<|sm rfl rfl ?_;refine su (qhe rfl rfl rfl (by decide)) rfl ?_;refine su (jq rfl rfl rfl) rfl<|sa rfl rfl<|qc<|qo ?_;subst hR;exact zb rfl (rv_g rfl)
def qed (a1 : ByteArray) : List ByteArray → Nat → Int
 | [], k2 => (-1)
 | y3 :: t4, k2 => (bif decide (a1 = y3) then ((k2 : Nat) : Int) else qed a1 t4 (k2 + 1))
def s148 (a0 : List ByteArray) (a1 : ByteArray) : Int :=
 qed a1 a0 0
theorem c148 {g : GL} (a0 : List ByteArray) (a1 : ByteArray)    : Con (EG g) 168 [G.sl 1 (List.map cStr a0), G.str a1] (G.int (s148 a0 a1)) := by
 generalize hR : s148 a0 a1 = R;unfold s148 at hR;refine qm Tryz.func168 rfl rfl fun w0 M0 => ?_;refine zp (f := cStr) (l := a0) 0 rfl fun hla0 => ?_;refine qb<|qa [.p]<|sa rfl rfl<|qc<|qb<|qb<|qa [.p, .p, .p]<|sm rfl rfl<|su (qy (f := cStr) (l := a0) rfl Tryz.underlying35 rfl) rfl<|sm rfl rfl<|qc<|qq<|za (γ := Nat × (List ByteArray)) (fun g => ([(0, .g (G.sl 1 (List.map cStr a0))), (1, .g (G.str a1)), (7, .g (G.int (List.length a0 : Int))), (8, .g (G.int ((g.1 : Nat) : Int)))], [])) (fun g => a0.drop g.1 = g.2 ∧ qed a1 g.2 g.1 = R) (fun g => List.length g.2) ⟨rfl, (0, a0), jA, trivial, rfl, ⟨rfl, (by exact hR)⟩, trivial⟩ ?_
 ·rintro ⟨k2, t4⟩ ⟨hd, hR⟩;replace hd : a0.drop k2 = t4 := hd;replace hR : qed a1 t4 k2 = R := hR;refine qb<|qa [.p]<|su (ze rfl rfl rfl) rfl<|qc ?_;refine zp (f := cStr) (l := a0) 0 rfl fun hlz1 => ?_;refine qb ?_;refine ql _ rfl (fun h1 => ?_) (fun h1 => ?_)
  ·replace h1 : (decide (((k2 : Nat) : Int) < (List.length a0 : Int))) = true := h1;obtain ⟨y3, t4, rfl, hx1, hd⟩ := zq hd (decT h1);replace h1 := decT h1;rw [qed] at hR;(try dsimp only at hR);refine qn<|qb<|qq<|qb<|qa [.p, .p]<|sm rfl rfl<|sa rfl rfl<|qc<|qb<|qa [.p, .p, .p, .p, .p, .p]<|sm rfl rfl<|sm rfl rfl<|sm rfl rfl<|su (z4 (f := cStr) (l := a0) (a := y3) rfl Tryz.underlying35 ty9 rfl rfl (Int.natCast_nonneg _) hx1) rfl<|su (qg rfl ty9 rfl) rfl<|su (ky rfl rfl rfl) rfl<|qc ?_;refine ql _ rfl (fun h3 => ?_) (fun h3 => ?_)
   ·replace hR := zm hR h3;refine qb<|qa [.p, .p]<|sm rfl rfl<|sa rfl rfl<|qc<|qo ?_;subst hR;exact zb rfl (rv_g rfl)
   ·replace h3 : (decide (a1 = y3)) = false := h3;replace hR := zn hR h3;(try simp only [bB] at h3);refine qn<|qa [.p, .p]<|su (zl rfl rfl rfl iE) rfl<|sm rfl rfl<|qc ?_;exact ⟨rfl, (k2 + 1, t4), jA, trivial, rfl, ⟨hd, hR⟩, by simp⟩
  ·replace h1 : (decide (((k2 : Nat) : Int) < (List.length a0 : Int))) = false := h1;obtain rfl := zu hd (decF h1);rw [qed] at hR;refine zr<|qb<|qa [.p]<|sa rfl rfl<|qc<|qo ?_;subst hR;exact zb rfl (rv_g rfl)
def s88 (a0 : List ByteArray) (a1 : ByteArray) : Bool :=
 decide (0 ≤ (s148 a0 a1))
theorem c88 {g : GL} (a0 : List ByteArray) (a1 : ByteArray)    : Con (EG g) 115 [G.sl 1 (List.map cStr a0), G.str a1] (G.bool (s88 a0 a1)) := by
 generalize hR : s88 a0 a1 = R;unfold s88 at hR;refine qm Tryz.func115 rfl rfl fun w0 M0 => ?_;refine zp (f := cStr) (l := a0) 0 rfl fun hla0 => ?_;refine qb<|qa [.p]<|sa rfl rfl<|qc<|qb<|qa [.p, .p, .p, .p, .p]<|sm rfl rfl<|sm rfl rfl<|su (qf rfl K148 rfl (c148 a0 a1) (qe rfl (qe rfl qj))) rfl<|su (w4 rfl rfl rfl) rfl<|sa rfl rfl<|qc<|qo ?_;subst hR;exact zb rfl (rv_g rfl)
theorem zbe {f t x : Int} (hf : 0 ≤ f) (ht : t ≤ 1000000) (h : ((decide (f ≤ x) && decide (x ≤ t)) == true) = true) : 0 ≤ s188 x := by
 have h1 : f ≤ x ∧ x ≤ t := by simpa using h
 unfold s188;rw [wrap_i64 (by unfold I64; omega)];exact Int.tmod_nonneg 7 (by omega)
def G.slX (k : Nat) (xs : List (List G)) : G :=
 ⟨fun w M u => (∀ c ∈ xs, c.length = k) ∧ ((xs = [] ∧ u = .slice none 0 0) ∨ ∃ b cap cur e, u = .slice (some ⟨b, 0, none⟩) xs.length cap ∧ xs.length ≤ cap ∧ cap ≤ maxLen ∧ ¬ M b ∧ w.heap[b]? = some (.cells cur e (0, 0)) ∧ cur.size = cap * k ∧ Fits w M xs.flatten (cur.toList.take (xs.length * k))), fun {w w' M M' u} h hh hM => by
  obtain ⟨h0, h⟩ := h;refine ⟨h0, ?_⟩
  rcases h with h | ⟨b, cap, cur, e, h1, h2, h3, h4, h5, h6, h7⟩
  ·exact .inl h
  ·have hlt := (Array.getElem?_eq_some_iff.1 h5).1
   exact .inr ⟨b, cap, cur, e, h1, h2, h3, fun hm => h4 (hM b hlt hm), (hh b hlt h4).trans h5, h6, h7.mono hh hM⟩⟩
instance (k : Nat) (xs : List (List G)) : One (.slX k xs) := ⟨fun ⟨_, h⟩ => by
 rcases h with ⟨_, h⟩ | ⟨_, _, _, _, h, _⟩ <;> rw [h] <;> rfl⟩
theorem q8t {w : World} {M : Nat → Prop} {k : Nat} {xs : List (List G)} {u : Value} (h : (G.slX k xs).p w M u) : (G.sl k xs).p w M u := by
 obtain ⟨h0, h⟩ := h
 rcases h with ⟨rfl, rfl⟩ | ⟨b, cap, cur, e, h1, h2, h3, h4, h5, h6, h7⟩
 ·exact ⟨none, 0, rfl, Nat.le_refl _, Nat.zero_le _, h0, .inl ⟨rfl, fun _ => rfl⟩⟩
 ·exact ⟨some ⟨b, 0, none⟩, cap, h1, h2, h3, h0, .inr ⟨b, 0, rfl, h4, by
   have hl := qak h0;have hls := h7.length
   have : ∀ j v, (cur.toList.take (xs.length * k))[j]? = some v → w.cell? ⟨b, 0 + j, none⟩ = some v := by
    intro j v hj;rw [List.getElem?_take] at hj
    split at hj
    ·rw [cell_of_row w _ _ _ _ _ h5, Nat.zero_add]; simpa using hj
    ·cases hj
   exact cells_of_get h7 this⟩⟩
where cells_of_get {w : World} {M : Nat → Prop} {b : Nat} : ∀ {cs : List G} {vs : List Value} {o : Nat}, Fits w M cs vs → (∀ j v, vs[j]? = some v → w.cell? ⟨b, o + j, none⟩ = some v) → Cells w M b o cs
 | [], _, _, _, _ => trivial
 | c :: cs, [], _, h, _ => h.elim
 | c :: cs, v :: vs, o, h, hg => ⟨⟨v, hg 0 v rfl, h.1.1, h.1.2⟩, cells_of_get h.2 fun j u hj => by
   have := hg (j + 1) u (by simpa using hj)
   rwa [show o + (j + 1) = o + 1 + j by omega] at this⟩
theorem q5c (k : Nat) : ∀ w M, (G.slX k []).p w M (.slice none 0 0) := fun _ _ => ⟨by simp, .inl ⟨rfl, rfl⟩⟩
theorem qzd (l : List Int) : (l.map cInt).flatten = (l.map (Value.int .i64)).map G.lit := by
 induction l with
 | nil => rfl
 | cons x l ih => simp [ih]
theorem qtw {w : World} {M : Nat → Prop} : ∀ {vs : List Value}, (∀ v ∈ vs, v.oneCell' = true) → Fits w M (vs.map G.lit) vs
 | [], _ => trivial
 | v :: vs, h => ⟨⟨rfl, h v List.mem_cons_self⟩, qtw fun u hu => h u (List.mem_cons_of_mem _ hu)⟩
theorem q55 {w w' : World} {M : Nat → Prop} {e : TypeId} {v : Value} {n0 : Nat} {l : List Int} (hM : ∀ b, M b → b < w.heap.size) (hn : w.heap.size ≤ n0) (h : w'.ownsRow n0 e 1 v l.length (l.map (Value.int .i64))) : (G.slX 1 (l.map cInt)).p w' M v := by
 obtain ⟨h1, h2⟩ := h;refine ⟨fun c hc => ?_, ?_⟩
 ·obtain ⟨x, _, rfl⟩ := List.mem_map.1 hc; rfl
 rcases h2 with ⟨rfl, h2⟩ | ⟨gg, cap, cur, rfl, g1, g2, g3, g4, g5, g6⟩
 ·exact .inl ⟨by rw [List.eq_nil_of_length_eq_zero h2]; rfl, rfl⟩
 ·refine .inr ⟨gg, cap, cur, e, by simp, by simpa using g3, g4, fun hm => by have := hM _ hm; omega, g2, g5, ?_⟩;rw [List.length_map, g6, qzd]
  exact qtw fun v hv => by obtain ⟨x, _, rfl⟩ := List.mem_map.1 hv; rfl
theorem zc4 {g : GL} (f t m : Int) (hf : 0 ≤ f) (ht : t ≤ 1000000) : Con (EG g) 174 [G.fn (.func 193) [] [G.ref [G.int f, G.int t, G.int m]], G.lit (.func (.func 176) #[] #[])] (G.slX 1 (List.map cInt (dayL m (t + 1 - f).toNat f))) := by
 intro w M vs hM hgl hv
 match vs, hv with
 | [v1, v2], hv =>
  obtain ⟨⟨fs, cs, rfl, hfs, hcs⟩, rfl, _⟩ := hv
  cases fs with
  | cons _ _ => exact hfs.elim
  | nil =>
   match cs, hcs with
   | [c], hcs =>
    obtain ⟨b, o, rfl, hnm, hc⟩ := hcs.1
    have hnm : ¬ M b := by rcases hnm with h | h; cases h; exact h
    obtain ⟨⟨_, e1, e1', _⟩, ⟨_, e2, e2', _⟩, ⟨_, e3, e3', _⟩, _⟩ := hc;have e1' : _ = _ := e1'; have e2' : _ = _ := e2'; have e3' : _ = _ := e3';subst e1'; subst e2'; subst e3';have hb : b < w.heap.size := block_lt_of_cell e1;refine (callsIn_wide.1 (qqw b o f t m hf ht w hb e1 e2 e3)).mono ?_;rintro e W' ⟨v, rfl, h1, _, h3⟩;exact ⟨v, rfl, h3, q55 hM (Nat.le_succ _) h1⟩
theorem c136 {g : GL} (f t m : Int) : Con (EG g) 175 [G.agg [G.int f, G.int t, G.int m]] (G.fn (.func 193) [] [G.ref [G.int f, G.int t, G.int m]]) := by
 refine qm Tryz.func175 rfl rfl fun w0 M0 => ?_;refine qb<|qa [.p, .p]<|st rfl rfl (zg rfl rfl) rfl<|st rfl rfl (je rfl rfl) rfl<|qc<|qb<|qa [.p, .p]<|st rfl rfl (w6 rfl rfl rfl) rfl<|st rfl rfl (je rfl rfl) rfl<|qc<|qo ?_;exact zb rfl (rv_g rfl)
theorem q2n (a b : Int) (h : s152 [a, b] = 0) : a = 0 ∧ b = 0 := by
 simp only [s152, qdb] at h
 by_cases ha : a = 0
 ·by_cases hb : b = 0
  ·exact ⟨ha, hb⟩
  ·simp [ha, hb] at h
 ·simp [ha] at h
theorem q9q (a b c : Int) (h : s152 [a, b, c] = 0) : a = 0 ∧ b = 0 ∧ c = 0 := by
 simp only [s152, qdb] at h
 by_cases ha : a = 0
 ·by_cases hb : b = 0
  ·by_cases hc : c = 0
   ·exact ⟨ha, hb, hc⟩
   ·simp [ha, hb, hc] at h
  ·simp [ha, hb] at h
 ·simp [ha] at h
theorem rng0 (n lo hi : Int) (h : s155 n lo hi = 0) : lo ≤ n ∧ n ≤ hi := by
 simp only [s155, s154] at h
 by_cases h1 : n < lo
 ·simp [h1] at h
 ·by_cases h2 : hi < n
  ·simp [h2] at h
  ·omega
theorem q9r (b : Bool) (e : Int) (he : e ≠ 0) (h : s154 b e = 0) : b = false := by
 cases b with
 | false => rfl
 | true => exact absurd h he
theorem vk (p : S45) (h : s102 p = 0) : 0 ≤ p.fFrom ∧ p.fFrom ≤ p.fTo ∧ p.fTo ≤ 99999 ∧ p.fTo - p.fFrom ≤ 400 ∧ 1 ≤ p.Days ∧ p.Days ≤ 127 := by
 unfold s102 at h
 by_cases h1 : s152 [s153 p.fFrom, s153 p.fTo] = 0
 ·rw [decide_eq_false (by simpa using h1)] at h;rw [cond_false] at h;obtain ⟨a1, a2⟩ := q2n _ _ h1;obtain ⟨b1, b2, b3⟩ := q9q _ _ _ h;have c1 := rng0 _ _ _ a1;have c2 := rng0 _ _ _ a2;have c3 := rng0 _ _ _ b3;have d1 := q9r _ _ (by decide) b1;have d2 := q9r _ _ (by decide) b2;simp only [decide_eq_false_iff_not] at d1 d2;rw [wrap_i64 (by unfold I64; omega)] at d2
  omega
 ·rw [decide_eq_true (by simpa using h1)] at h;exact absurd h h1
end Go.Sim
