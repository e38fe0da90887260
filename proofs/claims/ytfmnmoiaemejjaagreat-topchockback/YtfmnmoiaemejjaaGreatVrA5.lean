/-
  What is proved: lemmas and contracts of functions on the way to the law topChockBack (part 5).
-/
import Derived.Test.YtfmnmoiaemejjaaGreatVrA4
import Derived.Test.YtfmnmoiaemejjaaGreatVrA3
import Derived.Scope
import Derived.Test.YtfmnmoiaemejjaaGreatVrA2
import Derived.Maps.RangeRun
import Derived.RangeFuncBox
import Derived.RangeFuncNested
import Derived.RangeFuncBound
import Derived.RangeFuncCalls
import Derived.RangeFuncLeaves
import Derived.Shelf.Abstract
import Derived.Shelf.RegionOpen
import Derived.WalkKit
import Derived.OwnWalkIn
import Derived.TacticsInMore
import Derived.LoopNIn
import Derived.LoopIn
import Derived.Maps.AppendAt
import Derived.Lib.Hide
import Derived.Stop.RegionWithIn
import Derived.Sort.QuietIn
set_option linter.unusedSectionVars false
set_option linter.unusedSimpArgs false
set_option linter.unusedVariables false
set_option linter.unnecessarySimpa false
set_option linter.deprecated false
set_option maxRecDepth 10000
namespace Go.Sim
open Go.Proofs
def qcu  : List Int → Nat → Int
 | [], k2 => 0
 | y3 :: t4, k2 => (bif decide (y3 ≠ 0) then y3 else qcu  t4 (k2 + 1))
def s152 (a0 : List Int) : Int :=
 qcu a0 0
theorem c152 {g : GL} (a0 : List Int)    : Con (EG g) 103 [G.sl 1 (List.map cInt a0)] (G.int (s152 a0)) := by
 generalize hR : s152 a0 = R;unfold s152 at hR;refine qm Tryz.func103 rfl rfl fun w0 M0 => ?_;refine zu (f := cInt) (l := a0) 0 rfl fun hla0 => ?_;refine qb<|qa [.p]<|sa rfl rfl<|qd<|qb<|qb<|qa [.p, .p, .p]<|sm rfl rfl<|su (zb (f := cInt) (l := a0) rfl Tryz.underlying170 rfl) rfl<|sm rfl rfl<|qd<|qp<|zf (γ := Nat × (List Int)) (fun g => ([(5, .g (G.sl 1 (List.map cInt a0))), (6, .g (G.int (List.length a0 : Int))), (7, .g (G.int ((g.1 : Nat) : Int)))], [])) (fun g => a0.drop g.1 = g.2 ∧ qcu  g.2 g.1 = R) (fun g => List.length g.2) ⟨rfl, (0, a0), ⟨rfl, rfl, rfl, trivial⟩, trivial, rfl, ⟨rfl, (by exact hR)⟩, trivial⟩ ?_
 ·rintro ⟨k2, t4⟩ ⟨hd, hR⟩;replace hd : a0.drop k2 = t4 := hd;replace hR : qcu  t4 k2 = R := hR;refine qb<|qa [.p]<|su (zd rfl rfl rfl) rfl<|qd ?_;refine zu (f := cInt) (l := a0) 5 rfl fun hlz1 => ?_;refine qb ?_;refine ql _ rfl (fun h1 => ?_) (fun h1 => ?_)
  ·replace h1 : (decide (((k2 : Nat) : Int) < (List.length a0 : Int))) = true := h1;obtain ⟨y3, t4, rfl, hx1, hd⟩ := zq hd (decT h1);replace h1 := decT h1;rw [qcu] at hR;(try dsimp only at hR);refine qn<|qb<|qp<|qb<|qa [.p, .p, .p]<|su (z5 (f := cInt) (l := a0) (a := y3) rfl Tryz.underlying170 ty37 rfl rfl (Int.natCast_nonneg _) hx1) rfl<|su (qf rfl ty37 rfl) rfl<|sa rfl rfl<|qd<|qb<|qa [.p, .p]<|sm rfl rfl<|su (zx rfl rfl rfl) rfl<|qd ?_;refine ql _ rfl (fun h3 => ?_) (fun h3 => ?_)
   ·replace hR := zk hR h3;refine qb<|qa [.p, .p]<|sm rfl rfl<|sa rfl rfl<|qd<|qo ?_;subst hR;exact za rfl (rv_g rfl)
   ·replace h3 : (decide (y3 ≠ 0)) = false := h3;replace hR := zl hR h3;(try simp only [bB] at h3);refine qn<|qa [.p, .p]<|su (zn rfl rfl rfl iE) rfl<|sm rfl rfl<|qd ?_;exact ⟨rfl, (k2 + 1, t4), ⟨rfl, rfl, rfl, trivial⟩, trivial, rfl, ⟨hd, hR⟩, by simp⟩
  ·replace h1 : (decide (((k2 : Nat) : Int) < (List.length a0 : Int))) = false := h1;obtain rfl := zz hd (decF h1);rw [qcu] at hR;refine zw<|qb<|qa [.p]<|sa rfl rfl<|qd<|qo ?_;subst hR;exact za rfl (rv_g rfl)
def s154 (a0 : Bool) (a1 : Int) : Int :=
 (bif a0 then a1 else 0)
theorem c154 {g : GL} (a0 : Bool) (a1 : Int)    : Con (EG g) 105 [G.bool a0, G.int a1] (G.int (s154 a0 a1)) := by
 generalize hR : s154 a0 a1 = R;unfold s154 at hR;refine qm Tryz.func105 rfl rfl fun w0 M0 => ?_;refine qb<|qa [.p]<|sa rfl rfl<|qd<|qb<|qb<|qa [.p]<|sm rfl rfl<|qd ?_;refine ql _ rfl (fun h1 => ?_) (fun h1 => ?_)
 ·replace hR := zk hR h1;refine qb<|qa [.p, .p]<|sm rfl rfl<|sa rfl rfl<|qd<|qo ?_;subst hR;exact za rfl (rv_g rfl)
 ·replace hR := zl hR h1;refine qn<|qb<|qa [.p]<|sa rfl rfl<|qd<|qo ?_;subst hR;exact za rfl (rv_g rfl)
def s155 (a0 : Int) (a1 : Int) (a2 : Int) : Int :=
 (s154 ((decide (a0 < a1)) || (decide (a2 < a0))) 3)
theorem c155 {g : GL} (a0 : Int) (a1 : Int) (a2 : Int)    : Con (EG g) 106 [G.int a0, G.int a1, G.int a2] (G.int (s155 a0 a1 a2)) := by
 generalize hR : s155 a0 a1 a2 = R;unfold s155 at hR;refine qm Tryz.func106 rfl rfl fun w0 M0 => ?_;refine qb<|qa [.p]<|sa rfl rfl<|qd<|qb<|qa [.p, .p, .p, .p, .p, .p, .p, .p, .p, .p]<|sm rfl rfl<|sm rfl rfl<|su (zd rfl rfl rfl) rfl<|sm rfl rfl<|sg rfl rfl (fun h => qj rfl rfl) rfl<|sg rfl rfl (fun h => qj rfl rfl) rfl<|sg rfl rfl (fun h => zy rfl (gd h rfl) (gd h rfl)) rfl<|su (jg rfl rfl rfl rfl) rfl<|su (qg rfl K154 rfl (c154 ((decide (a0 < a1)) || (decide (a2 < a0))) 3) (qe rfl (qe rfl qk))) rfl<|sa rfl rfl<|qd<|qo ?_;subst hR;exact za rfl (rv_g rfl)
def s153 (a0 : Int) : Int :=
 (s155 a0 0 99999)
theorem c153 {g : GL} (a0 : Int)    : Con (EG g) 104 [G.int a0] (G.int (s153 a0)) := by
 generalize hR : s153 a0 = R;unfold s153 at hR;refine qm Tryz.func104 rfl rfl fun w0 M0 => ?_;refine qb<|qa [.p]<|sa rfl rfl<|qd<|qb<|qa [.p, .p, .p]<|sm rfl rfl<|su (qg rfl K155 rfl (c155 a0 0 99999) (qe rfl (qe rfl (qe rfl qk)))) rfl<|sa rfl rfl<|qd<|qo ?_;subst hR;exact za rfl (rv_g rfl)
def qg1  : List Int → Nat → Int
 | [], k2 => 0
 | y3 :: t4, k2 => (bif decide (y3 ≠ 0) then y3 else qg1  t4 (k2 + 1))
def s89 (a0 : List Int) : Int :=
 qg1 a0 0
theorem c89 {g : GL} (a0 : List Int)    : Con (EG g) 133 [G.sl 1 (List.map cInt a0)] (G.int (s89 a0)) := by
 generalize hR : s89 a0 = R;unfold s89 at hR;refine qm Tryz.func133 rfl rfl fun w0 M0 => ?_;refine zu (f := cInt) (l := a0) 0 rfl fun hla0 => ?_;refine qb<|qa [.p]<|sa rfl rfl<|qd<|qb<|qb<|qa [.p]<|sa rfl rfl<|qd<|qp<|zf (γ := Nat × (List Int)) (fun g => ([(0, .g (G.sl 1 (List.map cInt a0))), (3, .g (G.int ((g.1 : Nat) : Int)))], [])) (fun g => a0.drop g.1 = g.2 ∧ qg1  g.2 g.1 = R) (fun g => List.length g.2) ⟨rfl, (0, a0), ⟨rfl, rfl, trivial⟩, trivial, rfl, ⟨rfl, (by exact hR)⟩, trivial⟩ ?_
 ·rintro ⟨k2, t4⟩ ⟨hd, hR⟩;replace hd : a0.drop k2 = t4 := hd;replace hR : qg1  t4 k2 = R := hR;refine qb<|qb<|qa [.p, .p, .p, .p]<|sm rfl rfl<|sm rfl rfl<|su (zb (f := cInt) (l := a0) rfl Tryz.underlying38 rfl) rfl<|su (zd rfl rfl rfl) rfl<|qd ?_;refine zu (f := cInt) (l := a0) 0 rfl fun hlz1 => ?_;refine ql _ rfl (fun h1 => ?_) (fun h1 => ?_)
  ·replace h1 : (decide (((k2 : Nat) : Int) < (List.length a0 : Int))) = true := h1;obtain ⟨y3, t4, rfl, hx1, hd⟩ := zq hd (decT h1);replace h1 := decT h1;rw [qg1] at hR;(try dsimp only at hR);refine qn<|qb<|qp<|qb<|qa [.p, .p, .p, .p, .p]<|sm rfl rfl<|sm rfl rfl<|su (z5 (f := cInt) (l := a0) (a := y3) rfl Tryz.underlying38 ty3 rfl rfl (Int.natCast_nonneg _) hx1) rfl<|su (qf rfl ty3 rfl) rfl<|su (zx rfl rfl rfl) rfl<|qd ?_;refine ql _ rfl (fun h3 => ?_) (fun h3 => ?_)
   ·replace hR := zk hR h3;refine qb<|qa [.p, .p, .p, .p, .p]<|sm rfl rfl<|sm rfl rfl<|su (z5 (f := cInt) (l := a0) (a := y3) rfl Tryz.underlying38 ty3 rfl rfl (Int.natCast_nonneg _) hx1) rfl<|su (qf rfl ty3 rfl) rfl<|sa rfl rfl<|qd<|qo ?_;subst hR;exact za rfl (rv_g rfl)
   ·replace h3 : (decide (y3 ≠ 0)) = false := h3;replace hR := zl hR h3;(try simp only [bB] at h3);refine qn<|qa [.p, .p, .p]<|sm rfl rfl<|su (zn rfl rfl rfl iE) rfl<|sa rfl rfl<|qd ?_;exact ⟨rfl, (k2 + 1, t4), ⟨rfl, rfl, trivial⟩, trivial, rfl, ⟨hd, hR⟩, by simp⟩
  ·replace h1 : (decide (((k2 : Nat) : Int) < (List.length a0 : Int))) = false := h1;obtain rfl := zz hd (decF h1);rw [qg1] at hR;refine zw<|qb<|qa [.p]<|sa rfl rfl<|qd<|qo ?_;subst hR;exact za rfl (rv_g rfl)
def s90 (a0 : Int) (a1 : Int) (a2 : Int) : Int :=
 (bif (decide (a0 < a1)) || (decide (a2 < a0)) then 3 else 0)
theorem c90 {g : GL} (a0 : Int) (a1 : Int) (a2 : Int)    : Con (EG g) 139 [G.int a0, G.int a1, G.int a2] (G.int (s90 a0 a1 a2)) := by
 generalize hR : s90 a0 a1 a2 = R;unfold s90 at hR;refine qm Tryz.func139 rfl rfl fun w0 M0 => ?_;refine qb<|qa [.p]<|sa rfl rfl<|qd<|qb<|qb<|qa [.p, .p, .p, .p, .p, .p, .p, .p]<|sm rfl rfl<|sm rfl rfl<|su (zd rfl rfl rfl) rfl<|sm rfl rfl<|sg rfl rfl (fun h => qj rfl rfl) rfl<|sg rfl rfl (fun h => qj rfl rfl) rfl<|sg rfl rfl (fun h => zy rfl (gd h rfl) (gd h rfl)) rfl<|su (jg rfl rfl rfl rfl) rfl<|qd ?_;refine ql _ rfl (fun h1 => ?_) (fun h1 => ?_)
 ·replace hR := zk hR h1;refine qb<|qa [.p]<|sa rfl rfl<|qd<|qo ?_;subst hR;exact za rfl (rv_g rfl)
 ·replace hR := zl hR h1;refine qn<|qb<|qa [.p]<|sa rfl rfl<|qd<|qo ?_;subst hR;exact za rfl (rv_g rfl)
def s109 (a0 : Int) : Int :=
 (s90 a0 0 99999)
theorem c109 {g : GL} (a0 : Int)    : Con (EG g) 177 [G.int a0] (G.int (s109 a0)) := by
 generalize hR : s109 a0 = R;unfold s109 at hR;refine qm Tryz.func177 rfl rfl fun w0 M0 => ?_;refine qb<|qa [.p]<|sa rfl rfl<|qd<|qb<|qa [.p, .p, .p]<|sm rfl rfl<|su (qg rfl K90 rfl (c90 a0 0 99999) (qe rfl (qe rfl (qe rfl qk)))) rfl<|sa rfl rfl<|qd<|qo ?_;subst hR;exact za rfl (rv_g rfl)
def s183 (a0 : ByteArray) : Bool :=
 !decide (a0 = a0)
theorem c183 {g : GL} (a0 : ByteArray)    : Con (EG g) 180 [G.str a0] (G.bool (s183 a0)) := by
 generalize hR : s183 a0 = R;unfold s183 at hR;refine qm Tryz.func180 rfl rfl fun w0 M0 => ?_;refine qb<|qa [.p]<|sa rfl rfl<|qd<|qb<|qa [.p, .p, .p, .p]<|sm rfl rfl<|sm rfl rfl<|su (qbn rfl rfl rfl) rfl<|sa rfl rfl<|qd<|qo ?_;subst hR;exact za rfl (rv_g rfl)
def s133 (a0 : ByteArray) (a1 : ByteArray) : Int :=
 (bif (s183 a0) then (bif (s183 a1) then 0 else (-1)) else (bif (s183 a1) then 1 else (bif wu a0 a1 then (-1) else (bif !(wu a0 a1 || decide (a0 = a1)) then 1 else 0))))
theorem c133 {g : GL} (a0 : ByteArray) (a1 : ByteArray)    : Con (EG g) 144 [G.str a0, G.str a1] (G.int (s133 a0 a1)) := by
 generalize hR : s133 a0 a1 = R;unfold s133 at hR;refine qm Tryz.func144 rfl rfl fun w0 M0 => ?_;refine qb<|qa [.p]<|sa rfl rfl<|qd<|qb<|qa [.p, .p, .p]<|sm rfl rfl<|su (qg rfl K183 rfl (c183 a0) (qe rfl qk)) rfl<|sa rfl rfl<|qd<|qb<|qa [.p, .p, .p]<|sm rfl rfl<|su (qg rfl K183 rfl (c183 a1) (qe rfl qk)) rfl<|sa rfl rfl<|qd<|qb<|qb<|qa [.p]<|sm rfl rfl<|qd ?_;refine ql _ rfl (fun h1 => ?_) (fun h1 => ?_)
 ·replace h1 : ((s183 a0)) = true := h1;replace hR := zk hR h1;(try simp only [bB] at h1);refine qb<|qb<|qa [.p]<|sm rfl rfl<|qd ?_;refine ql _ rfl (fun h2 => ?_) (fun h2 => ?_)
  ·replace hR := zk hR h2;refine qb<|qa [.p]<|sa rfl rfl<|qd<|qo ?_;subst hR;exact za rfl (rv_g rfl)
  ·replace hR := zl hR h2;refine qn<|qb<|qa [.p]<|sa rfl rfl<|qd<|qo ?_;subst hR;exact za rfl (rv_g rfl)
 ·replace h1 : ((s183 a0)) = false := h1;replace hR := zl hR h1;(try simp only [bB] at h1);refine qn<|qb<|qb<|qa [.p]<|sm rfl rfl<|qd ?_;refine ql _ rfl (fun h3 => ?_) (fun h3 => ?_)
  ·replace hR := zk hR h3;refine qb<|qa [.p]<|sa rfl rfl<|qd<|qo ?_;subst hR;exact za rfl (rv_g rfl)
  ·replace h3 : ((s183 a1)) = false := h3;replace hR := zl hR h3;(try simp only [bB] at h3);refine qn<|qb<|qb<|qa [.p, .p, .p]<|sm rfl rfl<|sm rfl rfl<|su (qu0 rfl rfl rfl) rfl<|qd ?_;refine ql _ rfl (fun h4 => ?_) (fun h4 => ?_)
   ·replace hR := zk hR h4;refine qb<|qa [.p]<|sa rfl rfl<|qd<|qo ?_;subst hR;exact za rfl (rv_g rfl)
   ·replace h4 : (wu a0 a1) = false := h4;replace hR := zl hR h4;(try simp only [bB] at h4);refine qn<|qb<|qb<|qa [.p, .p, .p]<|sm rfl rfl<|sm rfl rfl<|su (q3b rfl rfl rfl) rfl<|qd ?_;refine ql _ rfl (fun h5 => ?_) (fun h5 => ?_)
    ·replace hR := zk hR h5;refine qb<|qa [.p]<|sa rfl rfl<|qd<|qo ?_;subst hR;exact za rfl (rv_g rfl)
    ·replace hR := zl hR h5;refine qn<|qb<|qa [.p]<|sa rfl rfl<|qd<|qo ?_;subst hR;exact za rfl (rv_g rfl)
def s202 (a0 : Int) : Bool :=
 decide (a0 ≠ a0)
theorem c202 {g : GL} (a0 : Int)    : Con (EG g) 179 [G.int a0] (G.bool (s202 a0)) := by
 generalize hR : s202 a0 = R;unfold s202 at hR;refine qm Tryz.func179 rfl rfl fun w0 M0 => ?_;refine qb<|qa [.p]<|sa rfl rfl<|qd<|qb<|qa [.p, .p, .p, .p]<|sm rfl rfl<|sm rfl rfl<|su (zx rfl rfl rfl) rfl<|sa rfl rfl<|qd<|qo ?_;subst hR;exact za rfl (rv_g rfl)
def s167 (a0 : Int) (a1 : Int) : Int :=
 (bif (s202 a0) then (bif (s202 a1) then 0 else (-1)) else (bif (s202 a1) then 1 else (bif decide (a0 < a1) then (-1) else (bif decide (a1 < a0) then 1 else 0))))
theorem c167 {g : GL} (a0 : Int) (a1 : Int)    : Con (EG g) 143 [G.int a0, G.int a1] (G.int (s167 a0 a1)) := by
 generalize hR : s167 a0 a1 = R;unfold s167 at hR;refine qm Tryz.func143 rfl rfl fun w0 M0 => ?_;refine qb<|qa [.p]<|sa rfl rfl<|qd<|qb<|qa [.p, .p, .p]<|sm rfl rfl<|su (qg rfl K202 rfl (c202 a0) (qe rfl qk)) rfl<|sa rfl rfl<|qd<|qb<|qa [.p, .p, .p]<|sm rfl rfl<|su (qg rfl K202 rfl (c202 a1) (qe rfl qk)) rfl<|sa rfl rfl<|qd<|qb<|qb<|qa [.p]<|sm rfl rfl<|qd ?_;refine ql _ rfl (fun h1 => ?_) (fun h1 => ?_)
 ·replace h1 : ((s202 a0)) = true := h1;replace hR := zk hR h1;(try simp only [bB] at h1);refine qb<|qb<|qa [.p]<|sm rfl rfl<|qd ?_;refine ql _ rfl (fun h2 => ?_) (fun h2 => ?_)
  ·replace hR := zk hR h2;refine qb<|qa [.p]<|sa rfl rfl<|qd<|qo ?_;subst hR;exact za rfl (rv_g rfl)
  ·replace hR := zl hR h2;refine qn<|qb<|qa [.p]<|sa rfl rfl<|qd<|qo ?_;subst hR;exact za rfl (rv_g rfl)
 ·replace h1 : ((s202 a0)) = false := h1;replace hR := zl hR h1;(try simp only [bB] at h1);refine qn<|qb<|qb<|qa [.p]<|sm rfl rfl<|qd ?_;refine ql _ rfl (fun h3 => ?_) (fun h3 => ?_)
  ·replace hR := zk hR h3;refine qb<|qa [.p]<|sa rfl rfl<|qd<|qo ?_;subst hR;exact za rfl (rv_g rfl)
  ·replace h3 : ((s202 a1)) = false := h3;replace hR := zl hR h3;(try simp only [bB] at h3);refine qn<|qb<|qb<|qa [.p, .p, .p]<|sm rfl rfl<|sm rfl rfl<|su (zd rfl rfl rfl) rfl<|qd ?_;refine ql _ rfl (fun h4 => ?_) (fun h4 => ?_)
   ·replace hR := zk hR h4;refine qb<|qa [.p]<|sa rfl rfl<|qd<|qo ?_;subst hR;exact za rfl (rv_g rfl)
   ·replace h4 : (decide (a0 < a1)) = false := h4;replace hR := zl hR h4;(try simp only [bB] at h4);refine qn<|qb<|qb<|qa [.p, .p, .p]<|sm rfl rfl<|sm rfl rfl<|su (zy rfl rfl rfl) rfl<|qd ?_;refine ql _ rfl (fun h5 => ?_) (fun h5 => ?_)
    ·replace hR := zk hR h5;refine qb<|qa [.p]<|sa rfl rfl<|qd<|qo ?_;subst hR;exact za rfl (rv_g rfl)
    ·replace hR := zl hR h5;refine qn<|qb<|qa [.p]<|sa rfl rfl<|qd<|qo ?_;subst hR;exact za rfl (rv_g rfl)
def s188 (a0 : Int) : Int :=
 Int.tmod (IntKind.i64.wrap (a0 + 5)) 7
theorem c188 {g : GL} (a0 : Int)    : Con (EG g) 190 [G.int a0] (G.int (s188 a0)) := by
 generalize hR : s188 a0 = R;unfold s188 at hR;refine qm Tryz.func190 rfl rfl fun w0 M0 => ?_;refine qb<|qa [.p]<|sa rfl rfl<|qd<|qb<|qa [.p, .p, .p, .p]<|sm rfl rfl<|su (kl rfl rfl rfl) rfl ?_;refine su (qgd rfl rfl rfl (by decide)) rfl ?_;refine sa rfl rfl<|qd<|qo ?_;subst hR;exact za rfl (rv_g rfl)
def qcc  : List Int → Nat → Int
 | [], k2 => 0
 | y3 :: t4, k2 => (bif decide (y3 ≠ 0) then y3 else qcc  t4 (k2 + 1))
def qw5 (a0 : List Int) : Int :=
 qcc a0 0
theorem zd4 {g : GL} (a0 : List Int)    : Con (EG g) 182 [G.sl 1 (List.map cInt a0)] (G.int (qw5 a0)) := by
 generalize hR : qw5 a0 = R;unfold qw5 at hR;refine qm Tryz.func182 rfl rfl fun w0 M0 => ?_;refine zu (f := cInt) (l := a0) 0 rfl fun hla0 => ?_;refine qb<|qa [.p]<|sa rfl rfl<|qd<|qb<|qb<|qa [.p, .p, .p]<|sm rfl rfl<|su (zb (f := cInt) (l := a0) rfl Tryz.underlying170 rfl) rfl<|sm rfl rfl<|qd<|qp<|zf (γ := Nat × (List Int)) (fun g => ([(5, .g (G.sl 1 (List.map cInt a0))), (6, .g (G.int (List.length a0 : Int))), (7, .g (G.int ((g.1 : Nat) : Int)))], [])) (fun g => a0.drop g.1 = g.2 ∧ qcc  g.2 g.1 = R) (fun g => List.length g.2) ⟨rfl, (0, a0), ⟨rfl, rfl, rfl, trivial⟩, trivial, rfl, ⟨rfl, (by exact hR)⟩, trivial⟩ ?_
 ·rintro ⟨k2, t4⟩ ⟨hd, hR⟩;replace hd : a0.drop k2 = t4 := hd;replace hR : qcc  t4 k2 = R := hR;refine qb<|qa [.p]<|su (zd rfl rfl rfl) rfl<|qd ?_;refine zu (f := cInt) (l := a0) 5 rfl fun hlz1 => ?_;refine qb ?_;refine ql _ rfl (fun h1 => ?_) (fun h1 => ?_)
  ·replace h1 : (decide (((k2 : Nat) : Int) < (List.length a0 : Int))) = true := h1;obtain ⟨y3, t4, rfl, hx1, hd⟩ := zq hd (decT h1);replace h1 := decT h1;rw [qcc] at hR;(try dsimp only at hR);refine qn<|qb<|qp<|qb<|qa [.p, .p, .p]<|su (z5 (f := cInt) (l := a0) (a := y3) rfl Tryz.underlying170 ty37 rfl rfl (Int.natCast_nonneg _) hx1) rfl<|su (qf rfl ty37 rfl) rfl<|sa rfl rfl<|qd<|qb<|qa [.p, .p]<|sm rfl rfl<|su (zx rfl rfl rfl) rfl<|qd ?_;refine ql _ rfl (fun h3 => ?_) (fun h3 => ?_)
   ·replace hR := zk hR h3;refine qb<|qa [.p, .p]<|sm rfl rfl<|sa rfl rfl<|qd<|qo ?_;subst hR;exact za rfl (rv_g rfl)
   ·replace h3 : (decide (y3 ≠ 0)) = false := h3;replace hR := zl hR h3;(try simp only [bB] at h3);refine qn<|qa [.p, .p]<|su (zn rfl rfl rfl iE) rfl<|sm rfl rfl<|qd ?_;exact ⟨rfl, (k2 + 1, t4), ⟨rfl, rfl, rfl, trivial⟩, trivial, rfl, ⟨hd, hR⟩, by simp⟩
  ·replace h1 : (decide (((k2 : Nat) : Int) < (List.length a0 : Int))) = false := h1;obtain rfl := zz hd (decF h1);rw [qcc] at hR;refine zw<|qb<|qa [.p]<|sa rfl rfl<|qd<|qo ?_;subst hR;exact za rfl (rv_g rfl)
def qh3 (a0 : Bool) (a1 : Int) : Int :=
 (bif a0 then a1 else 0)
theorem qyd {g : GL} (a0 : Bool) (a1 : Int)    : Con (EG g) 185 [G.bool a0, G.int a1] (G.int (qh3 a0 a1)) := by
 generalize hR : qh3 a0 a1 = R;unfold qh3 at hR;refine qm Tryz.func185 rfl rfl fun w0 M0 => ?_;refine qb<|qa [.p]<|sa rfl rfl<|qd<|qb<|qb<|qa [.p]<|sm rfl rfl<|qd ?_;refine ql _ rfl (fun h1 => ?_) (fun h1 => ?_)
 ·replace hR := zk hR h1;refine qb<|qa [.p, .p]<|sm rfl rfl<|sa rfl rfl<|qd<|qo ?_;subst hR;exact za rfl (rv_g rfl)
 ·replace hR := zl hR h1;refine qn<|qb<|qa [.p]<|sa rfl rfl<|qd<|qo ?_;subst hR;exact za rfl (rv_g rfl)
def qh2 (a0 : Int) (a1 : Int) (a2 : Int) : Int :=
 (qh3 ((decide (a0 < a1)) || (decide (a2 < a0))) 3)
theorem q04 {g : GL} (a0 : Int) (a1 : Int) (a2 : Int)    : Con (EG g) 187 [G.int a0, G.int a1, G.int a2] (G.int (qh2 a0 a1 a2)) := by
 generalize hR : qh2 a0 a1 a2 = R;unfold qh2 at hR;refine qm Tryz.func187 rfl rfl fun w0 M0 => ?_;refine qb<|qa [.p]<|sa rfl rfl<|qd<|qb<|qa [.p, .p, .p, .p, .p, .p, .p, .p, .p, .p]<|sm rfl rfl<|sm rfl rfl<|su (zd rfl rfl rfl) rfl<|sm rfl rfl<|sg rfl rfl (fun h => qj rfl rfl) rfl<|sg rfl rfl (fun h => qj rfl rfl) rfl<|sg rfl rfl (fun h => zy rfl (gd h rfl) (gd h rfl)) rfl<|su (jg rfl rfl rfl rfl) rfl<|su (qg rfl quq rfl (qyd ((decide (a0 < a1)) || (decide (a2 < a0))) 3) (qe rfl (qe rfl qk))) rfl<|sa rfl rfl<|qd<|qo ?_;subst hR;exact za rfl (rv_g rfl)
section
variable {E : Env}
end
section
variable {E : Env} {w0 : World} {M0 : Nat → Prop} {ops : Array Oper} {md : Region.Mode} {cl : Nat → Cls}
theorem qro {K : ASt → Prop} {i : Nat} {oi : Oper} (hi : ops[i]? = some oi) (D : Nat → Bool) (hD : ∀ j, D j = true → ∃ oj, ops[j]? = some oj ∧ ∃ e ∈ oj.after, Region.binds md e = true ∧ (e.on = i ∨ D e.on = true)) : ∀ (fuel : Nat) (listed : Array Bool) (s u : ASt),
  (∀ j, D j = true → listed.getD j true = false) →
  (∀ j oj, ops[j]? = some oj → j ≠ i → listed.getD j true = false → D j = false → oi.apart ops oj = true ∧ okC oi oj (cl i) (cl j) = true) →
  i ∈ Region.ready md ops listed → AStep E ops oi (cl i) s u → anyA E md ops cl K fuel (listed.setIfInBounds i true) u → anyA E md ops cl K (fuel + 1) listed s := by
 intro fuel
 induction fuel with
 | zero =>
  intro listed s u _ _ hr hy H;refine ⟨fun h => (by rw [h] at hr; cases hr), fun j hj => ?_⟩
  by_cases hji : j = i
  ·subst hji; unfold aOp; simp only [hi]; exact ⟨u, hy, H⟩
  ·have := ready_mono hj hji;rw [H.1] at this
   cases this
 | succ fuel ih =>
  intro listed s u hL hfree hr hy H;refine ⟨fun h => (by rw [h] at hr; cases hr), fun j hj => ?_⟩
  by_cases hji : j = i
  ·subst hji; unfold aOp; simp only [hi]; exact ⟨u, hy, H⟩
  ·have h1 := H.2 j (ready_mono hj hji);obtain ⟨hjun, oj, hoj, hall⟩ := mem_ready.1 hj
   have hnD : D j = false := by
    cases hd : D j with
    | false => rfl
    | true =>
     exfalso
     obtain ⟨oj', ho', e, he, hb, hon⟩ := hD j hd
     have : oj' = oj := by rw [hoj] at ho'; exact (Option.some.inj ho').symm
     subst this;have h2 := hall e he hb
     rcases hon with heq | hDe
     ·have h0 := (mem_ready.1 hr).1;rw [heq] at h2
      rcases Nat.lt_or_ge i listed.size with h' | h'
      ·simp [h'] at h0 h2; rw [h0] at h2; cases h2
      ·simp [Array.getElem?_eq_none h'] at h2
     ·have h0 := hL e.on hDe
      rcases Nat.lt_or_ge e.on listed.size with h' | h'
      ·simp [h'] at h0 h2; rw [h0] at h2; cases h2
      ·simp [Array.getElem?_eq_none h'] at h2
   unfold aOp at h1 ⊢;simp only [hoj] at h1 ⊢;obtain ⟨t, h2, h3⟩ := h1;obtain ⟨hap, hok⟩ := hfree j oj hoj hji hjun hnD;obtain ⟨s2, h4, h5⟩ := AStep.swap hap hok hy h2;refine ⟨s2, h4, ih (listed.setIfInBounds j true) s2 t (fun k hk => ?_) (fun k ok hk hki hun hno => ?_) (ready_mono hr (Ne.symm hji)) h5 ?_⟩
   ·by_cases hjk : j = k
    ·subst hjk; rw [hk] at hnD; cases hnD
    ·rw [getD_set_ne true hjk]; exact hL k hk
   ·refine hfree k ok hk hki ?_ hno
    by_cases hjk : j = k
    ·subst hjk; exact hjun
    ·rw [getD_set_ne true hjk] at hun; exact hun
   ·rw [Array.setIfInBounds_comm _ _ hji];exact h3
def q8h (md : Region.Mode) (ops : Array Oper) (i : Nat) : List Nat :=
 (List.range ops.size).foldl (fun acc j => match ops[j]? with
  | some oj => bif oj.after.any (fun e => Region.binds md e && (e.on == i || acc.contains e.on)) then j :: acc else acc
  | none => acc) []
def q2n (md : Region.Mode) (ops : Array Oper) (cl : Nat → Cls) (listed : Array Bool) (i : Nat) (L : List Nat) : Bool :=
 match ops[i]? with
 | none => false
 | some oi => ((List.range ops.size).all fun j => j == i || listed.getD j true || L.contains j || match ops[j]? with
   | some oj => oi.apart ops oj && okC oi oj (cl i) (cl j)
   | none => true) && L.all fun j => !listed.getD j true && match ops[j]? with
   | some oj => oj.after.any (fun e => Region.binds md e && (e.on == i || L.contains e.on))
   | none => false
def qye (md : Region.Mode) (ops : Array Oper) (cl : Nat → Cls) : Nat → Nat → Array Bool → Bool
 | 0, _, listed => (Region.ready md ops listed).isEmpty
 | fuel + 1, k, listed => (Region.ready md ops listed).contains k && q2n md ops cl listed k (q8h md ops k) && qye md ops cl fuel (k + 1) (listed.setIfInBounds k true)
theorem qqj {K : ASt → Prop} : ∀ (l : List Oper) (cs : List Cls) (k : Nat) (listed : Array Bool) (s : ASt), (∀ j, l[j]? = ops[k + j]?) → (∀ j c, cs[j]? = some c → cl (k + j) = c) →
  qye md ops cl l.length k listed = true → AOps E ops l cs s K → anyA E md ops cl K l.length listed s
 | [], [], _, _, _, _, _, hB, h => ⟨by simpa [qye] using hB, h⟩
 | o :: l, c :: cs, k, listed, s, hl, hc, hB, h => by
  have h0 : ops[k]? = some o := by simpa using (hl 0).symm
  have hc0 : cl k = c := by simpa using hc 0 c (by simp)
  simp only [List.length_cons, qye, Bool.and_eq_true] at hB;obtain ⟨⟨hr, hf⟩, hB'⟩ := hB;obtain ⟨s', h1, h2⟩ := h;subst hc0;simp only [q2n, h0, Bool.and_eq_true, List.all_eq_true, List.mem_range] at hf;obtain ⟨hf1, hf2⟩ := hf;refine qro h0 (fun j => (q8h md ops k).contains j) (fun j hj => ?_) l.length listed s s' (fun j hj => ?_) (fun j oj hoj hne hun hnD => ?_) (by simpa using hr) h1
   (qqj l cs (k + 1) _ _ (fun j => by have := hl (j + 1); simpa [Nat.add_assoc, Nat.add_comm 1 j] using this)
    (fun j c hj => by have := hc (j + 1) c (by simpa using hj); simpa [Nat.add_assoc, Nat.add_comm 1 j] using this) hB' h2)
  ·have h3 := (hf2 j (List.contains_iff_mem.1 hj)).2
   cases ho : ops[j]? with
   | none => rw [ho] at h3; cases h3
   | some oj =>
    rw [ho] at h3;obtain ⟨e, he, hb⟩ := Array.any_eq_true'.1 h3;simp only [Bool.and_eq_true, Bool.or_eq_true, beq_iff_eq] at hb;exact ⟨oj, rfl, e, he, hb.1, hb.2⟩
  ·have h3 := (hf2 j (List.contains_iff_mem.1 hj)).1
   simpa using h3
  ·have h3 := hf1 j (Array.getElem?_eq_some_iff.1 hoj).1;simp only [Bool.or_eq_true, beq_iff_eq] at h3
   rcases h3 with ((h3 | h3) | h3) | h3
   ·exact absurd h3 hne
   ·rw [hun] at h3; cases h3
   ·rw [h3] at hnD; cases hnD
   ·rw [hoj] at h3
    simpa using h3
 | [], _ :: _, _, _, _, _, _, _, h => h.elim
 | _ :: _, [], _, _, _, _, _, _, h => h.elim
def q2o (ops : Array Oper) (cs : List Cls) : Bool := qye .any ops (fun i => cs.getD i .k) ops.size 0 (Array.replicate ops.size false)
theorem q0p {id : Nat} {ops : Array Oper} {Q : Exit → ASt → Prop} {s : ASt} (cs : List Cls) (hB : q2o ops cs = true) (h : AOps E ops ops.toList cs s (Q .normal)) : AWp E w0 M0 (.region id ops true) Q s := by
 intro a w ha;refine wpIn_region_any E.orders ?_;have h1 := qqj (md := .any) (cl := fun i => cs.getD i .k) ops.toList cs 0 (Array.replicate ops.size false) s (by simp) (fun j c hj => by simp [hj]) (by simpa [q2o] using hB) h;have h2 := anyA.sound (w0 := w0) (M0 := M0) (Q := Q) _ _ s h1 a _ ha.draw
 simpa using h2
end
theorem q76 {α : Type} {c c' : Bool} {a b r : α} (h : (bif c then a else b) = r) (h1 : c' = true) (e : c' = c := by simp) : a = r := by subst e; rw [h1] at h; exact h
section
variable {E : Env} {w0 : World} {M0 : Nat → Prop}
theorem qs3 {o : Oper} {ev : Operand → TV} {x : Operand} (k : Nat) (ho : o.op = .assign x) (h : ev x = .g (.lit (.slice none 0 0))) (mem : Mem) : Eff E o mem ev (.g (.sl k [])) :=
 jd (fun w M ρ e hx => ⟨e x, by simp [execOp, ho], by
  have h1 := hx x (by rw [ho]; simp [Op.operands]);rw [h] at h1;have h2 : e x = .slice none 0 0 := h1;rw [h2]
  exact qki k w M⟩) mem
end
section
variable {E : Env}
theorem qy1 {o : Oper} {ev : Operand → TV} {t el : TypeId} {x ix : Operand} {k N id p : Nat} {b : Bool} {kk : IntKind} {n : Int} (ho : o.op = .indexAddr t x ix) (ht : E.P.underlying t = some (.array N el)) (he : tyK E.P el = some (k + 1, b))
  (hx : ev x = .ptr id p) (hi : ev ix = .g (.lit (.int kk n))) (h0 : 0 ≤ n) (hn : n < (N : Int)) (mem : Mem) : Eff E o mem ev (.ptr id (p + n.toNat * (k + 1))) :=
 jd (fun w M ρ e hev => by
  have h1 := hev x (by rw [ho]; simp [Op.operands]);rw [hx] at h1;have h2 := hev ix (by rw [ho]; simp [Op.operands]);rw [hi] at h2;have h2' : e ix = .int kk n := h2;obtain ⟨ow, h3, h4⟩ := h1;refine ⟨.pointer (some ⟨ow.b, ow.o + p + n.toNat * (k + 1), none⟩), ?_, ow, h3, by rw [Nat.add_assoc]⟩
  simp [execOp, ho, h4, h2', Instr.indexAt, asIntOf, underlying, ht, Instr.sureAddr, jq he, h0, hn, Addr.add_lit]) mem
theorem qv6 {o : Oper} {ev : Operand → TV} {t el : TypeId} {x ix : Operand} {N : Nat} {kk : IntKind} {n : Int} {cs : List G} {c : G} (ho : o.op = .index t x ix) (ht : E.P.underlying t = some (.array N el)) (he : tyK E.P el = some (1, false))
  (hx : ev x = .g (.agg cs)) (hi : ev ix = .g (.lit (.int kk n))) (h0 : 0 ≤ n) (hn : n < (N : Int)) (hc : cs[n.toNat]? = some c) (mem : Mem) : Eff E o mem ev (.g c) :=
 jd (fun w M ρ e he' => by
  have h1 := he' x (by rw [ho]; simp [Op.operands]);rw [hx] at h1;have h9 := he' ix (by rw [ho]; simp [Op.operands]);rw [hi] at h9;have h9' : e ix = .int kk n := h9;obtain ⟨vs, h2, h3⟩ := h1;obtain ⟨v, h4, h5, _⟩ := Fits.get n.toNat h3 hc;refine ⟨v, ?_, h5⟩
  simp [execOp, ho, h2, h9', Instr.index, underlying, ht, asIntOf, part, qd8 he, jq he, h0, hn, h4]) mem
theorem qci {o : Oper} {ev : Operand → TV} {t el : TypeId} {N k : Nat} {b : Bool} {ps : Array (Nat × Operand)} {qs : List (Nat × List G)} {zs : List Value} {out : List G} (ho : o.op = .build t ps)
  (hz : vq E.P t = some zs) (hz1 : zs.all Value.oneCell' = true) (ht : E.P.underlying t = some (.array N el)) (hel : tyK E.P el = some (k, b)) (hq : qdk ev ps.toList qs) (hf : qll (fun i => some (i * k, k)) (zs.map G.lit) qs = some out) (mem : Mem) : Eff E o mem ev (.g (.agg out)) :=
 jd (fun w M ρ e he => by
  obtain ⟨ie, hie, hsz⟩ : ∃ ie, E.P.info? el = some ie ∧ ie.size = k := by
   unfold tyK at hel
   cases h : E.P.info? el with
   | none => simp [h] at hel
   | some ie =>
    cases hd : E.P.underlying el with
    | none => simp [h, hd] at hel
    | some d => simp [h, hd] at hel; exact ⟨ie, rfl, hel.1⟩
  unfold vq at hz
  cases hi : E.P.info? t with
  | none => simp [hi] at hz
  | some it =>
   cases hzz : it.zero with
   | none => simp [hi, hzz] at hz
   | some z =>
    simp [hi, hzz] at hz
    have hlits : Fits w M (zs.map G.lit) z.cells.toList := by rw [hz]; exact qcp (by simpa using hz1)
    have hx : ∀ p ∈ ps.toList, TRel w M ρ (ev p.2) (e p.2) := fun p hp => he p.2 (by rw [ho]; simp [Op.operands]; exact ⟨p.1, by simpa using hp⟩);obtain ⟨vout, h1, h2⟩ := qdl (vcells := z.cells) hq hx hlits hf;refine ⟨.agg vout, ?_, vout.toList, by simp, h2⟩
    have hb : E.P.built t (ps.map fun (i, x) => (i, e x)).toList = some vout := by
     unfold Program.built;simp only [hi, ht, hzz, hie, hsz];rw [Array.toList_map];exact h1
    have := run_build (P := E.P) w t (ps.map fun (i, x) => (i, e x)) vout hb;simp only [execOp, ho];rw [Sem.run_bind, this]
    rfl) mem
end
section
variable {E : Env} {ops : Array Oper} {o : Oper} {os : List Oper} {cs : List Cls} {s : ASt} {r : TV} {K : ASt → Prop}
theorem q3e {d i : Nat} {b : Blk} (hd : o.dst = some d) (hg : o.guard = none) (hb : qq s.mem i = some b) (he : ∀ m, qq m i = some b → Eff E o m (s.eval E) r) (hn : Nat.blt d s.n = true) (hk : AOps E ops os cs (s.put (some d) r) K) : AOps E ops (o :: os) (.rq i :: cs) s K :=
 ⟨s.put (some d) r, ⟨fun d' h => by rw [hd] at h; cases h; exact Nat.le_of_ble_eq_true hn, true, r, s.mem, none, by unfold kw; rw [hg], fun _ => ⟨rfl, rfl, b, hb, he⟩, (by intro h; cases h), by rw [hd]; rfl⟩, hk⟩
end
section
variable {E : Env} {w0 : World} {M0 : Nat → Prop}
theorem MFits.get {w : World} {M : Nat → Prop} : ∀ {es : List (Value × G)} {l : List MapEntry} {j : Nat} {e : MapEntry}, MFits w M es l → l[j]? = some e → ∃ k g, es[j]? = some (k, g) ∧ e.key = k ∧ g.p w M e.val
 | [], [], _, _, _, h => by simp at h
 | (k, g) :: _, e' :: _, 0, e, h, he => by
  simp at he; subst he
  exact ⟨k, g, rfl, h.1.1, h.1.2⟩
 | _ :: _, _ :: _, j + 1, e, h, he => by
  obtain ⟨k, g, h1, h2⟩ := MFits.get h.2 (by simpa using he);exact ⟨k, g, by simpa using h1, h2⟩
 | [], _ :: _, _, _, h, _ => h.elim
 | _ :: _, [], _, _, h, _ => h.elim
theorem MFits.length {w : World} {M : Nat → Prop} : ∀ {es : List (Value × G)} {l : List MapEntry}, MFits w M es l → l.length = es.length
 | [], [], _ => rfl
 | (_, _) :: _, _ :: _, h => by simp [MFits.length h.2]
 | [], _ :: _, h => h.elim
 | _ :: _, [], h => h.elim
theorem q8i {s : ASt} {t id : Nat} {es : List (Value × G)} (h : s.get t = .omap id) (hb : qq s.mem id = some (.mp es)) (hbw : qq E.bow id = none := by rfl) (hst : wn E = true := by rfl) : RVal E s (.tmp t) (G.mpf es) := by
 intro w0 M0 ρ w tmps hm ht;have h1 := ht t;rw [h] at h1;obtain ⟨ow, en, cl, g1, g2, g3, g4, g5⟩ := qkl hm hb h1;have hsub := qn3 (M0 := M0) hm (tv := .g (G.bool true)) rfl;exact ⟨tmps.getD t undef, rfl, ⟨ow.b, en, cl, g2, qbe hm g1 hbw hst, g3, g4.mono (fun _ _ _ => rfl) (fun b _ => hsub.sub b), g5⟩, fun _ _ => rfl⟩
end
section
variable {α : Type}
def MOrd (m : List α) (sn : List Nat) (l : List α) : Prop := sn.Nodup ∧ l.map some = sn.reverse.map (fun j => m[j]?)
theorem MOrd.lt {m : List α} {sn : List Nat} {l : List α} (h : MOrd m sn l) {j : Nat} (hj : j ∈ sn) : j < m.length := by
 have h1 : m[j]? ∈ sn.reverse.map (fun j => m[j]?) := List.mem_map.2 ⟨j, List.mem_reverse.2 hj, rfl⟩;rw [← h.2] at h1;obtain ⟨x, _, hx⟩ := List.mem_map.1 h1;exact (List.getElem?_eq_some_iff.1 hx.symm).1
theorem qg8 {α : Type} [DecidableEq α] : ∀ {a b : List α}, a.Nodup → (∀ x ∈ a, x ∈ b) → a.length ≤ b.length
 | [], _, _, _ => Nat.zero_le _
 | x :: a, b, hn, hs => by
  obtain ⟨h1, h2⟩ := List.nodup_cons.1 hn;have hx := hs x List.mem_cons_self;have := qg8 (b := b.erase x) h2 fun y hy => (List.mem_erase_of_ne (fun e => h1 (by rw [← e]; exact hy))).2 (hs y (List.mem_cons_of_mem _ hy));rw [List.length_erase_of_mem hx] at this;have : 0 < b.length := List.length_pos_of_mem hx
  simp; omega
theorem MOrd.len {m : List α} {sn : List Nat} {l : List α} (h : MOrd m sn l) : l.length ≤ m.length := by
 have h1 : l.length = sn.length := by have := congrArg List.length h.2; simpa using this
 have := qg8 h.1 (b := List.range m.length) fun x hx => List.mem_range.2 (h.lt hx)
 simp at this
 omega
end
section
variable {E : Env} {w0 : World} {M0 : Nat → Prop}
theorem TFits.forget {w : World} {M : Nat → Prop} {ρ : Rho} : ∀ {cs : List TV} {vs : List Value} (p : Nat), TFits w M ρ cs vs → TFits w M ρ (cs.set p .any) vs
 | [], [], _, _ => trivial
 | _ :: _, _ :: _, 0, h => ⟨⟨trivial, h.1.2⟩, h.2⟩
 | _ :: _, _ :: _, p + 1, h => ⟨h.1, TFits.forget p h.2⟩
 | [], _ :: _, _, h => h.elim
 | _ :: _, [], _, h => h.elim
theorem TFits.give {w : World} {M : Nat → Prop} {ρ : Rho} {tv : TV} {v : Value} (ht : TRel w M ρ tv v) : ∀ {cs : List TV} {vs : List Value} (p : Nat), TFits w M ρ cs vs → vs[p]? = some v → TFits w M ρ (cs.set p tv) vs
 | [], [], _, _, _ => trivial
 | _ :: _, u :: _, 0, h, hv => by simp at hv; subst hv; exact ⟨⟨ht, h.1.2⟩, h.2⟩
 | _ :: _, _ :: _, p + 1, h, hv => ⟨h.1, TFits.give ht p h.2 (by simpa using hv)⟩
 | [], _ :: _, _, h, _ => h.elim
 | _ :: _, [], _, h, _ => h.elim
theorem qjt {ρ : Rho} {id : Nat} {ow : Own} (h : ρ id = some (some ow)) : jh ρ id (some ow) = ρ := by
 funext i
 by_cases hi : i = id
 ·subst hi; rw [qy]; exact h.symm
 ·simp [jh, hi]
theorem qqk {a : Act} {w : World} {s : ASt} {b p id k : Nat} {e : TypeId} {cs : List TV} (ha : ARel E w0 M0 s a w) (hb : qq s.mem b = some (.box cs)) (hc : cs[p]? = some (.g (.lit (.slice none 0 0)))) (hf : qq s.mem id = none) (hne : Nat.beq id b = false) :
  ARel E w0 M0 ⟨s.n, s.tmps, (b, .box (cs.set p (.osl id k 0 0))) :: (id, .arr e k []) :: s.mem⟩ a w := by
 obtain ⟨ρ, hm, hmk, ht⟩ := ha.ex;have hr := qbu hm hf;obtain ⟨m1, m2⟩ := j9 (id := id) (x := none) (blk' := .arr e k []) none hm ⟨rfl, rfl, rfl, Nat.le_refl _, fun _ _ _ => rfl⟩ (fun o ho => by cases ho) (.inr ⟨rfl, .inl hr⟩) (fun _ b _ _ => z4 b) (.inl rfl) (.inl ⟨qy _ _ _, rfl⟩)
 have hb' : qq ((id, Blk.arr e k []) :: s.mem) b = some (.box cs) := by simp only [qq, hne]; exact hb
 obtain ⟨ow, ty, vs, g1, g2, g3, g4⟩ := m1.blk b _ hb';obtain ⟨v, h4, h5, _⟩ := TFits.get p g4 hc;have hv : v = .slice none 0 0 := h5;subst hv;obtain ⟨n1, n2⟩ := j9 (id := b) (x := some ow) (blk' := .box (cs.set p (.osl id k 0 0))) none m1 ⟨rfl, rfl, rfl, Nat.le_refl _, fun _ _ _ => rfl⟩ (fun o ho => by cases ho; exact ⟨.inr ⟨ow, g1, rfl⟩, (m1.fresh b ow g1).2⟩) (.inr ⟨rfl, .inr g1⟩) (fun _ b _ _ => z4 b) (.inl rfl)
  ⟨ow, ty, vs, qy _ _ _, g2, g3, by rw [qjt g1]; exact TFits.give (show TRel w (qz M0 (jh ρ id none)) (jh ρ id none) (.osl id k 0 0) (.slice none 0 0) from Or.inl ⟨qy _ _ _, rfl, rfl, rfl⟩) p g4 h4⟩
 exact ⟨ha.defers, ha.size, _, n1, ⟨hmk.1, fun d hd => by
  obtain ⟨D, q1, q2, q3⟩ := hmk.2 d hd
  exact ⟨D, q1, q2, n2 (.g (G.mark D)) undef rfl (m2 (.g (G.mark D)) undef rfl q3)⟩⟩, fun i => n2 _ _ (by cases s.get i <;> rfl) (m2 _ _ (by cases s.get i <;> rfl) (ht i))⟩
theorem qey {c : Code} {Q : Exit → ASt → Prop} {s : ASt} (b p id k : Nat) (e : TypeId) {cs : List TV} (hb : qq s.mem b = some (.box cs)) (hc : cs[p]? = some (.g (.lit (.slice none 0 0)))) (hf : qq s.mem id = none) (hne : Nat.beq id b = false)
  (h : AWp E w0 M0 c Q ⟨s.n, s.tmps, (b, .box (cs.set p (.osl id k 0 0))) :: (id, .arr e k []) :: s.mem⟩) : AWp E w0 M0 c Q s := fun a w ha => h a w (qqk ha hb hc hf hne)
end
section
variable {E : Env} {ops : Array Oper} {o : Oper} {os : List Oper} {cs : List Cls} {s : ASt} {r : TV} {K : ASt → Prop}
theorem q3f {d i : Nat} {blk : Blk} (hd : o.dst = some d) (hg : o.guard = none) (he : ∀ m, qq m i = qq s.mem i → EffW E o m (s.eval E) r ((i, blk) :: m) none) (hn : Nat.blt d s.n = true) (hk : AOps E ops os cs ⟨s.n, upd d r s.tmps, (i, blk) :: s.mem⟩ K) : AOps E ops (o :: os) (.wq i :: cs) s K :=
 ⟨⟨s.n, upd d r s.tmps, (i, blk) :: s.mem⟩, ⟨fun d' h => by rw [hd] at h; cases h; exact Nat.le_of_ble_eq_true hn, true, r, (i, blk) :: s.mem, none, by unfold kw; rw [hg], fun _ => ⟨rfl, blk, fun _ => rfl, he⟩, (by intro h; cases h), by rw [hd]; rfl⟩, hk⟩
theorem qry {i : Nat} {blk : Blk} (hd : o.dst = none) (hg : o.guard = none) (he : ∀ m, qq m i = qq s.mem i → EffW E o m (s.eval E) r ((i, blk) :: m) none) (hk : AOps E ops os cs ⟨s.n, s.tmps, (i, blk) :: s.mem⟩ K) : AOps E ops (o :: os) (.wq i :: cs) s K :=
 ⟨⟨s.n, s.tmps, (i, blk) :: s.mem⟩, ⟨(fun d' h => by rw [hd] at h; cases h), true, r, (i, blk) :: s.mem, none, by unfold kw; rw [hg], fun _ => ⟨rfl, blk, fun _ => rfl, he⟩, (by intro h; cases h), by rw [hd]; rfl⟩, hk⟩
end
section
variable {E : Env} {w0 : World} {M0 : Nat → Prop}
def MemF (s : ASt) (b : Nat) (blk : Blk) : Mem → Prop
 | [] => True
 | (i, B) :: r => (bif Nat.beq i b then B = blk else qq s.mem i = some B) ∧ MemF s b blk r
theorem qql {s : ASt} {b : Nat} {blk : Blk} : ∀ {m : Mem}, MemF s b blk m → ∀ i B, qq m i = some B → (i = b ∧ B = blk) ∨ (i ≠ b ∧ qq s.mem i = some B)
 | [], _, _, _, h => by cases h
 | (j, B') :: r, hm, i, B, h => by
  simp only [qq] at h
  cases hj : Nat.beq j i with
  | true =>
   rw [hj] at h;have hji := Nat.eq_of_beq_eq_true hj;subst hji;simp only [cond_true, Option.some.injEq] at h;subst h;have h1 := hm.1
   cases hb : Nat.beq j b with
   | true => rw [hb] at h1; exact .inl ⟨Nat.eq_of_beq_eq_true hb, h1⟩
   | false =>
    rw [hb] at h1;exact .inr ⟨fun e => by subst e; simp at hb, h1⟩
  | false => rw [hj] at h; exact qql hm.2 i B h
theorem qds {c : Code} {Q : Exit → ASt → Prop} {s : ASt} (b p id k N : Nat) {e : TypeId} {cs : List TV} {xs : List (List G)} {l : List (Nat × TV)} {m : Mem} (hb : qq s.mem b = some (.box cs)) (hc : cs[p]? = some (.osl id k 0 N)) (hx : qq s.mem id = some (.arr e k xs)) (hN : xs.length = N)
  (h1 : qir s l) (h2 : MemF s b (.box (cs.set p (.g (.sl k xs)))) m) (h3 : wa l m = true) (hid : qq m id = none)
  (h : AWp E w0 M0 c Q (stt s.n l m)) (hbw : qkc E m = true := by rfl) (hst : wn E = true := by rfl) : AWp E w0 M0 c Q s := by
 intro a w ha;refine h a w ?_;obtain ⟨ρ, hm, hmk, ht⟩ := ha.ex
 let ρ' : Rho := fun id => if (qq m id).isSome = true then ρ id else none
 have hρ : ∀ id, (qq m id).isSome = true → ρ' id = ρ id := fun id hi => by simp only [ρ', if_pos hi]
 have hρ' : ∀ id x, ρ' id = some x → ρ id = some x ∧ (qq m id).isSome = true := by
  intro id x hx;simp only [ρ'] at hx
  split at hx
  ·rename_i hi; exact ⟨hx, hi⟩
  ·cases hx
 have hM : ∀ b, qz M0 ρ' b → qz M0 ρ b := by
  rintro b (hb | ⟨id, o, ho, rfl⟩)
  ·exact .inl hb
  ·exact .inr ⟨id, o, (hρ' id _ ho).1, rfl⟩
 have hlent : qq E.bow id = none := by
  cases hq : qq E.bow id with
  | none => rfl
  | some x =>
   have := List.all_eq_true.1 hbw (id, x) (ji _ hq);simp only [hid] at this
   cases this
 have hno : ∀ ow, ρ id = some (some ow) → ¬ qz M0 ρ' ow.b := by
  rintro ow ho (hM0 | ⟨i, o, hi, he⟩)
  ·exact qbe hm ho hlent hst (.inl hM0)
  ·have := hm.inj i id o ow (hρ' i _ hi).1 ho he;subst this;have := (hρ' i _ hi).2;rw [hid] at this; cases this
 simp only [wa, Bool.and_eq_true, List.all_eq_true] at h3;refine ⟨ha.defers, ha.size, ρ', ⟨hm.below, hm.m0, ?_, ?_, ?_, ?_, ?_, hm.lentM, ?_⟩, hmk.sub hM, ?_⟩
 ·intro g vs hg;have := hm.glob g vs hg;exact ⟨⟨fun hb => this.1.1 (hM _ hb), this.1.2⟩, this.2.mono (fun _ _ _ => rfl) (fun b _ => hM b) this.1.1⟩
 ·intro id x hx;have := (hρ' id x hx).2
  cases hl : qq m id with
  | none => rw [hl] at this; cases this
  | some b => exact ⟨b, hl⟩
 ·exact fun id ow ho => hm.fresh id ow (hρ' id _ ho).1
 ·exact fun id id' ow ow' ho ho' => hm.inj id id' ow ow' (hρ' id _ ho).1 (hρ' id' _ ho').1
 ·intro id x hx;rw [hρ id (List.all_eq_true.1 hbw (id, x) (ji _ hx))];exact hm.keep id x hx
 ·intro i blk' hb0;have hb0 : qq m i = some blk' := hb0
  have hi : (qq m i).isSome = true := by rw [hb0]; rfl
  rcases qql h2 i blk' hb0 with ⟨rfl, rfl⟩ | ⟨_, hold⟩
  ·obtain ⟨ow, ty, vs, g1, g2, g3, g4⟩ := hm.blk i _ hb;have hcl := h3.2 (i, .box (cs.set p (.g (.sl k xs)))) (ji _ hb0);obtain ⟨v, h4, h5, _⟩ := TFits.get p g4 hc;have hview := qjs hm hx h5 (Nat.zero_le _) (by rw [hN]; exact Nat.le_refl _);obtain ⟨a', cap, e1, k1, k2, k3, k4, k5, k6⟩ := hview;subst hN;simp only [Nat.sub_zero, List.drop_zero, List.take_length] at e1 k1 k4 k5 k6
   have hv : TRel w (qz M0 ρ') ρ (.g (.sl k xs)) v := by
    refine ⟨a', cap, e1, k1, k2, k5, ?_⟩
    rcases k6 with k6 | ⟨b', o, cur, news, rfl, ⟨ow2, q0, rfl⟩, q1, q2, q3⟩
    ·have : xs = [] := List.eq_nil_of_length_eq_zero k6;subst this;exact .inl ⟨rfl, fun ha => (k3 ha).1⟩
    ·exact .inr ⟨ow2.b, o, rfl, hno ow2 q0, jx q1 (q2.mono (fun _ _ _ => rfl) (fun b _ => hM b)) q3⟩
   refine ⟨ow, ty, vs, by rw [hρ i hi]; exact g1, g2, g3, ?_⟩;have hf : TFits w (qz M0 ρ) ρ (cs.set p .any) vs := TFits.forget p g4
   have hf' : TFits w (qz M0 ρ') ρ' (cs.set p .any) vs := hf.sub (m := m) hM hρ fun c hc' => by
    have hall : ∀ c ∈ cs.set p (.g (.sl k xs)), qo5 m c = true := by simpa [qnl] using hcl
    rcases List.mem_or_eq_of_mem_set hc' with h | rfl
    ·obtain ⟨j, hj⟩ := List.mem_iff_getElem?.1 hc'
     by_cases hjp : p = j
     ·subst hjp;have hlt : p < cs.length := (List.getElem?_eq_some_iff.1 hc).1;rw [List.getElem?_set_self hlt] at hj
      cases hj; rfl
     ·rw [List.getElem?_set_ne hjp] at hj;exact hall c (List.mem_iff_getElem?.2 ⟨j, by rw [List.getElem?_set_ne hjp]; exact hj⟩)
    ·rfl
   have := TFits.give (tv := .g (.sl k xs)) (ρ := ρ') (show TRel w (qz M0 ρ') ρ' (.g (.sl k xs)) v from hv) p hf' h4
   rwa [List.set_set] at this
  ·have := hm.blk i blk' hold
   cases blk' with
   | box cs =>
    obtain ⟨ow, e, vs, g1, g2, g3, g4⟩ := this;have hcl := h3.2 (i, .box cs) (ji _ hb0);exact ⟨ow, e, vs, by rw [hρ i hi]; exact g1, g2, g3, g4.sub hM hρ (by simpa [qnl] using hcl)⟩
   | arr e k xs =>
    rcases this with ⟨g1, g2⟩ | ⟨ow, vs, g1, g2, g3, g4, g5, g6, g7⟩
    ·exact .inl ⟨by rw [hρ i hi]; exact g1, g2⟩
    ·exact .inr ⟨ow, vs, by rw [hρ i hi]; exact g1, g2, g3, g4, g5, g6, g7.mono (fun _ _ _ => rfl) (fun b _ => hM b)⟩
   | mp es =>
    obtain ⟨ow, en, cl, g1, g2, g3, g4⟩ := this;exact ⟨ow, en, cl, by rw [hρ i hi]; exact g1, g2, g3.mono (fun _ _ _ => rfl) (fun b _ => hM b), g4⟩
   | obj o =>
    obtain ⟨ow, g1, g2, g3⟩ := this;exact ⟨ow, by rw [hρ i hi]; exact g1, g2, g3⟩
   | mit es seen =>
    obtain ⟨ow, g1, g2, g3⟩ := this;exact ⟨ow, by rw [hρ i hi]; exact g1, g2, g3.mono rfl (fun _ _ _ => rfl) (fun b _ => hM b)⟩
   | gone => trivial
 ·intro i;show TRel _ _ _ (xh l i) _
  rcases qkb h1 i with h4 | ⟨h4, v, h5, h6⟩
  ·rw [h4]; trivial
  ·rw [h4];refine (ht i).sub (m := m) ?_ hM hρ;rw [← h4, h6];exact h3.1 (i, v) h5
end
section
variable {E : Env}
def GSub (x y : G) : Prop := ∀ w M v, x.p w M v → y.p w M v
def q5h : List G → List G → Prop
 | [], [] => True
 | x :: xs, y :: ys => GSub x y ∧ q5h xs ys
 | _, _ => False
theorem xy (x : G) : GSub x x := fun _ _ _ h => h
theorem qaw (k : Nat) : GSub (.lit (.slice none 0 0)) (.sl k []) := fun w M v h => by
 have h : v = .slice none 0 0 := h;subst h;exact qki k w M
theorem qqm {w : World} {M : Nat → Prop} : ∀ {xs ys : List G} {vs : List Value}, q5h xs ys → Fits w M xs vs → Fits w M ys vs
 | [], [], [], _, _ => trivial
 | _ :: _, _ :: _, _ :: _, h, k => ⟨⟨h.1 _ _ _ k.1.1, k.1.2⟩, qqm h.2 k.2⟩
 | [], [], _ :: _, _, k => k.elim
 | _ :: _, _ :: _, [], _, k => k.elim
 | [], _ :: _, _, h, _ => h.elim
 | _ :: _, [], _, h, _ => h.elim
theorem qfy {xs ys : List G} (h : q5h xs ys) : GSub (.agg xs) (.agg ys) := fun w M v ⟨vs, h1, h2⟩ => ⟨vs, h1, qqm h h2⟩
theorem q1x {s : ASt} {rv : ResultVar} {x y : G} (h : RVal E s rv x) (hs : GSub x y) : RVal E s rv y := by
 intro w0 M0 ρ w tmps hm ht;obtain ⟨v, h1, h2, h3⟩ := h w0 M0 ρ w tmps hm ht;exact ⟨v, h1, hs _ _ _ h2, h3⟩
end
theorem qq5 {id : Nat} {mem : Mem} (h : (mem.all fun p => Nat.beq p.1 id || (match qq mem p.1 with | some b => b.noref (some id) | none => true)) = true) : ∀ i blk, qq mem i = some blk → i ≠ id → blk.noref (some id) = true := by
 intro i blk hb hne;have := List.all_eq_true.1 h (i, blk) (ji _ hb);simp only [Bool.or_eq_true, hb] at this
 rcases this with h1 | h1
 ·exact absurd (Nat.eq_of_beq_eq_true h1) hne
 ·exact h1
end Go.Sim
namespace Go.Proofs
open Go.RowKit Go.Shelf
attribute [local go_sem] Oper.semAt_some
theorem q2p (d : Int) (h0 : 0 ≤ d) (h1 : d ≤ 1000000) (w : World) : Calls Tryz.prog 190 #[.int .i64 d] w fun e w' => e = .returned (.int .i64 ((d + 5) % 7)) ∧ w' = w := by
 go_enter Tryz.func190, Tryz.ntmps190
 go_wp2
 go_ret
 exact ⟨rfl, rfl⟩
theorem q05 (a b : Int) : bits BinOp.and IntKind.i64 a b = Sim.andI a b := rfl
theorem q8j (m d : Int) (h0 : 0 ≤ d) (h1 : d ≤ 6) : m / 2 ^ d.toNat = Sim.shrI m d := by
 unfold Sim.shrI;rw [Nat.min_eq_left (by omega), Int.fdiv_eq_ediv_of_nonneg _ (by exact Int.le_of_lt (Int.pow_pos (by decide)))]
theorem q2q (m d : Int) (h0 : 0 ≤ d) (h1 : d ≤ 6) (w : World) : Calls Tryz.prog 189 #[.int .i64 m, .int .i64 d] w fun e w' => e = .returned (.bool (decide (Sim.andI (Sim.shrI m d) 1 = 1))) ∧ w' = w := by
 go_enter Tryz.func189, Tryz.ntmps189
 go_wp2
 go_ret
 refine ⟨?_, rfl⟩;rw [q05, q8j m d h0 h1];rw [show (Sim.andI (Sim.shrI m d) 1 == 1) = decide (Sim.andI (Sim.shrI m d) 1 = 1) by rw [Bool.eq_iff_iff]; simp]
 rfl
def inM (m d : Int) : Bool := decide (Sim.andI (Sim.shrI m ((d + 5) % 7)) 1 = 1)
def dayL (m : Int) : Nat → Int → List Int
 | 0, _ => []
 | n + 1, d => if inM m d = true then d :: dayL m n (d + 1) else dayL m n (d + 1)
theorem im_T (m d : Int) (hm : inM m d = true) (h0 : 0 ≤ d) (h1 : d ≤ 1000000) (w : World) : Calls Tryz.prog 189 #[.int .i64 m, .int .i64 ((d + 5) % 7)] w fun e w' => e = .returned (.bool true) ∧ w' = w :=
 (q2q m ((d + 5) % 7) (by omega) (by omega) w).mono fun e w' ⟨h, k⟩ => ⟨by rw [h]; unfold inM at hm; rw [hm], k⟩
theorem im_F (m d : Int) (hm : inM m d = false) (h0 : 0 ≤ d) (h1 : d ≤ 1000000) (w : World) : Calls Tryz.prog 189 #[.int .i64 m, .int .i64 ((d + 5) % 7)] w fun e w' => e = .returned (.bool false) ∧ w' = w :=
 (q2q m ((d + 5) % 7) (by omega) (by omega) w).mono fun e w' ⟨h, k⟩ => ⟨by rw [h]; unfold inM at hm; rw [hm], k⟩
set_option maxRecDepth 100000 in
set_option maxHeartbeats 1000000 in
theorem q06 (F : Fence) (n : Nat) (h6 : F.fn 193) (h7 : F.fn 189) (h8 : F.fn 190) (hro : F.round = none) (hw : F = Fence.wide) (hn : 2 ≤ n) (l b o n₀ : Nat) (hb : b < n₀) (f t m : Int) (hf : 0 ≤ f) (ht : t ≤ 1000000) (J Jx : List Int → World → Prop) (hJd : ∀ pre W k, J pre W → J pre (W.drewN k))
  (hY : ∀ pre x W, J pre W → pre.length < (dayL m (t + 1 - f).toNat f).length → YieldAt F (n - 1) Tryz.prog l #[.int .i64 x] W fun e W' =>
   (e = .returned (.bool true) ∧ J (pre ++ [x]) W' ∧ Below n₀ W W') ∨ (e = .returned (.bool false) ∧ Jx (pre ++ [x]) W'))
  (W : World) (c0 : W.cell? ⟨b, o, none⟩ = some (.int .i64 f)) (c1 : W.cell? ⟨b, o + 1, none⟩ = some (.int .i64 t)) (c2 : W.cell? ⟨b, o + 2, none⟩ = some (.int .i64 m)) (h0 : J [] W) :
  CallsIn F n Tryz.prog 193 #[.func (.yield l) #[] #[], .pointer (some ⟨b, o, none⟩)] W fun e W' => (∃ v, e = .returned v) ∧
   ((∃ ys, ys = dayL m (t + 1 - f).toNat f ∧ J ys W') ∨ (∃ pre, pre <+: dayL m (t + 1 - f).toNat f ∧ Jx pre W')) := by
 refine callsIn_of_wp Tryz.func193 rfl h6 ?_ hro;simp only [Tryz.ntmps193, List.size_toArray, List.length_cons, List.length_nil, Nat.reduceAdd, Nat.reduceSub, Array.replicate_succ, Array.replicate_zero, List.push_toArray, List.append_toArray, List.nil_append, List.cons_append];subst hw
 gi_wp2
 gi_loopw [3] (fun p wr => ∃ (pre : List Int) (d : Int), p = .int .i64 d ∧ f ≤ d ∧ (d ≤ t + 1 ∨ d = f) ∧ dayL m (t + 1 - f).toNat f = pre ++ dayL m (t + 1 - d).toNat d ∧ wr.cell? ⟨b, o + 1, none⟩ = some (.int .i64 t) ∧ wr.cell? ⟨b, o + 2, none⟩ = some (.int .i64 m) ∧ J pre wr)
  (fun p _ => (t + 1 - intOf p).toNat)
 case atStart => exact ⟨[], f, rfl, Int.le_refl _, .inr rfl, rfl, c1, c2, h0⟩
 case round =>
  clear c0 c1 c2 h0;obtain ⟨pre, d, rfl, hd1, hd2, hx, c1, c2, hJs⟩ := hrel
  by_cases hlt : d ≤ t
  ·have hs : dayL m (t + 1 - d).toNat d = if inM m d = true then d :: dayL m (t + 1 - (d + 1)).toNat (d + 1) else dayL m (t + 1 - (d + 1)).toNat (d + 1) := by
    obtain ⟨k, hk⟩ : ∃ k, (t + 1 - d).toNat = k + 1 := ⟨(t - d).toNat, by omega⟩;rw [hk, dayL, show (t + 1 - (d + 1)).toNat = k by omega]
   by_cases hm : inM m d = true
   ·obtain ⟨fn, tmps, assign, body, hy, hR'⟩ := YieldAt.mono (hY pre d wr.drew (hJd _ _ 1 hJs) (by rw [hx, hs, if_pos hm]; simp)) (R' := fun e W' => ∃ bb : Bool, e = .returned (.bool bb) ∧ ((bb = true → J (pre ++ [d]) W' ∧ Below n₀ wr.drew W') ∧ (bb = false → Jx (pre ++ [d]) W'))) (by
     rintro e W' (⟨rfl, k1, k2⟩ | ⟨rfl, k1⟩)
     ·exact ⟨true, rfl, (fun _ => ⟨k1, k2⟩), (fun h => (by cases h))⟩
     ·exact ⟨false, rfl, (fun h => (by cases h)), (fun _ => k1)⟩)
    have X1 := Lib.hid hx; clear hx;have X2 := Lib.hid hs; clear hs
    gi_wp2
    gi_region_with (first | (refine ⟨fun h => (by cases h), ?_⟩; gi_at_call 190; refine (callsIn_wide.2 (q2p _ (by omega) (by omega) _)).mono ?_; rintro e w' ⟨rfl, rfl⟩) | (refine ⟨fun h => (by cases h), ?_⟩; gi_at_call 189; refine (callsIn_wide.2 (im_T _ _ hm (by omega) (by omega) _)).mono ?_; rintro e w' ⟨rfl, rfl⟩) | (refine ⟨fun h => (by cases h), ?_⟩; refine hR'.mono ?_; rintro e W' ⟨bb, rfl, hT, hF⟩))
    all_goals
     cases bb with
     | true =>
      obtain ⟨hJ3, hk3⟩ := hT rfl;clear hT hF;have e1 : W'.cell? ⟨b, o + 1, none⟩ = some (.int .i64 t) := (hk3.cell (p := ⟨b, o + 1, none⟩) hb).trans c1;have e2 : W'.cell? ⟨b, o + 2, none⟩ = some (.int .i64 m) := (hk3.cell (p := ⟨b, o + 2, none⟩) hb).trans c2
      go_simp
      gi_wp2
      go_roundw
      case rel => exact ⟨pre ++ [d], d + 1, rfl, by omega, by omega, by rw [X1.out, X2.out, if_pos hm]; simp, e1, e2, hJ3⟩
      case measure => simp [intOf]; omega
     | false =>
      have hX := hF rfl;clear hT hF
      go_simp
      gi_wp2
      refine bodyPost_ret (results_none rfl _ _ _) rfl ?_;exact ⟨⟨_, rfl⟩, .inr ⟨pre ++ [d], ⟨dayL m (t + 1 - (d + 1)).toNat (d + 1), by rw [X1.out, X2.out, if_pos hm]; simp⟩, hX⟩⟩
   ·have hm' : inM m d = false := by simpa using hm
    have X1 := Lib.hid hx; clear hx;have X2 := Lib.hid hs; clear hs
    gi_wp2
    refine wpIn_region_quiet_lit rfl (by kernel_rfl) (by kernel_rfl) ?_
    repeat (gi_big_quiet_step (fail))
    gi_big_quiet_step ((refine ⟨fun h => (by cases h), ?_⟩; exact CallsIn.quiet_of_same (callsIn_wide.2 (q2p d (by omega) (by omega) _))))
    repeat (gi_big_quiet_step (fail))
    gi_big_quiet_step ((refine ⟨fun h => (by cases h), ?_⟩; exact CallsIn.quiet_of_same (callsIn_wide.2 (im_F m d hm' (by omega) (by omega) _))))
    repeat (gi_big_quiet_step (fail))
    refine BigFrame.wpQuietIn_skip (fun _ _ _ _ => trivial) (by rfl) ?_;simp only [Act.put, List.setIfInBounds_toArray, List.set_cons_succ, List.set_cons_zero]
    repeat (gi_big_quiet_step (fail))
    refine wpQuietIn_nil ?_;intro _ hw';obtain ⟨nq, hw''⟩ := hw';subst hw''
    gi_wp2
    go_roundw
    case rel => exact ⟨pre, d + 1, rfl, by omega, by omega, by rw [X1.out, X2.out, if_neg hm], c1, c2, hJd _ _ _ hJs⟩
    case measure => simp [intOf]; omega
  ·have hs : dayL m (t + 1 - d).toNat d = [] := by rw [show (t + 1 - d).toNat = 0 by omega]; rfl
   have X1 := Lib.hid hx; clear hx;have X2 := Lib.hid hs; clear hs
   gi_wp2
   go_end0
   refine ⟨⟨_, rfl⟩, .inl ?_⟩
   have : dayL m (t + 1 - f).toNat f = pre := by rw [X1.out, X2.out]; simp
   rw [this]; exact hJs
theorem qun (n : Nat) (hn : 2 ≤ n) (b o n₀ : Nat) (f t m : Int) (hf : 0 ≤ f) (ht : t ≤ 1000000) (w : World) (hb : b < n₀) (hn₀ : n₀ ≤ w.heap.size) (c0 : w.cell? ⟨b, o, none⟩ = some (.int .i64 f)) (c1 : w.cell? ⟨b, o + 1, none⟩ = some (.int .i64 t)) (c2 : w.cell? ⟨b, o + 2, none⟩ = some (.int .i64 m)) :
  SeqStopsK Fence.wide n Tryz.prog 193 #[.pointer (some ⟨b, o, none⟩)] (fun x : Int => #[Value.int .i64 x]) (Below n₀) (fun ys => ys = dayL m (t + 1 - f).toNat f) (fun pre => pre <+: dayL m (t + 1 - f).toNat f) (dayL m (t + 1 - f).toNat f).length w := fun l J Jx W hW hJ _ hY h0 =>
 q06 Fence.wide n trivial trivial trivial rfl rfl hn l b o n₀ hb f t m hf ht J Jx (fun pre W k h => hJ pre W (W.drewN k) none h ⟨rfl, rfl, rfl, Nat.le_refl _, fun _ _ _ => rfl⟩ (fun r e => by cases e)) hY W
  ((hW.cell (p := ⟨b, o, none⟩) (Nat.lt_of_lt_of_le hb hn₀)).trans c0) ((hW.cell (p := ⟨b, o + 1, none⟩) (Nat.lt_of_lt_of_le hb hn₀)).trans c1) ((hW.cell (p := ⟨b, o + 2, none⟩) (Nat.lt_of_lt_of_le hb hn₀)).trans c2) h0
theorem qgx (m : Int) : ∀ (n : Nat) (d : Int), (dayL m n d).length ≤ n
 | 0, _ => Nat.le_refl _
 | n + 1, d => by
  unfold dayL;have := qgx m n (d + 1)
  split <;> simp <;> omega
theorem q5i (x : Int) (w : World) : Calls Tryz.prog 176 #[.int .i64 x] w fun e w' => e = .returned (.bool true) ∧ w' = w := by
 go_enter Tryz.func176, Tryz.ntmps176
 go_wp2
 go_ret
 exact ⟨rfl, rfl⟩
end Go.Proofs
namespace Go.Proofs
open Go.RowKit Go.Shelf
attribute [local go_sem] Oper.semAt_some
theorem qov (x : Int) (w : World) : Calls Tryz.prog 176 #[.int .i64 x] w fun e w' => e = .returned (.bool true) ∧ w = w' := (q5i x w).mono fun _ _ ⟨h, k⟩ => ⟨h, k.symm⟩
theorem zd5 : (Tryz.prog.info? 3).map (fun i => (i.zero, i.size, i.bytes)) = some (some (.int .i64 0), 1, 8) := by kernel_rfl
set_option maxRecDepth 100000 in
set_option maxHeartbeats 2000000 in
theorem qqn (b o : Nat) (f t m : Int) (hf : 0 ≤ f) (ht : t ≤ 1000000) (w : World) (hb : b < w.heap.size) (c0 : w.cell? ⟨b, o, none⟩ = some (.int .i64 f)) (c1 : w.cell? ⟨b, o + 1, none⟩ = some (.int .i64 t)) (c2 : w.cell? ⟨b, o + 2, none⟩ = some (.int .i64 m)) :
  CallsIn Fence.wide 4 Tryz.prog 174 #[.func (.func 193) #[] #[.pointer (some ⟨b, o, none⟩)], .func (.func 176) #[] #[]] w fun e W' => ∃ v, e = .returned v ∧ W'.ownsRow (w.heap.size + 1) 3 1 v (dayL m (t + 1 - f).toNat f).length ((dayL m (t + 1 - f).toNat f).map (Value.int .i64)) ∧ (v = .slice none 0 0 ↔ dayL m (t + 1 - f).toNat f = []) ∧ Below w.heap.size w W' := by
 obtain ⟨i0, hi, hz0, hz1, hz2⟩ := info_parts zd5;have hlen := qgx m (t + 1 - f).toNat f
 have hlen2 : (t + 1 - f).toNat ≤ 1000001 := by omega
 refine callsIn_of_wp_marks Tryz.func174 rfl trivial ?_ rfl;simp only [Tryz.ntmps174, List.size_toArray, List.length_cons, List.length_nil, Nat.reduceAdd, Nat.reduceSub, Array.replicate_succ, Array.replicate_zero, List.push_toArray, List.append_toArray, List.nil_append, List.cons_append]
 gi_wp2
 have bO := Boxed.new (w.alloc (.cells #[.func (.func 176) #[] #[]] 131)) 38 (.slice none 0 0);rw [World.size_alloc] at bO;have bF := (Boxed.new w 131 (.func (.func 176) #[] #[])).cell;have hB00 : Below w.heap.size w (w.alloc (.cells #[.func (.func 176) #[] #[]] 131)) := (Below.refl _ w).alloc (Nat.le_refl _) _;have hB0 : Below (w.heap.size + 1) (w.alloc (.cells #[.func (.func 176) #[] #[]] 131)) ((w.alloc (.cells #[.func (.func 176) #[] #[]] 131)).alloc (.cells #[.slice none 0 0] 38)) := (Below.refl _ _).alloc (by simp) _;have hB1 : Below w.heap.size w ((w.alloc (.cells #[.func (.func 176) #[] #[]] 131)).alloc (.cells #[.slice none 0 0] 38)) := hB00.trans (hB0.mono (by omega));refine wpIn_rangeFunc_ownG rfl (by decide) (gf := 193) (lb := #[.pointer (some ⟨b, o, none⟩)]) rfl trivial (enters_of Tryz.func193 (by kernel_rfl) rfl)
  (qun 3 (by decide) b o (w.heap.size + 1) f t m hf ht _ (by omega) (by simp) ((hB1.cell (p := ⟨b, o, none⟩) hb).trans c0) ((hB1.cell (p := ⟨b, o + 1, none⟩) hb).trans c1) ((hB1.cell (p := ⟨b, o + 2, none⟩) hb).trans c2)) belowK_t (belowK_b (by simp)) (Below.refl _ _) (fun _ => rfl)
  (fun pre W => (∃ v, Boxed W (w.heap.size + 1) 38 v ∧ W.ownsRow (w.heap.size + 1) 3 1 v pre.length (pre.map (Value.int .i64)) ∧ (v = .slice none 0 0 ↔ pre = [])) ∧ Below (w.heap.size + 1) (w.alloc (.cells #[.func (.func 176) #[] #[]] 131)) W)
  (fun _ _ _ => False)
  (OwnFrom.and (Own.from (holdsRow_own (w.heap.size + 1) (w.heap.size + 1) 38 3 1 (fun pre : List Int => pre.length) (fun pre => pre.map (Value.int .i64)) (fun pre v => v = .slice none 0 0 ↔ pre = [])) _) (ownFrom_below (by simp) (by simp)))
  (fun _ _ _ _ _ hs _ _ => hs)
  ⟨⟨_, bO, World.ownsRow_nil _ _ _ _, by simp⟩, hB0⟩
  (fun x => { tmps := #[Value.func (Fn.func 193) #[] #[Value.pointer (some { block := b, off := o })],
     Value.func (Fn.func 176) #[] #[], undef, Value.pointer (some { block := w.heap.size, off := 0 }),
     Value.slice none 0 0, Value.pointer (some { block := w.heap.size + 1, off := 0 }), .int .i64 x,
     Value.func (Fn.func 193) #[] #[Value.pointer (some { block := b, off := o })], .int .i64 x, undef, undef, undef,
     undef, undef, undef, undef, undef], defers := [] }) ?assign ?body ?done ?stop
 case assign =>
  intro l x W K hK
  gi_wp2
  exact hK
 case body =>
  rintro l pre x W ⟨⟨v, hv, hrow, hnil⟩, hB⟩ hlt;have hc := hv.cell;have hfc : W.cell? ⟨w.heap.size, 0, none⟩ = some (.func (.func 176) #[] #[]) := (hB.cell (p := ⟨w.heap.size, 0, none⟩) (by simp)).trans bF
  gi_wp2_with (first | (gi_at_call 176; refine (CallsIn.inRound l (callsIn_wide.2 (qov x _))).mono ?_; rintro e w' ⟨rfl, rfl⟩) | (refine ⟨trivial, ?_⟩; gi_at_call 176; refine (CallsIn.inRound l (callsIn_wide.2 (qov x _))).mono ?_; rintro e w' ⟨rfl, rfl⟩) | (refine ⟨fun h => (by cases h), ?_⟩; gi_at_call 176; refine (CallsIn.inRound l (callsIn_wide.2 (qov x _))).mono ?_; rintro e w' ⟨rfl, rfl⟩) | (gi_at_builtin; refine wpListIn_append_own _ rfl _ _ 38 rfl (w.heap.size + 1) 3 i0 (.int .i64 0) 1 8 Tryz.underlying38 hi hz0 hz1 hz2 rfl (by decide) _ _ _ rfl (hrow.alloc _) ⟨W.heap.size, 0, none⟩ 1 1 [.int .i64 x] rfl rfl (cell_one_new _ _ _) (by simp [Value.oneCell']) (by unfold maxLen; omega) (by omega) (by have := hB.size; simp at this ⊢; omega) ?_; intro v' w1 hown' hgrow _; obtain ⟨g', cap', rfl⟩ := ownsRow_succ hown'; obtain ⟨hv1, hv2, hr2, hk2, hb2⟩ := hv.appended (by decide) hrow (by have := hB.size; simp at this ⊢; omega) (Nat.le_refl _) hown' hgrow; have hc1 := hv1.cell; have hf1 := hv1.frozen))
  exact ⟨hk2.from _, hb2, ⟨_, hv2, by simpa using hr2, by simp⟩, hB.trans hb2⟩
 case done =>
  rintro D ys W hD rfl ⟨⟨v, hv, hrow, hnil⟩, hB⟩ hK;have hc := hv.cell
  gi_wp2
  refine ⟨by simp, .inl ⟨_, _, rfl, run_takeDeferred hK, ?_⟩⟩;exact ⟨_, results_tmp rfl _ _ _, v, rfl, ownsRow_putObj hrow _ hK rfl, hnil, hB00.trans ((hB.mono (by omega)).trans (belowK_b (w := w) (Nat.le_refl _) W D _ _ (by simp at hD; omega) hK rfl rfl))⟩
 case stop =>
  rintro D c pre W _ _ h _;exact h.elim
end Go.Proofs
namespace Go.Sim
open Go.Proofs
def qik  : List UInt8 → Nat → Bool
 | [], k2 => true
 | y3 :: t4, k2 => (bif (!(((decide (97 ≤ (y3.toNat : Int))) && (decide ((y3.toNat : Int) ≤ 122))) || ((decide (65 ≤ (y3.toNat : Int))) && (decide ((y3.toNat : Int) ≤ 90))))) && ((decide (((k2 : Nat) : Int) = 0)) || ((decide ((y3.toNat : Int) ≠ 95)) && ((decide ((y3.toNat : Int) < 48)) || (decide (57 < (y3.toNat : Int)))))) then false else qik  t4 (k2 + 1))
def s91 (a0 : ByteArray) : Bool :=
 (bif (decide ((ByteArray.size a0 : Int) = 0)) || (decide (24 < (ByteArray.size a0 : Int))) then false else qik ((ByteArray.data a0).toList) 0)
theorem c91 {g : GL} (a0 : ByteArray)    : Con (EG g) 129 [G.str a0] (G.bool (s91 a0)) := by
 generalize hR : s91 a0 = R;unfold s91 at hR;refine qm Tryz.func129 rfl rfl fun w0 M0 => ?_;refine qb<|qa [.p]<|sa rfl rfl<|qd<|qb<|qb<|qa [.p, .p, .p, .p, .p, .p, .p, .p]<|sm rfl rfl<|su (vz rfl Tryz.underlying9 rfl) rfl<|su (jn rfl rfl rfl) rfl<|sm rfl rfl<|sg rfl rfl (fun h => qj rfl rfl) rfl<|sg rfl rfl (fun h => vz rfl Tryz.underlying9 (gd h rfl)) rfl<|sg rfl rfl (fun h => zy rfl (gd h rfl) rfl) rfl<|su (jg rfl rfl rfl rfl) rfl<|qd ?_;refine ql _ rfl (fun h1 => ?_) (fun h1 => ?_)
 ·replace hR := zk hR h1;refine qb<|qa [.p]<|sa rfl rfl<|qd<|qo ?_;subst hR;exact za rfl (rv_g rfl)
 ·replace h1 : ((decide ((ByteArray.size a0 : Int) = 0)) || (decide (24 < (ByteArray.size a0 : Int)))) = false := h1;replace hR := zl hR h1;(try simp only [bB] at h1);refine qn<|qb<|qb<|qa [.p]<|sa rfl rfl<|qd<|qp<|zf (γ := Nat × (List UInt8)) (fun g => ([(0, .g (G.str a0)), (3, .g (G.int ((g.1 : Nat) : Int)))], [])) (fun g => ((ByteArray.data a0).toList).drop g.1 = g.2 ∧ qik  g.2 g.1 = R) (fun g => List.length g.2) ⟨rfl, (0, ((ByteArray.data a0).toList)), ⟨rfl, rfl, trivial⟩, trivial, rfl, ⟨rfl, (by exact hR)⟩, trivial⟩ ?_
  ·rintro ⟨k2, t4⟩ ⟨hd, hR⟩;replace hd : ((ByteArray.data a0).toList).drop k2 = t4 := hd;replace hR : qik  t4 k2 = R := hR;refine qb<|qb<|qa [.p, .p, .p, .p]<|sm rfl rfl<|sm rfl rfl<|su (vz rfl Tryz.underlying9 rfl) rfl<|su (zd rfl rfl rfl) rfl<|qd ?_;refine ql _ rfl (fun h2 => ?_) (fun h2 => ?_)
   ·replace h2 : (decide (((k2 : Nat) : Int) < (ByteArray.size a0 : Int))) = true := h2;obtain ⟨y3, t4, rfl, hx1, hd⟩ := qts hd (decT h2);replace h2 := decT h2;rw [qik] at hR;(try dsimp only at hR);refine qn<|qb<|qp<|qb<|qa [.p, .p, .p, .p]<|sm rfl rfl<|sm rfl rfl<|su (qtq (b := y3) rfl Tryz.underlying9 rfl rfl (Int.natCast_nonneg _) hx1) rfl<|sa rfl rfl<|qd<|qb<|qa [.p, .p, .p, .p, .p, .p, .p, .p, .p, .p, .p, .p, .p, .p, .p]<|sm rfl rfl<|su (xo rfl rfl rfl) rfl<|sm rfl rfl<|sg rfl rfl (fun h => qj rfl rfl) rfl<|sg rfl rfl (fun h => vj rfl (gd h rfl) rfl) rfl<|su (zt rfl rfl rfl rfl) rfl<|sm rfl rfl<|sg rfl rfl (fun h => qj rfl rfl) rfl<|sg rfl rfl (fun h => xo rfl (gd h rfl) rfl) rfl<|sg rfl rfl (fun h => qj rfl (gd h rfl)) rfl<|st_g rfl rfl rfl (jl _ _ _) (fun h => qj rfl rfl) rfl<|st_g rfl rfl rfl (jl _ _ _) (fun h => vj rfl (gd h rfl) rfl) rfl<|sg rfl rfl (fun h => zt rfl (gd h rfl) rfl (gd2 h rfl)) rfl<|su (jg rfl rfl rfl rfl) rfl<|sa rfl rfl<|qd<|qb<|qa [.p, .p, .p, .p, .p, .p, .p, .p, .p, .p, .p, .p, .p, .p, .p, .p, .p, .p]<|sm rfl rfl<|su (jo rfl rfl) rfl<|sm rfl rfl<|sg rfl rfl (fun h => qj rfl rfl) rfl<|sg rfl rfl (fun h => jn rfl (gd h rfl) rfl) rfl<|sg rfl rfl (fun h => qj rfl (gd h rfl)) rfl<|st_g rfl rfl rfl (jl _ _ _) (fun h => qj rfl rfl) rfl<|st_g rfl rfl rfl (jl _ _ _) (fun h => zx rfl (gd h rfl) rfl) rfl<|st_g rfl rfl rfl (jl _ _ _) (fun h => qj rfl (gd h rfl)) rfl<|st_g rfl rfl rfl (jl _ _ _) (fun h => qj rfl rfl) rfl<|st_g rfl rfl rfl (jl _ _ _) (fun h => zd rfl (gd h rfl) rfl) rfl<|st_g rfl rfl rfl (jl _ _ _) (fun h => qj rfl (gd h rfl)) rfl<|st_g rfl rfl rfl (jl _ _ _) (fun h => qj rfl rfl) rfl<|st_g rfl rfl rfl (jl _ _ _) (fun h => zy rfl (gd h rfl) rfl) rfl<|st_g rfl rfl rfl (jl _ _ _) (fun h => jg rfl (gd h rfl) rfl (gd2 h rfl)) rfl<|st_g rfl rfl rfl (jl _ _ _) (fun h => zt rfl (gd h rfl) rfl (gd2 h rfl)) rfl<|sg rfl rfl (fun h => jg rfl (gd h rfl) rfl (gd2 h rfl)) rfl<|su (zt rfl rfl rfl rfl) rfl<|qd ?_;refine ql _ rfl (fun h4 => ?_) (fun h4 => ?_)
    ·replace hR := zk hR h4;refine qb<|qa [.p]<|sa rfl rfl<|qd<|qo ?_;subst hR;exact za rfl (rv_g rfl)
    ·replace h4 : ((!(((decide (97 ≤ (y3.toNat : Int))) && (decide ((y3.toNat : Int) ≤ 122))) || ((decide (65 ≤ (y3.toNat : Int))) && (decide ((y3.toNat : Int) ≤ 90))))) && ((decide (((k2 : Nat) : Int) = 0)) || ((decide ((y3.toNat : Int) ≠ 95)) && ((decide ((y3.toNat : Int) < 48)) || (decide (57 < (y3.toNat : Int))))))) = false := h4;replace hR := zl hR h4;(try simp only [bB] at h4);refine qn<|qa [.p, .p, .p]<|sm rfl rfl<|su (zn rfl rfl rfl iE) rfl<|sa rfl rfl<|qd ?_;exact ⟨rfl, (k2 + 1, t4), ⟨rfl, rfl, trivial⟩, trivial, rfl, ⟨hd, hR⟩, by simp⟩
   ·replace h2 : (decide (((k2 : Nat) : Int) < (ByteArray.size a0 : Int))) = false := h2;obtain rfl := qvy hd (decF h2);rw [qik] at hR;refine zw<|qb<|qa [.p]<|sa rfl rfl<|qd<|qo ?_;subst hR;exact za rfl (rv_g rfl)
def qeh  : List (Int × Int) → Bool
 | [] => true
 | y2 :: t3 => (bif (!(((decide (65 ≤ y2.2)) && (decide (y2.2 ≤ 90))) || ((decide (97 ≤ y2.2)) && (decide (y2.2 ≤ 122))))) && ((decide (y2.1 = 0)) || ((decide (y2.2 ≠ 95)) && ((decide (y2.2 < 48)) || (decide (57 < y2.2))))) then false else qeh t3)
def s147 (a0 : ByteArray) : Bool :=
 (bif (decide ((ByteArray.size a0 : Int) = 0)) || (decide (24 < (ByteArray.size a0 : Int))) then false else qeh (qzh a0))
theorem c147 {g : GL} (a0 : ByteArray)    : Con (EG g) 99 [G.str a0] (G.bool (s147 a0)) := by
 generalize hR : s147 a0 = R;unfold s147 at hR;refine qm Tryz.func99 rfl rfl fun w0 M0 => ?_;refine qb<|qa [.p]<|sa rfl rfl<|qd<|qb<|qb<|qa [.p, .p, .p, .p, .p, .p, .p, .p]<|sm rfl rfl<|su (vz rfl Tryz.underlying9 rfl) rfl<|su (jn rfl rfl rfl) rfl<|sm rfl rfl<|sg rfl rfl (fun h => qj rfl rfl) rfl<|sg rfl rfl (fun h => vz rfl Tryz.underlying9 (gd h rfl)) rfl<|sg rfl rfl (fun h => zy rfl (gd h rfl) rfl) rfl<|su (jg rfl rfl rfl rfl) rfl<|qd ?_;refine ql _ rfl (fun h1 => ?_) (fun h1 => ?_)
 ·replace hR := zk hR h1;refine qb<|qa [.p]<|sa rfl rfl<|qd<|qo ?_;subst hR;exact za rfl (rv_g rfl)
 ·replace h1 : ((decide ((ByteArray.size a0 : Int) = 0)) || (decide (24 < (ByteArray.size a0 : Int)))) = false := h1;replace hR := zl hR h1;(try simp only [bB] at h1);refine qn<|qb<|qb<|qa [.p, .w]<|sm rfl rfl<|sw (qtr 15 rfl Tryz.underlying9 rfl rfl) rfl<|qd<|qp<|zf (γ := Nat × (List (Int × Int))) (fun g => ([(15, .ptr 15 0)], [(15, .it a0 g.1)])) (fun g => qhp a0 g.1 g.2 ∧ qeh g.2 = R) (fun g => List.length g.2) ⟨rfl, (0, qzh a0), ⟨rfl, trivial⟩, ⟨rfl, trivial⟩, rfl, ⟨qn6 _, hR⟩, trivial⟩ ?_
  ·rintro ⟨p1, t3⟩ ⟨hP, hR⟩;replace hP : qhp a0 p1 t3 := hP;replace hR : qeh t3 = R := hR
   cases t3 with
   | nil =>
    rw [qeh] at hR;refine qb<|qa [.r, .p]<|sr (qvv rfl rfl rfl (qq3 hP)) rfl<|su (qv rfl rfl rfl) rfl<|qd<|qb ?_;refine ql _ rfl (fun h2 => ?_) (fun h2 => ?_)
    ·exact Bool.noConfusion h2
    ·refine zw<|qb<|qa [.p]<|sa rfl rfl<|qd<|qo ?_;subst hR;exact za rfl (rv_g rfl)
   | cons y2 t3 =>
    obtain ⟨hlt, hy, hP⟩ := qpn hP;rw [qeh] at hR;refine qb<|qa [.w, .p]<|sw (qvz (y := y2) rfl rfl rfl hlt hy) rfl<|su (qv rfl rfl rfl) rfl<|qd<|qb ?_;refine ql _ rfl (fun h3 => ?_) (fun h3 => ?_)
    ·refine qn<|qp<|qb<|qa [.p, .p, .p, .p]<|su (qv rfl rfl rfl) rfl<|su (qv rfl rfl rfl) rfl<|sa rfl rfl<|sa rfl rfl<|qd<|qb<|qa [.p, .p, .p, .p, .p, .p, .p, .p, .p, .p, .p, .p, .p, .p, .p]<|sm rfl rfl<|su (xo rfl rfl rfl) rfl<|sm rfl rfl<|sg rfl rfl (fun h => qj rfl rfl) rfl<|sg rfl rfl (fun h => vj rfl (gd h rfl) rfl) rfl<|su (zt rfl rfl rfl rfl) rfl<|sm rfl rfl<|sg rfl rfl (fun h => qj rfl rfl) rfl<|sg rfl rfl (fun h => xo rfl (gd h rfl) rfl) rfl<|sg rfl rfl (fun h => qj rfl (gd h rfl)) rfl<|st_g rfl rfl rfl (jl _ _ _) (fun h => qj rfl rfl) rfl<|st_g rfl rfl rfl (jl _ _ _) (fun h => vj rfl (gd h rfl) rfl) rfl<|sg rfl rfl (fun h => zt rfl (gd h rfl) rfl (gd2 h rfl)) rfl<|su (jg rfl rfl rfl rfl) rfl<|sa rfl rfl<|qd<|qb<|qa [.p, .p, .p, .p, .p, .p, .p, .p, .p, .p, .p, .p, .p, .p, .p, .p, .p, .p]<|sm rfl rfl<|su (jo rfl rfl) rfl<|sm rfl rfl<|sg rfl rfl (fun h => qj rfl rfl) rfl<|sg rfl rfl (fun h => jn rfl (gd h rfl) rfl) rfl<|sg rfl rfl (fun h => qj rfl (gd h rfl)) rfl<|st_g rfl rfl rfl (jl _ _ _) (fun h => qj rfl rfl) rfl<|st_g rfl rfl rfl (jl _ _ _) (fun h => zx rfl (gd h rfl) rfl) rfl<|st_g rfl rfl rfl (jl _ _ _) (fun h => qj rfl (gd h rfl)) rfl<|st_g rfl rfl rfl (jl _ _ _) (fun h => qj rfl rfl) rfl<|st_g rfl rfl rfl (jl _ _ _) (fun h => zd rfl (gd h rfl) rfl) rfl<|st_g rfl rfl rfl (jl _ _ _) (fun h => qj rfl (gd h rfl)) rfl<|st_g rfl rfl rfl (jl _ _ _) (fun h => qj rfl rfl) rfl<|st_g rfl rfl rfl (jl _ _ _) (fun h => zy rfl (gd h rfl) rfl) rfl<|st_g rfl rfl rfl (jl _ _ _) (fun h => jg rfl (gd h rfl) rfl (gd2 h rfl)) rfl<|st_g rfl rfl rfl (jl _ _ _) (fun h => zt rfl (gd h rfl) rfl (gd2 h rfl)) rfl<|sg rfl rfl (fun h => jg rfl (gd h rfl) rfl (gd2 h rfl)) rfl<|su (zt rfl rfl rfl rfl) rfl<|qd ?_;refine ql _ rfl (fun h4 => ?_) (fun h4 => ?_)
     ·replace hR := zk hR h4;refine qb<|qa [.p]<|sa rfl rfl<|qd<|qo ?_;subst hR;exact za rfl (rv_g rfl)
     ·replace h4 : ((!(((decide (65 ≤ y2.2)) && (decide (y2.2 ≤ 90))) || ((decide (97 ≤ y2.2)) && (decide (y2.2 ≤ 122))))) && ((decide (y2.1 = 0)) || ((decide (y2.2 ≠ 95)) && ((decide (y2.2 < 48)) || (decide (57 < y2.2)))))) = false := h4;replace hR := zl hR h4;(try simp only [bB] at h4);refine qn ?_;exact ⟨rfl, ((p1 + (Utf8.decode a0 p1).2), t3), ⟨rfl, trivial⟩, ⟨rfl, trivial⟩, rfl, ⟨hP, hR⟩, by simp⟩
    ·exact Bool.noConfusion h3
def s40 (a0 : S45) : Int :=
 (bif (decide ((s109 a0.fFrom) ≠ 0)) || (decide ((s109 a0.fTo) ≠ 0)) then 3 else (bif decide (a0.fTo < a0.fFrom) then 11 else (bif decide (400 < IntKind.i64.wrap (a0.fTo - a0.fFrom)) then 4 else (s90 a0.Days 1 127))))
theorem c40 {g : GL} (a0 : S45)    : Con (EG g) 128 [G.agg (S45.c a0)] (G.int (s40 a0)) := by
 generalize hR : s40 a0 = R;unfold s40 at hR;refine qm Tryz.func128 rfl rfl fun w0 M0 => ?_;refine qb<|qa [.p, .p]<|su (zi rfl rfl) rfl<|sa rfl rfl<|qd<|qb<|qb<|qa [.p, .p, .p, .p, .p, .p, .p, .p, .p, .p]<|su (qc rfl qa3 rfl) rfl<|su (qf rfl ty3 rfl) rfl<|su (qg rfl K109 rfl (c109 a0.fFrom) (qe rfl qk)) rfl<|su (zx rfl rfl rfl) rfl<|sm rfl rfl<|sg rfl rfl (fun h => qc rfl qa4 rfl) rfl<|sg rfl rfl (fun h => qf rfl ty3 (gd h rfl)) rfl<|sg rfl rfl (fun h => qg rfl K109 rfl (c109 a0.fTo) (qe (gd h rfl) qk)) rfl<|sg rfl rfl (fun h => zx rfl (gd h rfl) rfl) rfl<|su (jg rfl rfl rfl rfl) rfl<|qd ?_;refine ql _ rfl (fun h1 => ?_) (fun h1 => ?_)
 ·replace hR := zk hR h1;refine qb<|qa [.p]<|sa rfl rfl<|qd<|qo ?_;subst hR;exact za rfl (rv_g rfl)
 ·replace h1 : ((decide ((s109 a0.fFrom) ≠ 0)) || (decide ((s109 a0.fTo) ≠ 0))) = false := h1;replace hR := zl hR h1;(try simp only [bB] at h1);refine qn<|qb<|qb<|qa [.p, .p, .p, .p, .p]<|su (qc rfl qa4 rfl) rfl<|su (qf rfl ty3 rfl) rfl<|su (qc rfl qa3 rfl) rfl<|su (qf rfl ty3 rfl) rfl<|su (zd rfl rfl rfl) rfl<|qd ?_;refine ql _ rfl (fun h2 => ?_) (fun h2 => ?_)
  ·replace hR := zk hR h2;refine qb<|qa [.p]<|sa rfl rfl<|qd<|qo ?_;subst hR;exact za rfl (rv_g rfl)
  ·replace h2 : (decide (a0.fTo < a0.fFrom)) = false := h2;replace hR := zl hR h2;(try simp only [bB] at h2);refine qn<|qb<|qb<|qa [.p, .p, .p, .p, .p, .p]<|su (qc rfl qa4 rfl) rfl<|su (qf rfl ty3 rfl) rfl<|su (qc rfl qa3 rfl) rfl<|su (qf rfl ty3 rfl) rfl<|su (kq rfl rfl rfl) rfl<|su (zy rfl rfl rfl) rfl<|qd ?_;refine ql _ rfl (fun h3 => ?_) (fun h3 => ?_)
   ·replace hR := zk hR h3;refine qb<|qa [.p]<|sa rfl rfl<|qd<|qo ?_;subst hR;exact za rfl (rv_g rfl)
   ·replace hR := zl hR h3;refine qn<|qb<|qa [.p, .p, .p, .p]<|su (qc rfl qlu rfl) rfl<|su (qf rfl ty3 rfl) rfl<|su (qg rfl K90 rfl (c90 a0.Days 1 127) (qe rfl (qe rfl (qe rfl qk)))) rfl<|sa rfl rfl<|qd<|qo ?_;subst hR;exact za rfl (rv_g rfl)
def qhv (a0 : ByteArray) : Bool :=
 (decide (a0 = (⟨#[]⟩))) || (s91 a0)
theorem q8k {g : GL} (a0 : ByteArray)    : Con (EG g) 194 [G.str a0] (G.bool (qhv a0)) := by
 generalize hR : qhv a0 = R;unfold qhv at hR;refine qm Tryz.func194 rfl rfl fun w0 M0 => ?_;refine qb<|qa [.p]<|sa rfl rfl<|qd<|qb<|qa [.p, .p, .p, .p, .p, .p, .p]<|sm rfl rfl<|su (vk rfl rfl rfl) rfl<|sm rfl rfl<|sg rfl rfl (fun h => qj rfl rfl) rfl<|sg rfl rfl (fun h => qg rfl K91 rfl (c91 a0) (qe (gd h rfl) qk)) rfl<|su (jg rfl rfl rfl rfl) rfl<|sa rfl rfl<|qd<|qo ?_;subst hR;exact za rfl (rv_g rfl)
def qon (a0 : S115) : Int :=
 (bif ((((!(s91 a0.Name)) || (!(s91 a0.Carrier))) || (!(s91 a0.Partner))) || (!(qhv a0.Terminal))) || (!(qhv a0.Link)) then 8 else (bif (!decide (a0.Kind = (⟨#[65]⟩))) && (!decide (a0.Kind = (⟨#[68]⟩))) then 13 else (bif decide (a0.Link = a0.Name) then 32 else (bif decide ((s40 a0.Period) ≠ 0) then (s40 a0.Period) else (s89 [(s90 a0.Minute 0 1439), (s90 a0.Seats 0 999), (s90 a0.Size 1 9), (s90 a0.Noise 0 99)])))))
theorem zc1 {g : GL} (a0 : S115)    : Con (EG g) 178 [G.agg (S115.c a0)] (G.int (qon a0)) := by
 generalize hR : qon a0 = R;unfold qon at hR;refine qm Tryz.func178 rfl rfl fun w0 M0 => ?_;refine qb<|qa [.p, .p]<|su (zi rfl rfl) rfl<|sa rfl rfl<|qd<|qb<|qb<|qa [.p, .p, .p, .p, .p, .p, .p, .p, .p, .p, .p, .p, .p, .p, .p, .p, .p, .p, .p, .p, .p, .p, .p, .p, .p, .p, .p, .p]<|su (qc rfl kh rfl) rfl<|su (qf rfl ty9 rfl) rfl<|su (qg rfl K91 rfl (c91 a0.Name) (qe rfl qk)) rfl<|su (jo rfl rfl) rfl<|sm rfl rfl<|sg rfl rfl (fun h => qc rfl qj0 rfl) rfl<|sg rfl rfl (fun h => qf rfl ty9 (gd h rfl)) rfl<|sg rfl rfl (fun h => qg rfl K91 rfl (c91 a0.Carrier) (qe (gd h rfl) qk)) rfl<|sg rfl rfl (fun h => jo rfl (gd h rfl)) rfl<|su (jg rfl rfl rfl rfl) rfl<|sm rfl rfl<|sg rfl rfl (fun h => qc rfl qqq rfl) rfl<|sg rfl rfl (fun h => qf rfl ty9 (gd h rfl)) rfl<|sg rfl rfl (fun h => qg rfl K91 rfl (c91 a0.Partner) (qe (gd h rfl) qk)) rfl<|sg rfl rfl (fun h => jo rfl (gd h rfl)) rfl<|su (jg rfl rfl rfl rfl) rfl<|sm rfl rfl<|sg rfl rfl (fun h => qc rfl qfn rfl) rfl<|sg rfl rfl (fun h => qf rfl ty9 (gd h rfl)) rfl<|sg rfl rfl (fun h => qg rfl q5y rfl (q8k a0.Terminal) (qe (gd h rfl) qk)) rfl<|sg rfl rfl (fun h => jo rfl (gd h rfl)) rfl<|su (jg rfl rfl rfl rfl) rfl<|sm rfl rfl<|sg rfl rfl (fun h => qc rfl qg9 rfl) rfl<|sg rfl rfl (fun h => qf rfl ty9 (gd h rfl)) rfl<|sg rfl rfl (fun h => qg rfl q5y rfl (q8k a0.Link) (qe (gd h rfl) qk)) rfl<|sg rfl rfl (fun h => jo rfl (gd h rfl)) rfl<|su (jg rfl rfl rfl rfl) rfl<|qd ?_;refine ql _ rfl (fun h1 => ?_) (fun h1 => ?_)
 ·replace hR := zk hR h1;refine qb<|qa [.p]<|sa rfl rfl<|qd<|qo ?_;subst hR;exact za rfl (rv_g rfl)
 ·replace h1 : (((((!(s91 a0.Name)) || (!(s91 a0.Carrier))) || (!(s91 a0.Partner))) || (!(qhv a0.Terminal))) || (!(qhv a0.Link))) = false := h1;replace hR := zl hR h1;(try simp only [bB] at h1);refine qn<|qb<|qb<|qa [.p, .p, .p, .p, .p, .p, .p, .p]<|su (qc rfl qd3 rfl) rfl<|su (qf rfl ty9 rfl) rfl<|su (qbn rfl rfl rfl) rfl<|sm rfl rfl<|sg rfl rfl (fun h => qc rfl qd3 rfl) rfl<|sg rfl rfl (fun h => qf rfl ty9 (gd h rfl)) rfl<|sg rfl rfl (fun h => qbn rfl (gd h rfl) rfl) rfl<|su (zt rfl rfl rfl rfl) rfl<|qd ?_;refine ql _ rfl (fun h2 => ?_) (fun h2 => ?_)
  ·replace hR := zk hR h2;refine qb<|qa [.p]<|sa rfl rfl<|qd<|qo ?_;subst hR;exact za rfl (rv_g rfl)
  ·replace h2 : ((!decide (a0.Kind = (⟨#[65]⟩))) && (!decide (a0.Kind = (⟨#[68]⟩)))) = false := h2;replace hR := zl hR h2;(try simp only [bB] at h2);refine qn<|qb<|qb<|qa [.p, .p, .p, .p, .p]<|su (qc rfl qg9 rfl) rfl<|su (qf rfl ty9 rfl) rfl<|su (qc rfl kh rfl) rfl<|su (qf rfl ty9 rfl) rfl<|su (vk rfl rfl rfl) rfl<|qd ?_;refine ql _ rfl (fun h3 => ?_) (fun h3 => ?_)
   ·replace hR := zk hR h3;refine qb<|qa [.p]<|sa rfl rfl<|qd<|qo ?_;subst hR;exact za rfl (rv_g rfl)
   ·replace h3 : (decide (a0.Link = a0.Name)) = false := h3;replace hR := zl hR h3;(try simp only [bB] at h3);refine qn<|qb<|qa [.p, .p, .p, .p]<|su (qc rfl vt rfl) rfl<|su (qr rfl ty46 rfl rfl rfl) rfl<|su (qg rfl K40 rfl (c40 a0.Period) (qe rfl qk)) rfl<|sa rfl rfl<|qd<|qb<|qb<|qa [.p, .p]<|sm rfl rfl<|su (zx rfl rfl rfl) rfl<|qd ?_;refine ql _ rfl (fun h4 => ?_) (fun h4 => ?_)
    ·replace hR := zk hR h4;refine qb<|qa [.p, .p]<|sm rfl rfl<|sa rfl rfl<|qd<|qo ?_;subst hR;exact za rfl (rv_g rfl)
    ·replace h4 : (decide ((s40 a0.Period) ≠ 0)) = false := h4;replace hR := zl hR h4;(try simp only [bB] at h4);refine qn<|qb<|zr [.p, .p, .p, .p, .p, .p, .p, .p, .p, .p, .p, .p, .p, .p, .p] (by kernel_rfl)<|su (qc rfl qha rfl) rfl<|su (qf rfl ty3 rfl) rfl<|su (qg rfl K90 rfl (c90 a0.Minute 0 1439) (qe rfl (qe rfl (qe rfl qk)))) rfl<|su (qc rfl qj1 rfl) rfl<|su (qf rfl ty3 rfl) rfl<|su (qg rfl K90 rfl (c90 a0.Seats 0 999) (qe rfl (qe rfl (qe rfl qk)))) rfl<|su (qc rfl qj2 rfl) rfl<|su (qf rfl ty3 rfl) rfl<|su (qg rfl K90 rfl (c90 a0.Size 1 9) (qe rfl (qe rfl (qe rfl qk)))) rfl<|su (qc rfl qf3 rfl) rfl<|su (qf rfl ty3 rfl) rfl<|su (qg rfl K90 rfl (c90 a0.Noise 0 99) (qe rfl (qe rfl (qe rfl qk)))) rfl ?_;refine su (qt rfl Tryz.underlying38 ty3 z3 rfl (qx rfl (qx rfl (qx rfl (qx rfl jp)))) rfl (by simp []) (by decide)) rfl ?_;refine su (qg rfl K89 rfl (c89 [(s90 a0.Minute 0 1439), (s90 a0.Seats 0 999), (s90 a0.Size 1 9), (s90 a0.Noise 0 99)]) (qe rfl qk)) rfl<|sa rfl rfl<|qd<|qo ?_;subst hR;exact za rfl (rv_g rfl)
def s102 (a0 : S45) : Int :=
 (bif decide ((s152 [(s153 a0.fFrom), (s153 a0.fTo)]) ≠ 0) then (s152 [(s153 a0.fFrom), (s153 a0.fTo)]) else (s152 [(s154 (decide (a0.fTo < a0.fFrom)) 11), (s154 (decide (400 < IntKind.i64.wrap (a0.fTo - a0.fFrom))) 4), (s155 a0.Days 1 127)]))
theorem c102 {g : GL} (a0 : S45)    : Con (EG g) 48 [G.agg (S45.c a0)] (G.int (s102 a0)) := by
 generalize hR : s102 a0 = R;unfold s102 at hR;refine qm Tryz.func48 rfl rfl fun w0 M0 => ?_;refine qb<|qa [.p, .p]<|su (zi rfl rfl) rfl<|sa rfl rfl<|qd<|qb<|qb<|zr [.p, .p, .p, .p, .p, .p, .p, .p, .p] (by kernel_rfl)<|su (qc rfl qa3 rfl) rfl<|su (qf rfl ty3 rfl) rfl<|su (qg rfl K153 rfl (c153 a0.fFrom) (qe rfl qk)) rfl<|su (qc rfl qa4 rfl) rfl<|su (qf rfl ty3 rfl) rfl<|su (qg rfl K153 rfl (c153 a0.fTo) (qe rfl qk)) rfl ?_;refine su (qt rfl Tryz.underlying170 ty37 z37 rfl (qx rfl (qx rfl jp)) rfl (by simp []) (by decide)) rfl ?_;refine su (qg rfl K152 rfl (c152 [(s153 a0.fFrom), (s153 a0.fTo)]) (qe rfl qk)) rfl<|sa rfl rfl<|qd<|qb<|qa [.p, .p]<|sm rfl rfl<|su (zx rfl rfl rfl) rfl<|qd ?_;refine ql _ rfl (fun h1 => ?_) (fun h1 => ?_)
 ·replace hR := zk hR h1;refine qb<|qa [.p, .p]<|sm rfl rfl<|sa rfl rfl<|qd<|qo ?_;subst hR;exact za rfl (rv_g rfl)
 ·replace h1 : (decide ((s152 [(s153 a0.fFrom), (s153 a0.fTo)]) ≠ 0)) = false := h1;replace hR := zl hR h1;(try simp only [bB] at h1);refine qn<|qb<|zr [.p, .p, .p, .p, .p, .p, .p, .p, .p, .p, .p, .p, .p, .p, .p, .p, .p, .p, .p] (by kernel_rfl)<|su (qc rfl qa4 rfl) rfl<|su (qf rfl ty3 rfl) rfl<|su (qc rfl qa3 rfl) rfl<|su (qf rfl ty3 rfl) rfl<|su (zd rfl rfl rfl) rfl<|su (qg rfl K154 rfl (c154 (decide (a0.fTo < a0.fFrom)) 11) (qe rfl (qe rfl qk))) rfl<|su (qc rfl qa4 rfl) rfl<|su (qf rfl ty3 rfl) rfl<|su (qc rfl qa3 rfl) rfl<|su (qf rfl ty3 rfl) rfl<|su (kq rfl rfl rfl) rfl<|su (zy rfl rfl rfl) rfl<|su (qg rfl K154 rfl (c154 (decide (400 < IntKind.i64.wrap (a0.fTo - a0.fFrom))) 4) (qe rfl (qe rfl qk))) rfl<|su (qc rfl qlu rfl) rfl<|su (qf rfl ty3 rfl) rfl<|su (qg rfl K155 rfl (c155 a0.Days 1 127) (qe rfl (qe rfl (qe rfl qk)))) rfl ?_;refine su (qt rfl Tryz.underlying170 ty37 z37 rfl (qx rfl (qx rfl (qx rfl jp))) rfl (by simp []) (by decide)) rfl ?_;refine su (qg rfl K152 rfl (c152 [(s154 (decide (a0.fTo < a0.fFrom)) 11), (s154 (decide (400 < IntKind.i64.wrap (a0.fTo - a0.fFrom))) 4), (s155 a0.Days 1 127)]) (qe rfl qk)) rfl<|sa rfl rfl<|qd<|qo ?_;subst hR;exact za rfl (rv_g rfl)
def s187 (a0 : Int) (a1 : Int) : Bool :=
 decide (andI (shrI a0 a1) 1 = 1)
theorem c187 {g : GL} (a0 : Int) (a1 : Int)  (hw : 0 ≤ a1)  : Con (EG g) 189 [G.int a0, G.int a1] (G.bool (s187 a0 a1)) := by
 generalize hR : s187 a0 a1 = R;unfold s187 at hR;refine qm Tryz.func189 rfl rfl fun w0 M0 => ?_;refine qb<|qa [.p]<|sa rfl rfl<|qd<|qb<|qa [.p, .p, .p, .p, .p, .p]<|sm rfl rfl<|sm rfl rfl<|su (q3m rfl rfl rfl (by omega)) rfl<|su (qy9 rfl rfl rfl) rfl<|su (jn rfl rfl rfl) rfl<|sa rfl rfl<|qd<|qo ?_;subst hR;exact za rfl (rv_g rfl)
def qk9 (a0 : ByteArray) : Int :=
 (qh3 (!(s147 a0)) 8)
theorem q5j {g : GL} (a0 : ByteArray)    : Con (EG g) 183 [G.str a0] (G.int (qk9 a0)) := by
 generalize hR : qk9 a0 = R;unfold qk9 at hR;refine qm Tryz.func183 rfl rfl fun w0 M0 => ?_;refine qb<|qa [.p]<|sa rfl rfl<|qd<|qb<|qa [.p, .p, .p, .p, .p]<|sm rfl rfl<|su (qg rfl K147 rfl (c147 a0) (qe rfl qk)) rfl<|su (jo rfl rfl) rfl<|su (qg rfl quq rfl (qyd (!(s147 a0)) 8) (qe rfl (qe rfl qk))) rfl<|sa rfl rfl<|qd<|qo ?_;subst hR;exact za rfl (rv_g rfl)
def qom (a0 : ByteArray) : Int :=
 (qh3 ((!decide (a0 = (⟨#[]⟩))) && (!(s147 a0))) 8)
theorem q8l {g : GL} (a0 : ByteArray)    : Con (EG g) 184 [G.str a0] (G.int (qom a0)) := by
 generalize hR : qom a0 = R;unfold qom at hR;refine qm Tryz.func184 rfl rfl fun w0 M0 => ?_;refine qb<|qa [.p]<|sa rfl rfl<|qd<|qb<|qa [.p, .p, .p, .p, .p, .p, .p, .p, .p]<|sm rfl rfl<|su (qbn rfl rfl rfl) rfl<|sm rfl rfl<|sg rfl rfl (fun h => qj rfl rfl) rfl<|sg rfl rfl (fun h => qg rfl K147 rfl (c147 a0) (qe (gd h rfl) qk)) rfl<|sg rfl rfl (fun h => jo rfl (gd h rfl)) rfl<|su (zt rfl rfl rfl rfl) rfl<|su (qg rfl quq rfl (qyd ((!decide (a0 = (⟨#[]⟩))) && (!(s147 a0))) 8) (qe rfl (qe rfl qk))) rfl<|sa rfl rfl<|qd<|qo ?_;subst hR;exact za rfl (rv_g rfl)
def qqc (a0 : ByteArray) : Bool :=
 (decide (a0 = (⟨#[65]⟩))) || (decide (a0 = (⟨#[68]⟩)))
theorem zd6 {g : GL} (a0 : ByteArray)    : Con (EG g) 186 [G.str a0] (G.bool (qqc a0)) := by
 generalize hR : qqc a0 = R;unfold qqc at hR;refine qm Tryz.func186 rfl rfl fun w0 M0 => ?_;refine qb<|qa [.p]<|sa rfl rfl<|qd<|qb<|qa [.p, .p, .p, .p, .p, .p, .p]<|sm rfl rfl<|su (vk rfl rfl rfl) rfl<|sm rfl rfl<|sg rfl rfl (fun h => qj rfl rfl) rfl<|sg rfl rfl (fun h => vk rfl (gd h rfl) rfl) rfl<|su (jg rfl rfl rfl rfl) rfl<|sa rfl rfl<|qd<|qo ?_;subst hR;exact za rfl (rv_g rfl)
def qqb (a0 : S115) : Int :=
 (qw5 [(qk9 a0.Name), (qk9 a0.Carrier), (qk9 a0.Partner), (qom a0.Terminal), (qom a0.Link), (qh3 (!(qqc a0.Kind)) 13), (qh3 (decide (a0.Link = a0.Name)) 32), (s102 a0.Period), (qh2 a0.Minute 0 1439), (qh2 a0.Seats 0 999), (qh2 a0.Size 1 9), (qh2 a0.Noise 0 99)])
theorem zcp {g : GL} (a0 : S115)    : Con (EG g) 153 [G.agg (S115.c a0)] (G.int (qqb a0)) := by
 generalize hR : qqb a0 = R;unfold qqb at hR;refine qm Tryz.func153 rfl rfl fun w0 M0 => ?_;refine qb<|qa [.p, .p]<|su (zi rfl rfl) rfl<|sa rfl rfl<|qd<|qb<|zr [.p, .p, .p, .p, .p, .p, .p, .p, .p, .p, .p, .p, .p, .p, .p, .p, .p, .p, .p, .p, .p, .p, .p, .p, .p, .p, .p, .p, .p, .p, .p, .p, .p, .p, .p, .p, .p, .p, .p, .p, .p, .p, .p, .p] (by kernel_rfl)<|su (qc rfl kh rfl) rfl<|su (qf rfl ty9 rfl) rfl<|su (qg rfl q2z rfl (q5j a0.Name) (qe rfl qk)) rfl<|su (qc rfl qj0 rfl) rfl<|su (qf rfl ty9 rfl) rfl<|su (qg rfl q2z rfl (q5j a0.Carrier) (qe rfl qk)) rfl<|su (qc rfl qqq rfl) rfl<|su (qf rfl ty9 rfl) rfl<|su (qg rfl q2z rfl (q5j a0.Partner) (qe rfl qk)) rfl<|su (qc rfl qfn rfl) rfl<|su (qf rfl ty9 rfl) rfl<|su (qg rfl q5z rfl (q8l a0.Terminal) (qe rfl qk)) rfl<|su (qc rfl qg9 rfl) rfl<|su (qf rfl ty9 rfl) rfl<|su (qg rfl q5z rfl (q8l a0.Link) (qe rfl qk)) rfl<|su (qc rfl qd3 rfl) rfl<|su (qf rfl ty9 rfl) rfl<|su (qg rfl q9m rfl (zd6 a0.Kind) (qe rfl qk)) rfl<|su (jo rfl rfl) rfl<|su (qg rfl quq rfl (qyd (!(qqc a0.Kind)) 13) (qe rfl (qe rfl qk))) rfl<|su (qc rfl qg9 rfl) rfl<|su (qf rfl ty9 rfl) rfl<|su (qc rfl kh rfl) rfl<|su (qf rfl ty9 rfl) rfl<|su (vk rfl rfl rfl) rfl<|su (qg rfl quq rfl (qyd (decide (a0.Link = a0.Name)) 32) (qe rfl (qe rfl qk))) rfl<|su (qc rfl vt rfl) rfl<|su (qr rfl ty46 rfl rfl rfl) rfl<|su (qg rfl K102 rfl (c102 a0.Period) (qe rfl qk)) rfl<|su (qc rfl qha rfl) rfl<|su (qf rfl ty3 rfl) rfl<|su (qg rfl qyl rfl (q04 a0.Minute 0 1439) (qe rfl (qe rfl (qe rfl qk)))) rfl<|su (qc rfl qj1 rfl) rfl<|su (qf rfl ty3 rfl) rfl<|su (qg rfl qyl rfl (q04 a0.Seats 0 999) (qe rfl (qe rfl (qe rfl qk)))) rfl<|su (qc rfl qj2 rfl) rfl<|su (qf rfl ty3 rfl) rfl<|su (qg rfl qyl rfl (q04 a0.Size 1 9) (qe rfl (qe rfl (qe rfl qk)))) rfl<|su (qc rfl qf3 rfl) rfl<|su (qf rfl ty3 rfl) rfl<|su (qg rfl qyl rfl (q04 a0.Noise 0 99) (qe rfl (qe rfl (qe rfl qk)))) rfl ?_;refine su (qt rfl Tryz.underlying170 ty37 z37 rfl (qx rfl (qx rfl (qx rfl (qx rfl (qx rfl (qx rfl (qx rfl (qx rfl (qx rfl (qx rfl (qx rfl (qx rfl jp)))))))))))) rfl (by simp []) (by decide)) rfl ?_;refine su (qg rfl q9l rfl (zd4 [(qk9 a0.Name), (qk9 a0.Carrier), (qk9 a0.Partner), (qom a0.Terminal), (qom a0.Link), (qh3 (!(qqc a0.Kind)) 13), (qh3 (decide (a0.Link = a0.Name)) 32), (s102 a0.Period), (qh2 a0.Minute 0 1439), (qh2 a0.Seats 0 999), (qh2 a0.Size 1 9), (qh2 a0.Noise 0 99)]) (qe rfl qk)) rfl<|sa rfl rfl<|qd<|qo ?_;subst hR;exact za rfl (rv_g rfl)
def q0q (a0 : S115) : Bool :=
 (((((decide ((ByteArray.size a0.Name : Int) ≤ 40)) && (decide ((ByteArray.size a0.Carrier : Int) ≤ 40))) && (decide ((ByteArray.size a0.Kind : Int) ≤ 40))) && (decide ((ByteArray.size a0.Terminal : Int) ≤ 40))) && (decide ((ByteArray.size a0.Partner : Int) ≤ 40))) && (decide ((ByteArray.size a0.Link : Int) ≤ 40))
theorem zc7 {g : GL} (a0 : S115)    : Con (EG g) 132 [G.agg (S115.c a0)] (G.bool (q0q a0)) := by
 generalize hR : q0q a0 = R;unfold q0q at hR;refine qm Tryz.func132 rfl rfl fun w0 M0 => ?_;refine qb<|qa [.p, .p]<|su (zi rfl rfl) rfl<|sa rfl rfl<|qd<|qb<|qa [.p, .p, .p, .p, .p, .p, .p, .p, .p, .p, .p, .p, .p, .p, .p, .p, .p, .p, .p, .p, .p, .p, .p, .p, .p, .p, .p, .p, .p, .p, .p, .p, .p, .p, .p]<|su (qc rfl kh rfl) rfl<|su (qf rfl ty9 rfl) rfl<|su (vz rfl Tryz.underlying9 rfl) rfl<|su (vj rfl rfl rfl) rfl<|sm rfl rfl<|sg rfl rfl (fun h => qc rfl qj0 rfl) rfl<|sg rfl rfl (fun h => qf rfl ty9 (gd h rfl)) rfl<|sg rfl rfl (fun h => vz rfl Tryz.underlying9 (gd h rfl)) rfl<|sg rfl rfl (fun h => vj rfl (gd h rfl) rfl) rfl<|su (zt rfl rfl rfl rfl) rfl<|sm rfl rfl<|sg rfl rfl (fun h => qc rfl qd3 rfl) rfl<|sg rfl rfl (fun h => qf rfl ty9 (gd h rfl)) rfl<|sg rfl rfl (fun h => vz rfl Tryz.underlying9 (gd h rfl)) rfl<|sg rfl rfl (fun h => vj rfl (gd h rfl) rfl) rfl<|su (zt rfl rfl rfl rfl) rfl<|sm rfl rfl<|sg rfl rfl (fun h => qc rfl qfn rfl) rfl<|sg rfl rfl (fun h => qf rfl ty9 (gd h rfl)) rfl<|sg rfl rfl (fun h => vz rfl Tryz.underlying9 (gd h rfl)) rfl<|sg rfl rfl (fun h => vj rfl (gd h rfl) rfl) rfl<|su (zt rfl rfl rfl rfl) rfl<|sm rfl rfl<|sg rfl rfl (fun h => qc rfl qqq rfl) rfl<|sg rfl rfl (fun h => qf rfl ty9 (gd h rfl)) rfl<|sg rfl rfl (fun h => vz rfl Tryz.underlying9 (gd h rfl)) rfl<|sg rfl rfl (fun h => vj rfl (gd h rfl) rfl) rfl<|su (zt rfl rfl rfl rfl) rfl<|sm rfl rfl<|sg rfl rfl (fun h => qc rfl qg9 rfl) rfl<|sg rfl rfl (fun h => qf rfl ty9 (gd h rfl)) rfl<|sg rfl rfl (fun h => vz rfl Tryz.underlying9 (gd h rfl)) rfl<|sg rfl rfl (fun h => vj rfl (gd h rfl) rfl) rfl<|su (zt rfl rfl rfl rfl) rfl<|sa rfl rfl<|qd<|qo ?_;subst hR;exact za rfl (rv_g rfl)
def s180 (a0 : Int) : Int :=
 Int.tmod (IntKind.i64.wrap (a0 + 5)) 7
theorem c180 {g : GL} (a0 : Int)    : Con (EG g) 81 [G.int a0] (G.int (s180 a0)) := by
 generalize hR : s180 a0 = R;unfold s180 at hR;refine qm Tryz.func81 rfl rfl fun w0 M0 => ?_;refine qb<|qa [.p]<|sa rfl rfl<|qd<|qb<|qa [.p, .p, .p, .p]<|sm rfl rfl<|su (kl rfl rfl rfl) rfl ?_;refine su (qgd rfl rfl rfl (by decide)) rfl ?_;refine sa rfl rfl<|qd<|qo ?_;subst hR;exact za rfl (rv_g rfl)
def qid  : Nat → Int → Int → Bool
 | 0, x1, x2 => decide (Int.tmod x1 2 = 1)
 | k4 + 1, x1, x2 => qid k4 (IntKind.i64.wrap (Int.tdiv x1 2)) (x2 + 1)
def s192 (a0 : Int) (a1 : Int) : Bool :=
 qid ((a1 - 0).toNat) a0 0
theorem c192 {g : GL} (a0 : Int) (a1 : Int)  (hw : a1 ≤ 7)  : Con (EG g) 80 [G.int a0, G.int a1] (G.bool (s192 a0 a1)) := by
 generalize hR : s192 a0 a1 = R;unfold s192 at hR;refine qm Tryz.func80 rfl rfl fun w0 M0 => ?_;refine qb<|qa [.p]<|sa rfl rfl<|qd<|qb<|qb<|qa [.p]<|sa rfl rfl<|qd<|qp<|zf (γ := Nat × Int × Int) (fun g => ([(0, .g (G.int g.2.1)), (1, .g (G.int a1)), (5, .g (G.int g.2.2))], [])) (fun g => g.1 = (a1 - g.2.2).toNat ∧ 0 ≤ g.2.2 ∧ qid g.1 g.2.1 g.2.2 = R) (fun g => g.1) ⟨rfl, ((a1 - 0).toNat, a0, 0), ⟨rfl, rfl, rfl, trivial⟩, trivial, rfl, ⟨rfl, iD, (by exact hR)⟩, trivial⟩ ?_
 ·rintro ⟨k4, x1, x2⟩ ⟨hk1, iv1_0, hR⟩;replace hk1 : k4 = (a1 - x2).toNat := hk1;replace hR : qid k4 x1 x2 = R := hR;replace iv1_0 : 0 ≤ x2 := iv1_0;refine qb<|qb<|qa [.p, .p, .p]<|sm rfl rfl<|sm rfl rfl<|su (zd rfl rfl rfl) rfl<|qd ?_;refine ql _ rfl (fun h1 => ?_) (fun h1 => ?_)
  ·replace h1 : (decide (x2 < a1)) = true := h1;replace h1 := decT h1;obtain ⟨k4, rfl⟩ : ∃ m, k4 = m + 1 := ⟨k4 - 1, by omega⟩;rw [qid] at hR;(try dsimp only at hR);refine qn<|qb<|qp<|qa [.p, .p, .p]<|sm rfl rfl ?_;refine su (qgj rfl rfl rfl (by decide)) rfl ?_;refine sa rfl rfl<|qd<|qa [.p, .p, .p]<|sm rfl rfl<|su (zn rfl rfl rfl iG) rfl<|sa rfl rfl<|qd ?_;exact ⟨rfl, (k4, IntKind.i64.wrap (Int.tdiv x1 2), x2 + 1), ⟨rfl, rfl, rfl, trivial⟩, trivial, rfl, ⟨iB, iB, hR⟩, by simp⟩
  ·replace h1 : (decide (x2 < a1)) = false := h1;replace h1 := decF h1
   obtain rfl : k4 = 0 := by omega
   rw [qid] at hR;refine zw<|qb<|qa [.p, .p, .p, .p]<|sm rfl rfl ?_;refine su (qgd rfl rfl rfl (by decide)) rfl ?_;refine su (jn rfl rfl rfl) rfl<|sa rfl rfl<|qd<|qo ?_;subst hR;exact za rfl (rv_g rfl)
def qd0 (a1 : ByteArray) : List ByteArray → Nat → Int
 | [], k2 => (-1)
 | y3 :: t4, k2 => (bif decide (a1 = y3) then ((k2 : Nat) : Int) else qd0 a1 t4 (k2 + 1))
def s148 (a0 : List ByteArray) (a1 : ByteArray) : Int :=
 qd0 a1 a0 0
theorem c148 {g : GL} (a0 : List ByteArray) (a1 : ByteArray)    : Con (EG g) 168 [G.sl 1 (List.map cStr a0), G.str a1] (G.int (s148 a0 a1)) := by
 generalize hR : s148 a0 a1 = R;unfold s148 at hR;refine qm Tryz.func168 rfl rfl fun w0 M0 => ?_;refine zu (f := cStr) (l := a0) 0 rfl fun hla0 => ?_;refine qb<|qa [.p]<|sa rfl rfl<|qd<|qb<|qb<|qa [.p, .p, .p]<|sm rfl rfl<|su (zb (f := cStr) (l := a0) rfl Tryz.underlying35 rfl) rfl<|sm rfl rfl<|qd<|qp<|zf (γ := Nat × (List ByteArray)) (fun g => ([(0, .g (G.sl 1 (List.map cStr a0))), (1, .g (G.str a1)), (7, .g (G.int (List.length a0 : Int))), (8, .g (G.int ((g.1 : Nat) : Int)))], [])) (fun g => a0.drop g.1 = g.2 ∧ qd0 a1 g.2 g.1 = R) (fun g => List.length g.2) ⟨rfl, (0, a0), jA, trivial, rfl, ⟨rfl, (by exact hR)⟩, trivial⟩ ?_
 ·rintro ⟨k2, t4⟩ ⟨hd, hR⟩;replace hd : a0.drop k2 = t4 := hd;replace hR : qd0 a1 t4 k2 = R := hR;refine qb<|qa [.p]<|su (zd rfl rfl rfl) rfl<|qd ?_;refine zu (f := cStr) (l := a0) 0 rfl fun hlz1 => ?_;refine qb ?_;refine ql _ rfl (fun h1 => ?_) (fun h1 => ?_)
  ·replace h1 : (decide (((k2 : Nat) : Int) < (List.length a0 : Int))) = true := h1;obtain ⟨y3, t4, rfl, hx1, hd⟩ := zq hd (decT h1);replace h1 := decT h1;rw [qd0] at hR;(try dsimp only at hR);refine qn<|qb<|qp<|qb<|qa [.p, .p]<|sm rfl rfl<|sa rfl rfl<|qd<|qb<|qa [.p, .p, .p, .p, .p, .p]<|sm rfl rfl<|sm rfl rfl<|sm rfl rfl<|su (z5 (f := cStr) (l := a0) (a := y3) rfl Tryz.underlying35 ty9 rfl rfl (Int.natCast_nonneg _) hx1) rfl<|su (qf rfl ty9 rfl) rfl<|su (vk rfl rfl rfl) rfl<|qd ?_;refine ql _ rfl (fun h3 => ?_) (fun h3 => ?_)
   ·replace hR := zk hR h3;refine qb<|qa [.p, .p]<|sm rfl rfl<|sa rfl rfl<|qd<|qo ?_;subst hR;exact za rfl (rv_g rfl)
   ·replace h3 : (decide (a1 = y3)) = false := h3;replace hR := zl hR h3;(try simp only [bB] at h3);refine qn<|qa [.p, .p]<|su (zn rfl rfl rfl iE) rfl<|sm rfl rfl<|qd ?_;exact ⟨rfl, (k2 + 1, t4), jA, trivial, rfl, ⟨hd, hR⟩, by simp⟩
  ·replace h1 : (decide (((k2 : Nat) : Int) < (List.length a0 : Int))) = false := h1;obtain rfl := zz hd (decF h1);rw [qd0] at hR;refine zw<|qb<|qa [.p]<|sa rfl rfl<|qd<|qo ?_;subst hR;exact za rfl (rv_g rfl)
def s88 (a0 : List ByteArray) (a1 : ByteArray) : Bool :=
 decide (0 ≤ (s148 a0 a1))
theorem c88 {g : GL} (a0 : List ByteArray) (a1 : ByteArray)    : Con (EG g) 115 [G.sl 1 (List.map cStr a0), G.str a1] (G.bool (s88 a0 a1)) := by
 generalize hR : s88 a0 a1 = R;unfold s88 at hR;refine qm Tryz.func115 rfl rfl fun w0 M0 => ?_;refine zu (f := cStr) (l := a0) 0 rfl fun hla0 => ?_;refine qb<|qa [.p]<|sa rfl rfl<|qd<|qb<|qa [.p, .p, .p, .p, .p]<|sm rfl rfl<|sm rfl rfl<|su (qg rfl K148 rfl (c148 a0 a1) (qe rfl (qe rfl qk))) rfl<|su (xo rfl rfl rfl) rfl<|sa rfl rfl<|qd<|qo ?_;subst hR;exact za rfl (rv_g rfl)
theorem zdb {f t x : Int} (hf : 0 ≤ f) (ht : t ≤ 1000000) (h : ((decide (f ≤ x) && decide (x ≤ t)) == true) = true) : 0 ≤ s188 x := by
 have h1 : f ≤ x ∧ x ≤ t := by simpa using h
 unfold s188;rw [wrap_i64 (by unfold I64; omega)];exact Int.tmod_nonneg 7 (by omega)
def G.slX (k : Nat) (xs : List (List G)) : G :=
 ⟨fun w M u => (∀ c ∈ xs, c.length = k) ∧ ((xs = [] ∧ u = .slice none 0 0) ∨ ∃ b cap cur e, u = .slice (some ⟨b, 0, none⟩) xs.length cap ∧ xs.length ≤ cap ∧ cap ≤ maxLen ∧ ¬ M b ∧ w.heap[b]? = some (.cells cur e (0, 0)) ∧ cur.size = cap * k ∧ Fits w M xs.flatten (cur.toList.take (xs.length * k))), fun {w w' M M' u} h hh hM => by
  obtain ⟨h0, h⟩ := h;refine ⟨h0, ?_⟩
  rcases h with h | ⟨b, cap, cur, e, h1, h2, h3, h4, h5, h6, h7⟩
  ·exact .inl h
  ·have hlt := (Array.getElem?_eq_some_iff.1 h5).1
   exact .inr ⟨b, cap, cur, e, h1, h2, h3, fun hm => h4 (hM b hlt hm), (hh b hlt h4).trans h5, h6, h7.mono hh hM⟩⟩
instance (k : Nat) (xs : List (List G)) : One (.slX k xs) := ⟨fun ⟨_, h⟩ => by
 rcases h with ⟨_, h⟩ | ⟨_, _, _, _, h, _⟩ <;> rw [h] <;> rfl⟩
theorem q66 {w : World} {M : Nat → Prop} {k : Nat} {xs : List (List G)} {u : Value} (h : (G.slX k xs).p w M u) : (G.sl k xs).p w M u := by
 obtain ⟨h0, h⟩ := h
 rcases h with ⟨rfl, rfl⟩ | ⟨b, cap, cur, e, h1, h2, h3, h4, h5, h6, h7⟩
 ·exact ⟨none, 0, rfl, Nat.le_refl _, Nat.zero_le _, h0, .inl ⟨rfl, fun _ => rfl⟩⟩
 ·exact ⟨some ⟨b, 0, none⟩, cap, h1, h2, h3, h0, .inr ⟨b, 0, rfl, h4, by
   have hl := qac h0;have hls := h7.length
   have : ∀ j v, (cur.toList.take (xs.length * k))[j]? = some v → w.cell? ⟨b, 0 + j, none⟩ = some v := by
    intro j v hj;rw [List.getElem?_take] at hj
    split at hj
    ·rw [cell_of_row w _ _ _ _ _ h5, Nat.zero_add]; simpa using hj
    ·cases hj
   exact cells_of_get h7 this⟩⟩
where cells_of_get {w : World} {M : Nat → Prop} {b : Nat} : ∀ {cs : List G} {vs : List Value} {o : Nat}, Fits w M cs vs → (∀ j v, vs[j]? = some v → w.cell? ⟨b, o + j, none⟩ = some v) → Cells w M b o cs
 | [], _, _, _, _ => trivial
 | c :: cs, [], _, h, _ => h.elim
 | c :: cs, v :: vs, o, h, hg => ⟨⟨v, hg 0 v rfl, h.1.1, h.1.2⟩, cells_of_get h.2 fun j u hj => by
   have := hg (j + 1) u (by simpa using hj)
   rwa [show o + (j + 1) = o + 1 + j by omega] at this⟩
theorem q34 (k : Nat) : ∀ w M, (G.slX k []).p w M (.slice none 0 0) := fun _ _ => ⟨by simp, .inl ⟨rfl, rfl⟩⟩
theorem qyf (l : List Int) : (l.map cInt).flatten = (l.map (Value.int .i64)).map G.lit := by
 induction l with
 | nil => rfl
 | cons x l ih => simp [ih]
theorem qs7 {w : World} {M : Nat → Prop} : ∀ {vs : List Value}, (∀ v ∈ vs, v.oneCell' = true) → Fits w M (vs.map G.lit) vs
 | [], _ => trivial
 | v :: vs, h => ⟨⟨rfl, h v List.mem_cons_self⟩, qs7 fun u hu => h u (List.mem_cons_of_mem _ hu)⟩
theorem q5k {w w' : World} {M : Nat → Prop} {e : TypeId} {v : Value} {n0 : Nat} {l : List Int} (hM : ∀ b, M b → b < w.heap.size) (hn : w.heap.size ≤ n0) (h : w'.ownsRow n0 e 1 v l.length (l.map (Value.int .i64))) : (G.slX 1 (l.map cInt)).p w' M v := by
 obtain ⟨h1, h2⟩ := h;refine ⟨fun c hc => ?_, ?_⟩
 ·obtain ⟨x, _, rfl⟩ := List.mem_map.1 hc; rfl
 rcases h2 with ⟨rfl, h2⟩ | ⟨gg, cap, cur, rfl, g1, g2, g3, g4, g5, g6⟩
 ·exact .inl ⟨by rw [List.eq_nil_of_length_eq_zero h2]; rfl, rfl⟩
 ·refine .inr ⟨gg, cap, cur, e, by simp, by simpa using g3, g4, fun hm => by have := hM _ hm; omega, g2, g5, ?_⟩;rw [List.length_map, g6, qyf]
  exact qs7 fun v hv => by obtain ⟨x, _, rfl⟩ := List.mem_map.1 hv; rfl
theorem zb0 {g : GL} (f t m : Int) (hf : 0 ≤ f) (ht : t ≤ 1000000) : Con (EG g) 174 [G.fn (.func 193) [] [G.ref [G.int f, G.int t, G.int m]], G.lit (.func (.func 176) #[] #[])] (G.slX 1 (List.map cInt (dayL m (t + 1 - f).toNat f))) := by
 intro w M vs hM hgl hv
 match vs, hv with
 | [v1, v2], hv =>
  obtain ⟨⟨fs, cs, rfl, hfs, hcs⟩, rfl, _⟩ := hv
  cases fs with
  | cons _ _ => exact hfs.elim
  | nil =>
   match cs, hcs with
   | [c], hcs =>
    obtain ⟨b, o, rfl, hnm, hc⟩ := hcs.1
    have hnm : ¬ M b := by rcases hnm with h | h; cases h; exact h
    obtain ⟨⟨_, e1, e1', _⟩, ⟨_, e2, e2', _⟩, ⟨_, e3, e3', _⟩, _⟩ := hc;have e1' : _ = _ := e1'; have e2' : _ = _ := e2'; have e3' : _ = _ := e3';subst e1'; subst e2'; subst e3';have hb : b < w.heap.size := block_lt_of_cell e1;refine (callsIn_wide.1 (qqn b o f t m hf ht w hb e1 e2 e3)).mono ?_;rintro e W' ⟨v, rfl, h1, _, h3⟩;exact ⟨v, rfl, h3, q5k hM (Nat.le_succ _) h1⟩
theorem c136 {g : GL} (f t m : Int) : Con (EG g) 175 [G.agg [G.int f, G.int t, G.int m]] (G.fn (.func 193) [] [G.ref [G.int f, G.int t, G.int m]]) := by
 refine qm Tryz.func175 rfl rfl fun w0 M0 => ?_;refine qb<|qa [.p, .p]<|st rfl rfl (zi rfl rfl) rfl<|st rfl rfl (jb rfl rfl) rfl<|qd<|qb<|qa [.p, .p]<|st rfl rfl (qas rfl rfl rfl) rfl<|st rfl rfl (jb rfl rfl) rfl<|qd<|qo ?_;exact za rfl (rv_g rfl)
theorem q2i (a b : Int) (h : s152 [a, b] = 0) : a = 0 ∧ b = 0 := by
 simp only [s152, qcu] at h
 by_cases ha : a = 0
 ·by_cases hb : b = 0
  ·exact ⟨ha, hb⟩
  ·simp [ha, hb] at h
 ·simp [ha] at h
theorem q8m (a b c : Int) (h : s152 [a, b, c] = 0) : a = 0 ∧ b = 0 ∧ c = 0 := by
 simp only [s152, qcu] at h
 by_cases ha : a = 0
 ·by_cases hb : b = 0
  ·by_cases hc : c = 0
   ·exact ⟨ha, hb, hc⟩
   ·simp [ha, hb, hc] at h
  ·simp [ha, hb] at h
 ·simp [ha] at h
theorem rng0 (n lo hi : Int) (h : s155 n lo hi = 0) : lo ≤ n ∧ n ≤ hi := by
 simp only [s155, s154] at h
 by_cases h1 : n < lo
 ·simp [h1] at h
 ·by_cases h2 : hi < n
  ·simp [h2] at h
  ·omega
theorem q8n (b : Bool) (e : Int) (he : e ≠ 0) (h : s154 b e = 0) : b = false := by
 cases b with
 | false => rfl
 | true => exact absurd h he
theorem j7 (p : S45) (h : s102 p = 0) : 0 ≤ p.fFrom ∧ p.fFrom ≤ p.fTo ∧ p.fTo ≤ 99999 ∧ p.fTo - p.fFrom ≤ 400 ∧ 1 ≤ p.Days ∧ p.Days ≤ 127 := by
 unfold s102 at h
 by_cases h1 : s152 [s153 p.fFrom, s153 p.fTo] = 0
 ·rw [decide_eq_false (by simpa using h1)] at h;rw [cond_false] at h;obtain ⟨a1, a2⟩ := q2i _ _ h1;obtain ⟨b1, b2, b3⟩ := q8m _ _ _ h;have c1 := rng0 _ _ _ a1;have c2 := rng0 _ _ _ a2;have c3 := rng0 _ _ _ b3;have d1 := q8n _ _ (by decide) b1;have d2 := q8n _ _ (by decide) b2;simp only [decide_eq_false_iff_not] at d1 d2;rw [wrap_i64 (by unfold I64; omega)] at d2
  omega
 ·rw [decide_eq_true (by simpa using h1)] at h;exact absurd h h1
def wy  : List Int → Nat → Int
 | [], k2 => 0
 | y3 :: t4, k2 => (bif decide (y3 ≠ 0) then y3 else wy  t4 (k2 + 1))
def vr (a0 : List Int) : Int :=
 wy a0 0
theorem qk0 {g : GL} (a0 : List Int)    : Con (EG g) 40 [G.sl 1 (List.map cInt a0)] (G.int (vr a0)) := by
 generalize hR : vr a0 = R;unfold vr at hR;refine qm Tryz.func40 rfl rfl fun w0 M0 => ?_;refine zu (f := cInt) (l := a0) 0 rfl fun hla0 => ?_;refine qb<|qa [.p]<|sa rfl rfl<|qd<|qb<|qb<|qa [.p, .p, .p]<|sm rfl rfl<|su (zb (f := cInt) (l := a0) rfl Tryz.underlying170 rfl) rfl<|sm rfl rfl<|qd<|qp<|zf (γ := Nat × (List Int)) (fun g => ([(5, .g (G.sl 1 (List.map cInt a0))), (6, .g (G.int (List.length a0 : Int))), (7, .g (G.int ((g.1 : Nat) : Int)))], [])) (fun g => a0.drop g.1 = g.2 ∧ wy  g.2 g.1 = R) (fun g => List.length g.2) ⟨rfl, (0, a0), ⟨rfl, rfl, rfl, trivial⟩, trivial, rfl, ⟨rfl, (by exact hR)⟩, trivial⟩ ?_
 ·rintro ⟨k2, t4⟩ ⟨hd, hR⟩;replace hd : a0.drop k2 = t4 := hd;replace hR : wy  t4 k2 = R := hR;refine qb<|qa [.p]<|su (zd rfl rfl rfl) rfl<|qd ?_;refine zu (f := cInt) (l := a0) 5 rfl fun hlz1 => ?_;refine qb ?_;refine ql _ rfl (fun h1 => ?_) (fun h1 => ?_)
  ·replace h1 : (decide (((k2 : Nat) : Int) < (List.length a0 : Int))) = true := h1;obtain ⟨y3, t4, rfl, hx1, hd⟩ := zq hd (decT h1);replace h1 := decT h1;rw [wy] at hR;(try dsimp only at hR);refine qn<|qb<|qp<|qb<|qa [.p, .p, .p]<|su (z5 (f := cInt) (l := a0) (a := y3) rfl Tryz.underlying170 ty37 rfl rfl (Int.natCast_nonneg _) hx1) rfl<|su (qf rfl ty37 rfl) rfl<|sa rfl rfl<|qd<|qb<|qa [.p, .p]<|sm rfl rfl<|su (zx rfl rfl rfl) rfl<|qd ?_;refine ql _ rfl (fun h3 => ?_) (fun h3 => ?_)
   ·replace hR := zk hR h3;refine qb<|qa [.p, .p]<|sm rfl rfl<|sa rfl rfl<|qd<|qo ?_;subst hR;exact za rfl (rv_g rfl)
   ·replace h3 : (decide (y3 ≠ 0)) = false := h3;replace hR := zl hR h3;(try simp only [bB] at h3);refine qn<|qa [.p, .p]<|su (zn rfl rfl rfl iE) rfl<|sm rfl rfl<|qd ?_;exact ⟨rfl, (k2 + 1, t4), ⟨rfl, rfl, rfl, trivial⟩, trivial, rfl, ⟨hd, hR⟩, by simp⟩
  ·replace h1 : (decide (((k2 : Nat) : Int) < (List.length a0 : Int))) = false := h1;obtain rfl := zz hd (decF h1);rw [wy] at hR;refine zw<|qb<|qa [.p]<|sa rfl rfl<|qd<|qo ?_;subst hR;exact za rfl (rv_g rfl)
def xk (a0 : Bool) (a1 : Int) : Int :=
 (bif a0 then a1 else 0)
theorem qlc {g : GL} (a0 : Bool) (a1 : Int)    : Con (EG g) 98 [G.bool a0, G.int a1] (G.int (xk a0 a1)) := by
 generalize hR : xk a0 a1 = R;unfold xk at hR;refine qm Tryz.func98 rfl rfl fun w0 M0 => ?_;refine qb<|qa [.p]<|sa rfl rfl<|qd<|qb<|qb<|qa [.p]<|sm rfl rfl<|qd ?_;refine ql _ rfl (fun h1 => ?_) (fun h1 => ?_)
 ·replace hR := zk hR h1;refine qb<|qa [.p, .p]<|sm rfl rfl<|sa rfl rfl<|qd<|qo ?_;subst hR;exact za rfl (rv_g rfl)
 ·replace hR := zl hR h1;refine qn<|qb<|qa [.p]<|sa rfl rfl<|qd<|qo ?_;subst hR;exact za rfl (rv_g rfl)
def qbk (a0 : Int) (a1 : Int) (a2 : Int) : Int :=
 (xk ((decide (a0 < a1)) || (decide (a2 < a0))) 3)
theorem qlt {g : GL} (a0 : Int) (a1 : Int) (a2 : Int)    : Con (EG g) 61 [G.int a0, G.int a1, G.int a2] (G.int (qbk a0 a1 a2)) := by
 generalize hR : qbk a0 a1 a2 = R;unfold qbk at hR;refine qm Tryz.func61 rfl rfl fun w0 M0 => ?_;refine qb<|qa [.p]<|sa rfl rfl<|qd<|qb<|qa [.p, .p, .p, .p, .p, .p, .p, .p, .p, .p]<|sm rfl rfl<|sm rfl rfl<|su (zd rfl rfl rfl) rfl<|sm rfl rfl<|sg rfl rfl (fun h => qj rfl rfl) rfl<|sg rfl rfl (fun h => qj rfl rfl) rfl<|sg rfl rfl (fun h => zy rfl (gd h rfl) (gd h rfl)) rfl<|su (jg rfl rfl rfl rfl) rfl<|su (qg rfl qjz rfl (qlc ((decide (a0 < a1)) || (decide (a2 < a0))) 3) (qe rfl (qe rfl qk))) rfl<|sa rfl rfl<|qd<|qo ?_;subst hR;exact za rfl (rv_g rfl)
def qoe (a0 : ByteArray) : Int :=
 (xk ((!decide (a0 = (⟨#[65]⟩))) && (!decide (a0 = (⟨#[68]⟩)))) 13)
theorem q8o {g : GL} (a0 : ByteArray)    : Con (EG g) 95 [G.str a0] (G.int (qoe a0)) := by
 generalize hR : qoe a0 = R;unfold qoe at hR;refine qm Tryz.func95 rfl rfl fun w0 M0 => ?_;refine qb<|qa [.p]<|sa rfl rfl<|qd<|qb<|qa [.p, .p, .p, .p, .p, .p, .p, .p]<|sm rfl rfl<|su (qbn rfl rfl rfl) rfl<|sm rfl rfl<|sg rfl rfl (fun h => qj rfl rfl) rfl<|sg rfl rfl (fun h => qbn rfl (gd h rfl) rfl) rfl<|su (zt rfl rfl rfl rfl) rfl<|su (qg rfl qjz rfl (qlc ((!decide (a0 = (⟨#[65]⟩))) && (!decide (a0 = (⟨#[68]⟩)))) 13) (qe rfl (qe rfl qk))) rfl<|sa rfl rfl<|qd<|qo ?_;subst hR;exact za rfl (rv_g rfl)
def qky (a0 : ByteArray) : Int :=
 (xk ((!decide (a0 = (⟨#[]⟩))) && (!(s147 a0))) 8)
theorem q5l {g : GL} (a0 : ByteArray)    : Con (EG g) 96 [G.str a0] (G.int (qky a0)) := by
 generalize hR : qky a0 = R;unfold qky at hR;refine qm Tryz.func96 rfl rfl fun w0 M0 => ?_;refine qb<|qa [.p]<|sa rfl rfl<|qd<|qb<|qa [.p, .p, .p, .p, .p, .p, .p, .p, .p]<|sm rfl rfl<|su (qbn rfl rfl rfl) rfl<|sm rfl rfl<|sg rfl rfl (fun h => qj rfl rfl) rfl<|sg rfl rfl (fun h => qg rfl K147 rfl (c147 a0) (qe (gd h rfl) qk)) rfl<|sg rfl rfl (fun h => jo rfl (gd h rfl)) rfl<|su (zt rfl rfl rfl rfl) rfl<|su (qg rfl qjz rfl (qlc ((!decide (a0 = (⟨#[]⟩))) && (!(s147 a0))) 8) (qe rfl (qe rfl qk))) rfl<|sa rfl rfl<|qd<|qo ?_;subst hR;exact za rfl (rv_g rfl)
def qof (a0 : Int) (a1 : Int) (a2 : Int) : Int :=
 (vr [(qbk a0 0 999), (qbk a1 0 9), (qbk a2 0 99)])
theorem q8p {g : GL} (a0 : Int) (a1 : Int) (a2 : Int)    : Con (EG g) 97 [G.int a0, G.int a1, G.int a2] (G.int (qof a0 a1 a2)) := by
 generalize hR : qof a0 a1 a2 = R;unfold qof at hR;refine qm Tryz.func97 rfl rfl fun w0 M0 => ?_;refine qb<|qa [.p]<|sa rfl rfl<|qd<|qb<|qa [.p, .p, .p, .p, .p, .p, .p, .p, .p]<|sm rfl rfl<|su (qg rfl qli rfl (qlt a0 0 999) (qe rfl (qe rfl (qe rfl qk)))) rfl<|sm rfl rfl<|su (qg rfl qli rfl (qlt a1 0 9) (qe rfl (qe rfl (qe rfl qk)))) rfl<|sm rfl rfl<|su (qg rfl qli rfl (qlt a2 0 99) (qe rfl (qe rfl (qe rfl qk)))) rfl ?_;refine su (qt rfl Tryz.underlying170 ty37 z37 rfl (qx rfl (qx rfl (qx rfl jp))) rfl (by simp []) (by decide)) rfl ?_;refine su (qg rfl qjy rfl (qk0 [(qbk a0 0 999), (qbk a1 0 9), (qbk a2 0 99)]) (qe rfl qk)) rfl<|sa rfl rfl<|qd<|qo ?_;subst hR;exact za rfl (rv_g rfl)
def qcx (a0 : S115) : Int :=
 (vr [(xk (!(s147 a0.Name)) 8), (qoe a0.Kind), (qky a0.Terminal), (s102 a0.Period), (qbk a0.Minute 0 1439), (qof a0.Seats a0.Size a0.Noise)])
theorem q67 {g : GL} (a0 : S115)    : Con (EG g) 126 [G.agg (S115.c a0)] (G.int (qcx a0)) := by
 generalize hR : qcx a0 = R;unfold qcx at hR;refine qm Tryz.func126 rfl rfl fun w0 M0 => ?_;refine qb<|qa [.p, .p]<|su (zi rfl rfl) rfl<|sa rfl rfl<|qd<|qb<|zr [.p, .p, .p, .p, .p, .p, .p, .p, .p, .p, .p, .p, .p, .p, .p, .p, .p, .p, .p, .p, .p, .p, .p, .p, .p, .p, .p] (by kernel_rfl)<|su (qc rfl kh rfl) rfl<|su (qf rfl ty9 rfl) rfl<|su (qg rfl K147 rfl (c147 a0.Name) (qe rfl qk)) rfl<|su (jo rfl rfl) rfl<|su (qg rfl qjz rfl (qlc (!(s147 a0.Name)) 8) (qe rfl (qe rfl qk))) rfl<|su (qc rfl qd3 rfl) rfl<|su (qf rfl ty9 rfl) rfl<|su (qg rfl q5q rfl (q8o a0.Kind) (qe rfl qk)) rfl<|su (qc rfl qfn rfl) rfl<|su (qf rfl ty9 rfl) rfl<|su (qg rfl q2x rfl (q5l a0.Terminal) (qe rfl qk)) rfl<|su (qc rfl vt rfl) rfl<|su (qr rfl ty46 rfl rfl rfl) rfl<|su (qg rfl K102 rfl (c102 a0.Period) (qe rfl qk)) rfl<|su (qc rfl qha rfl) rfl<|su (qf rfl ty3 rfl) rfl<|su (qg rfl qli rfl (qlt a0.Minute 0 1439) (qe rfl (qe rfl (qe rfl qk)))) rfl<|su (qc rfl qj1 rfl) rfl<|su (qf rfl ty3 rfl) rfl<|su (qc rfl qj2 rfl) rfl<|su (qf rfl ty3 rfl) rfl<|su (qc rfl qf3 rfl) rfl<|su (qf rfl ty3 rfl) rfl<|su (qg rfl q5r rfl (q8p a0.Seats a0.Size a0.Noise) (qe rfl (qe rfl (qe rfl qk)))) rfl ?_;refine su (qt rfl Tryz.underlying170 ty37 z37 rfl (qx rfl (qx rfl (qx rfl (qx rfl (qx rfl (qx rfl jp)))))) rfl (by simp []) (by decide)) rfl ?_;refine su (qg rfl qjy rfl (qk0 [(xk (!(s147 a0.Name)) 8), (qoe a0.Kind), (qky a0.Terminal), (s102 a0.Period), (qbk a0.Minute 0 1439), (qof a0.Seats a0.Size a0.Noise)]) (qe rfl qk)) rfl<|sa rfl rfl<|qd<|qo ?_;subst hR;exact za rfl (rv_g rfl)
def qg3 (a0 : Int) (a1 : Int) (a2 : Int) : Bool :=
 (decide (a0 < a1)) || (decide (a2 < a0))
theorem qxr {g : GL} (a0 : Int) (a1 : Int) (a2 : Int)    : Con (EG g) 131 [G.int a0, G.int a1, G.int a2] (G.bool (qg3 a0 a1 a2)) := by
 generalize hR : qg3 a0 a1 a2 = R;unfold qg3 at hR;refine qm Tryz.func131 rfl rfl fun w0 M0 => ?_;refine qb<|qa [.p]<|sa rfl rfl<|qd<|qb<|qa [.p, .p, .p, .p, .p, .p, .p, .p, .p]<|sm rfl rfl<|sm rfl rfl<|su (zd rfl rfl rfl) rfl<|sm rfl rfl<|sg rfl rfl (fun h => qj rfl rfl) rfl<|sg rfl rfl (fun h => qj rfl rfl) rfl<|sg rfl rfl (fun h => zy rfl (gd h rfl) (gd h rfl)) rfl<|su (jg rfl rfl rfl rfl) rfl<|sa rfl rfl<|qd<|qo ?_;subst hR;exact za rfl (rv_g rfl)
def qrb (a0 : ByteArray) : Bool :=
 (decide (a0 = (⟨#[]⟩))) || (s91 a0)
theorem zcy {g : GL} (a0 : ByteArray)    : Con (EG g) 130 [G.str a0] (G.bool (qrb a0)) := by
 generalize hR : qrb a0 = R;unfold qrb at hR;refine qm Tryz.func130 rfl rfl fun w0 M0 => ?_;refine qb<|qa [.p]<|sa rfl rfl<|qd<|qb<|qa [.p, .p, .p, .p, .p, .p, .p]<|sm rfl rfl<|su (vk rfl rfl rfl) rfl<|sm rfl rfl<|sg rfl rfl (fun h => qj rfl rfl) rfl<|sg rfl rfl (fun h => qg rfl K91 rfl (c91 a0) (qe (gd h rfl) qk)) rfl<|su (jg rfl rfl rfl rfl) rfl<|sa rfl rfl<|qd<|qo ?_;subst hR;exact za rfl (rv_g rfl)
section
variable {E : Env} {w0 : World} {M0 : Nat → Prop}
variable {K V : Type} [DecidableEq K] {kf : K → Value} {vf : V → G} {d : TypeDesc} [MKey kf d] {o : Oper} {mem : Mem} {ev : Operand → TV} {t kt et : TypeId} {x ix : Operand} {m : List (K × V)} {k : K} {z : V}
theorem qlh {w : World} {M : Nat → Prop} (ht : E.P.underlying t = some (.map kt et)) (hk : E.P.underlying kt = some d) {zv : Value} (hz : (E.P.info? et).bind (·.zero) = some zv) (hz0 : ∀ w M, (vf z).p w M zv)
  {v : Value} (hv : (G.mpf (m.map fun p => (kf p.1, vf p.2))).p w M v) (ok : Bool) : ∃ u, (vf (vd m k z)).p w M u ∧ (Instr.lookup t v (kf k) ok).run E.P w = .ok (if ok then .tuple #[u, .bool (mhas m k)] else u) w := by
 obtain ⟨b, en, cl, rfl, _, h2, h3, _⟩ := hv
 have hzr : (zeroValue et).run E.P w = .ok zv w := by
  cases hi : E.P.info? et with
  | none => rw [hi] at hz; cases hz
  | some i =>
   rw [hi] at hz;have hz : i.zero = some zv := hz
   simp [zeroValue, typeInfo, hi, hz]
 have hck := MapKept.run_checkKey (w := w) hk (MKey.isKey (kf := kf) k) en.isEmpty 9999
 rcases qze (kf := kf) (vf := vf) (k := k) 0 h3 with ⟨g1, g2, _⟩ | ⟨j, e, b, g1, g2, g3, g4, g5, _⟩
 ·refine ⟨zv, by simp only [vd, g1]; exact hz0 _ _, ?_⟩
  simp [Instr.lookup, run_underlying ht, MapKept.run_getObj_map h2, hck, MapKept.run_findKey hk g2, hzr, mhas, g1]
 ·refine ⟨e.val, by simp only [vd, g1]; exact g5, ?_⟩
  simp [Instr.lookup, run_underlying ht, MapKept.run_getObj_map h2, hck, MapKept.run_findKey hk g2, mhas, g1]
theorem qrp {zv : Value} (ho : o.op = .lookup t x ix false) (ht : E.P.underlying t = some (.map kt et)) (hk : E.P.underlying kt = some d) (hz : (E.P.info? et).bind (·.zero) = some zv) (hz0 : ∀ w M, (vf z).p w M zv)
  (hx : ev x = .g (G.mpf (m.map fun p => (kf p.1, vf p.2)))) (hi : ev ix = .g (.lit (kf k))) (mem : Mem) : Eff E o mem ev (.g (vf (vd m k z))) := by
 intro w0 M0 ρ w e hm he;have h1 := he x (by rw [ho]; simp [Op.operands]);rw [hx] at h1;have h2 := he ix (by rw [ho]; simp [Op.operands]);rw [hi] at h2;have h2' : e ix = kf k := h2;obtain ⟨u, g1, g2⟩ := qlh (E := E) (z := z) (k := k) ht hk hz hz0 h1 false
 have : (execOp e o).run E.P w = .ok (.value u) w := by simp only [execOp, ho, h2', Sem.run_bind, g2, Result.andThen_ok, Sem.run_pure]; rfl
 rw [this];exact ⟨Grow.refl w, g1⟩
theorem qqo {zv : Value} (ho : o.op = .lookup t x ix true) (ht : E.P.underlying t = some (.map kt et)) (hk : E.P.underlying kt = some d) (hz : (E.P.info? et).bind (·.zero) = some zv) (hz0 : ∀ w M, (vf z).p w M zv)
  (hx : ev x = .g (G.mpf (m.map fun p => (kf p.1, vf p.2)))) (hi : ev ix = .g (.lit (kf k))) (mem : Mem) : Eff E o mem ev (.g (.tup [vf (vd m k z), G.bool (mhas m k)])) := by
 intro w0 M0 ρ w e hm he;have h1 := he x (by rw [ho]; simp [Op.operands]);rw [hx] at h1;have h2 := he ix (by rw [ho]; simp [Op.operands]);rw [hi] at h2;have h2' : e ix = kf k := h2;obtain ⟨u, g1, g2⟩ := qlh (E := E) (z := z) (k := k) ht hk hz hz0 h1 true
 have : (execOp e o).run E.P w = .ok (.value (.tuple #[u, .bool (mhas m k)])) w := by simp only [execOp, ho, h2', Sem.run_bind, g2, Result.andThen_ok, Sem.run_pure]; rfl
 rw [this];exact ⟨Grow.refl w, [u, .bool (mhas m k)], rfl, g1, rfl, trivial⟩
end
theorem q8q : ze Tryz.prog 169 := ⟨_, Tryz.func169, by kernel_rfl, by kernel_rfl⟩
theorem q07 : vq Tryz.prog 184 = some [.nilFunc] := by kernel_rfl
theorem qyg : qaj Tryz.prog 184 = some [(0, 1)] := by kernel_rfl
def kfn : Option (Option ByteArray) → G
 | none => G.lit .nilFunc
 | some (some s) => G.fn (.func 170) [] [G.ref [G.str s]]
 | some none => G.lit (.func (.func 171) #[] #[])
def kv (v : Option (Option ByteArray)) : G := G.agg [kfn v]
def kindL : List (ByteArray × Option (Option ByteArray)) := [(⟨#[65]⟩, some (some ⟨#[65]⟩)), (⟨#[68]⟩, some (some ⟨#[68]⟩)), (⟨#[84]⟩, some none)]
theorem q8r {g : GL} (s : ByteArray) : Con (EG g) 169 [G.str s] (G.fn (.func 170) [] [G.ref [G.str s]]) := by
 refine qm Tryz.func169 rfl rfl fun w0 M0 => ?_;refine qb<|qa [.p, .p]<|st rfl rfl (zi rfl rfl) rfl<|st rfl rfl (jb rfl rfl) rfl<|qd<|qb<|qa [.p, .p]<|st rfl rfl (qas rfl rfl rfl) rfl<|st rfl rfl (jb rfl rfl) rfl<|qd<|qo ?_;exact za rfl (rv_g rfl)
theorem q8s {g : GL} : Con (EG g) 120 [] (G.mpf (kindL.map fun p => (Value.string p.1, kv p.2))) := by
 refine qm Tryz.func120 rfl rfl fun w0 M0 => ?_;refine qb<|qa [.p]<|st rfl rfl (jb rfl rfl) rfl<|qd<|qb<|qa [.p]<|st rfl rfl (jb rfl rfl) rfl<|qd<|qb<|qa [.w, .p, .p, .p, .w, .p, .p, .p, .w, .p, .w, .p, .p]<|st_w rfl rfl (qfr 2 rfl rfl) rfl<|st rfl rfl (qj rfl rfl) rfl<|st rfl rfl (xi (args := [G.str ⟨#[65]⟩]) rfl qgq q8q rfl (q8r ⟨#[65]⟩) rfl) rfl<|st rfl rfl (jk rfl q07 rfl qyg (zp rfl kx) rfl) rfl<|je rfl rfl (qdo (kf := Value.string) (vf := kv) (m := []) (k := ⟨#[65]⟩) (v := some (some ⟨#[65]⟩)) (ins := true) rfl Tryz.underlying186 Tryz.underlying9 rfl rfl rfl rfl)<|st rfl rfl (qj rfl rfl) rfl<|st rfl rfl (xi (args := [G.str ⟨#[68]⟩]) rfl qgq q8q rfl (q8r ⟨#[68]⟩) rfl) rfl<|st rfl rfl (jk rfl q07 rfl qyg (zp rfl kx) rfl) rfl<|je rfl rfl (qdo (kf := Value.string) (vf := kv) (k := ⟨#[68]⟩) (v := some (some ⟨#[68]⟩)) (ins := true) rfl Tryz.underlying186 Tryz.underlying9 rfl rfl rfl rfl)<|st rfl rfl (jk rfl q07 rfl qyg (zp rfl kx) rfl) rfl<|je rfl rfl (qdo (kf := Value.string) (vf := kv) (k := ⟨#[84]⟩) (v := some none) (ins := true) rfl Tryz.underlying186 Tryz.underlying9 rfl rfl rfl rfl)<|st rfl rfl (qcr rfl rfl) rfl<|st rfl rfl (qfv rfl rfl) rfl<|qd<|qo ?_;exact za rfl (q8i rfl rfl)
theorem q2r : (Tryz.prog.info? 184).bind (·.zero) = some (.agg #[.nilFunc]) := by kernel_rfl
theorem kz0 : ∀ w M, (kv none).p w M (.agg #[.nilFunc]) := fun _ _ => ⟨[.nilFunc], rfl, ⟨rfl, rfl⟩, trivial⟩
theorem zd7 : ze Tryz.prog 170 := ⟨_, Tryz.func170, by kernel_rfl, by kernel_rfl⟩
theorem zd8 : ze Tryz.prog 171 := ⟨_, Tryz.func171, by kernel_rfl, by kernel_rfl⟩
theorem zd9 {g : GL} (m s : ByteArray) : Con (EG g) 170 [G.str m, G.ref [G.str s]] (G.bool (decide (m = s))) := by
 refine qm Tryz.func170 rfl rfl fun w0 M0 => ?_;refine qb<|qa [.p]<|st rfl rfl (jb rfl rfl) rfl<|qd<|qb<|qa [.p, .p, .p, .p]<|st rfl rfl (qj rfl rfl) rfl<|st rfl rfl (qf rfl ty9 rfl) rfl<|st rfl rfl (vk rfl rfl rfl) rfl<|st rfl rfl (jb rfl rfl) rfl<|qd<|qo ?_;exact za rfl (rv_g rfl)
theorem zea {g : GL} (m : ByteArray) : Con (EG g) 171 [G.str m] (G.bool true) := by
 refine qm Tryz.func171 rfl rfl fun w0 M0 => ?_;refine qb<|qa [.p]<|st rfl rfl (jb rfl rfl) rfl<|qd<|qb<|qa [.p]<|st rfl rfl (jb rfl rfl) rfl<|qd<|qo ?_;exact za rfl (rv_g rfl)
theorem q8t : z8 Tryz.prog 184 0 = some (0, 1, false) := by kernel_rfl
theorem q8u : tyK Tryz.prog 184 = some (1, true) := by kernel_rfl
def kcnt (k m : ByteArray) : Bool := match vd kindL k none with
 | some (some s) => decide (m = s)
 | some none => true
 | none => false
theorem qyh {g : GL} {o : Oper} {ev : Operand → TV} {x : Operand} {ops : Array Operand} {ts : Array TypeId} {k m : ByteArray} (ho : o.op = .call ⟨.value x, ops, ts⟩) (hk : (vd kindL k none).isSome = true)
  (hev : ev x = .g (kfn (vd kindL k none))) (ha : ops.toList.map ev = [TV.g (G.str m)]) (mem : Mem) : Eff (EG g) o mem ev (.g (G.bool (kcnt k m))) := by
 unfold kcnt;generalize vd kindL k none = v at *
 match v, hk, hev with
 | some (some s), _, hev => exact xi (args := [G.str m]) ho qho zd7 hev (zd9 m s) ha mem
 | some none, _, hev => exact xi (args := [G.str m]) ho qgq zd8 hev (zea m) ha mem
theorem qwa {k : ByteArray} : (vd kindL k none).isSome = true ↔ k = (⟨#[65]⟩ : ByteArray) ∨ k = (⟨#[68]⟩ : ByteArray) ∨ k = (⟨#[84]⟩ : ByteArray) := by
 unfold vd kindL;simp only [mget]
 by_cases h1 : (⟨#[65]⟩ : ByteArray) = k
 ·subst h1; simp
 ·by_cases h2 : (⟨#[68]⟩ : ByteArray) = k
  ·subst h2; simp [h1]
  ·by_cases h3 : (⟨#[84]⟩ : ByteArray) = k
   ·subst h3; simp [h1, h2]
   ·have e1 : ¬ k = (⟨#[65]⟩ : ByteArray) := fun e => h1 e.symm;have e2 : ¬ k = (⟨#[68]⟩ : ByteArray) := fun e => h2 e.symm;have e3 : ¬ k = (⟨#[84]⟩ : ByteArray) := fun e => h3 e.symm
    simp [h1, h2, h3, e1, e2, e3]
def qag (a0 : S2062) (a1 : ByteArray) (a2 : ByteArray) : Bool :=
 (kcnt a0.Kind a1) && ((decide (a0.Terminal = (⟨#[]⟩))) || (decide (a0.Terminal = a2)))
theorem q3u {g : GL} (a0 : S2062) (a1 : ByteArray) (a2 : ByteArray)  (hk : (vd kindL a0.Kind none).isSome = true)  : Con (EG g) 102 [G.agg (S2062.c a0), G.str a1, G.str a2] (G.bool (qag a0 a1 a2)) := by
 generalize hR : qag a0 a1 a2 = R;unfold qag at hR;refine qm Tryz.func102 rfl rfl fun w0 M0 => ?_;refine qb<|qa [.p, .p]<|su (zi rfl rfl) rfl<|sa rfl rfl<|qd<|qb<|zr [.p, .p, .p, .p, .p, .p, .p, .p, .p, .p, .p, .p, .p, .p, .p, .p, .p, .p, .p] (by kernel_rfl)<|su (qg rfl q5t rfl (q8s) qk) rfl<|su (qc rfl qrr rfl) rfl<|su (qf rfl ty9 rfl) rfl<|su (qrp (kf := Value.string) (vf := kv) (m := kindL) (k := a0.Kind) (z := none) rfl Tryz.underlying186 Tryz.underlying9 q2r kz0 rfl rfl) rfl<|su (qu3 rfl q8t rfl rfl) rfl<|sm rfl rfl<|su (qyh rfl hk rfl rfl) rfl<|sm rfl rfl<|sg rfl rfl (fun h => qc rfl qne rfl) rfl<|sg rfl rfl (fun h => qf rfl ty9 (gd h rfl)) rfl<|sg rfl rfl (fun h => vk rfl (gd h rfl) rfl) rfl<|sg rfl rfl (fun h => qj rfl (gd h rfl)) rfl<|st_g rfl rfl rfl (jl _ _ _) (fun h => qc rfl qne rfl) rfl<|st_g rfl rfl rfl (jl _ _ _) (fun h => qf rfl ty9 (gd h rfl)) rfl<|st_g rfl rfl rfl (jl _ _ _) (fun h => qj rfl rfl) rfl<|st_g rfl rfl rfl (jl _ _ _) (fun h => vk rfl (gd h rfl) (gd h rfl)) rfl<|sg rfl rfl (fun h => jg rfl (gd h rfl) rfl (gd2 h rfl)) rfl<|su (zt rfl rfl rfl rfl) rfl<|sa rfl rfl<|qd<|qo ?_;subst hR;exact za rfl (rv_g rfl)
def qbl (a0 : S1079) : Int :=
 (vr [(qbk a0.Moment 0 143999999), (qoe a0.Kind), (qky a0.Terminal), (qof a0.Seats a0.Size a0.Noise), (xk (!(s147 a0.Name)) 8)])
theorem q40 {g : GL} (a0 : S1079)    : Con (EG g) 42 [G.agg (S1079.c a0)] (G.int (qbl a0)) := by
 generalize hR : qbl a0 = R;unfold qbl at hR;refine qm Tryz.func42 rfl rfl fun w0 M0 => ?_;refine qb<|qa [.p, .p]<|su (zi rfl rfl) rfl<|sa rfl rfl<|qd<|qb<|zr [.p, .p, .p, .p, .p, .p, .p, .p, .p, .p, .p, .p, .p, .p, .p, .p, .p, .p, .p, .p, .p, .p, .p, .p] (by kernel_rfl)<|su (qc rfl wd rfl) rfl<|su (qf rfl ty3 rfl) rfl<|su (qg rfl qli rfl (qlt a0.Moment 0 143999999) (qe rfl (qe rfl (qe rfl qk)))) rfl<|su (qc rfl qcz rfl) rfl<|su (qf rfl ty9 rfl) rfl<|su (qg rfl q5q rfl (q8o a0.Kind) (qe rfl qk)) rfl<|su (qc rfl qjj rfl) rfl<|su (qf rfl ty9 rfl) rfl<|su (qg rfl q2x rfl (q5l a0.Terminal) (qe rfl qk)) rfl<|su (qc rfl qys rfl) rfl<|su (qf rfl ty3 rfl) rfl<|su (qc rfl qyt rfl) rfl<|su (qf rfl ty3 rfl) rfl<|su (qc rfl qyu rfl) rfl<|su (qf rfl ty3 rfl) rfl<|su (qg rfl q5r rfl (q8p a0.Seats a0.Size a0.Noise) (qe rfl (qe rfl (qe rfl qk)))) rfl<|su (qc rfl qnc rfl) rfl<|su (qf rfl ty9 rfl) rfl<|su (qg rfl K147 rfl (c147 a0.Name) (qe rfl qk)) rfl<|su (jo rfl rfl) rfl<|su (qg rfl qjz rfl (qlc (!(s147 a0.Name)) 8) (qe rfl (qe rfl qk))) rfl ?_;refine su (qt rfl Tryz.underlying170 ty37 z37 rfl (qx rfl (qx rfl (qx rfl (qx rfl (qx rfl jp))))) rfl (by simp []) (by decide)) rfl ?_;refine su (qg rfl qjy rfl (qk0 [(qbk a0.Moment 0 143999999), (qoe a0.Kind), (qky a0.Terminal), (qof a0.Seats a0.Size a0.Noise), (xk (!(s147 a0.Name)) 8)]) (qe rfl qk)) rfl<|sa rfl rfl<|qd<|qo ?_;subst hR;exact za rfl (rv_g rfl)
def wz (a0 : List S1079) : List S1079 → Nat → Option Int
 | [], k2 => some 0
 | y3 :: t4, k2 => zc (bif decide (0 < ((k2 : Nat) : Int)) then ixO a0 (max 0 (IntKind.i64.wrap (((k2 : Nat) : Int) - 1))) else some default) fun y5 => (bif decide ((vr [(qbl y3), (xk ((decide (0 < ((k2 : Nat) : Int))) && (decide (y3.Moment < y5.Moment))) 11)]) ≠ 0) then some (vr [(qbl y3), (xk ((decide (0 < ((k2 : Nat) : Int))) && (decide (y3.Moment < y5.Moment))) 11)]) else wz a0 t4 (k2 + 1))
def qap (a0 : List S1079) : Option Int :=
 (bif decide (30000 < (List.length a0 : Int)) then some 5 else wz a0 a0 0)
theorem q32 {g : GL} (a0 : List S1079) {R : Int}   (hR : qap a0 = some R) : Con (EG g) 60 [G.sl 7 (List.map S1079.c a0)] (G.int R) := by
 unfold qap at hR;refine qm Tryz.func60 rfl rfl fun w0 M0 => ?_;refine zu (f := S1079.c) (l := a0) 0 rfl fun hla0 => ?_;refine qb<|qa [.p]<|sa rfl rfl<|qd<|qb<|qb<|qa [.p, .p, .p]<|sm rfl rfl<|su (zb (f := S1079.c) (l := a0) rfl Tryz.underlying48 rfl) rfl<|su (zy rfl rfl rfl) rfl<|qd ?_;refine ql _ rfl (fun h1 => ?_) (fun h1 => ?_)
 ·replace hR := zk hR h1;refine qb<|qa [.p]<|sa rfl rfl<|qd<|qo ?_;obtain rfl := Option.some.inj hR;exact za rfl (rv_g rfl)
 ·replace h1 : (decide (30000 < (List.length a0 : Int))) = false := h1;replace hR := zl hR h1;(try simp only [bB] at h1);refine qn<|qb<|qb<|qa [.p, .p, .p]<|sm rfl rfl<|su (zb (f := S1079.c) (l := a0) rfl Tryz.underlying48 rfl) rfl<|sm rfl rfl<|qd<|qp<|zf (γ := Nat × (List S1079)) (fun g => ([(0, .g (G.sl 7 (List.map S1079.c a0))), (9, .g (G.sl 7 (List.map S1079.c a0))), (10, .g (G.int (List.length a0 : Int))), (11, .g (G.int ((g.1 : Nat) : Int)))], [])) (fun g => a0.drop g.1 = g.2 ∧ wz a0 g.2 g.1 = some R) (fun g => List.length g.2) ⟨rfl, (0, a0), jA, trivial, rfl, ⟨rfl, (by exact hR)⟩, trivial⟩ ?_
  ·rintro ⟨k2, t4⟩ ⟨hd, hR⟩;replace hd : a0.drop k2 = t4 := hd;replace hR : wz a0 t4 k2 = some R := hR;refine qb<|qa [.p]<|su (zd rfl rfl rfl) rfl<|qd ?_;refine zu (f := S1079.c) (l := a0) 0 rfl fun hlz1 => ?_;refine qb ?_;refine ql _ rfl (fun h2 => ?_) (fun h2 => ?_)
   ·replace h2 : (decide (((k2 : Nat) : Int) < (List.length a0 : Int))) = true := h2;obtain ⟨y3, t4, rfl, hx1, hd⟩ := zq hd (decT h2);replace h2 := decT h2;rw [wz] at hR;(try dsimp only at hR);refine qn<|qb<|qp<|qb<|qa [.p, .p, .p, .w, .p, .w]<|sm rfl rfl<|su (z5 (f := S1079.c) (l := a0) (a := y3) rfl Tryz.underlying48 z7 rfl rfl (Int.natCast_nonneg _) hx1) rfl<|su (qr rfl z7 rfl rfl rfl) rfl<|sw (zm 4 rfl qlj rfl rfl) rfl<|sa rfl rfl<|je rfl rfl (qw (tv := .g (G.agg (S1079.c y3))) rfl z7 rfl rfl rfl rfl rfl)<|qd<|qb ?_;obtain ⟨y5, by5, hR⟩ := qh hR;refine zr [.r, .p, .p, .p, .p, .p, .r, .p, .p, .p, .p, .p, .p, .p, .p, .p, .p, .p, .p, .p] (by kernel_rfl)<|sr (zj rfl z7 rfl rfl rfl rfl) rfl<|su (qg rfl q2w rfl (q40 y3) (qe rfl qk)) rfl<|sm rfl rfl<|su (zy rfl rfl rfl) rfl<|sm rfl rfl<|sg rfl rfl (fun h => qu rfl wd rfl) rfl<|qff rfl rfl rfl (jf _ _) (fun h => zo rfl ty3 (gd h rfl) rfl rfl) rfl<|sg rfl rfl (fun h => qj rfl rfl) rfl<|sg rfl rfl (fun h => qj rfl rfl) rfl<|sg rfl rfl (fun h => kq rfl (gd h rfl) rfl) rfl<|sg rfl rfl (fun h => qhm rfl rfl (gd h rfl)) rfl<|sg rfl rfl (fun h => z5 (f := S1079.c) (l := a0) (a := y5) rfl Tryz.underlying48 z7 (gd h rfl) (gd h rfl) (jj (xm by5 h)) (zh (xm by5 h))) rfl<|sg rfl rfl (fun h => qc rfl wd (gd h rfl)) rfl<|sg rfl rfl (fun h => qf rfl ty3 (gd h rfl)) rfl<|sg rfl rfl (fun h => zd rfl (gd h rfl) (gd h rfl)) rfl<|su (zt rfl rfl rfl rfl) rfl<|su (qg rfl qjz rfl (qlc ((decide (0 < ((k2 : Nat) : Int))) && (decide (y3.Moment < y5.Moment))) 11) (qe rfl (qe rfl qk))) rfl ?_;refine su (qt rfl Tryz.underlying170 ty37 z37 rfl (qx rfl (qx rfl jp)) rfl (by simp []) (by decide)) rfl ?_;refine su (qg rfl qjy rfl (qk0 [(qbl y3), (xk ((decide (0 < ((k2 : Nat) : Int))) && (decide (y3.Moment < y5.Moment))) 11)]) (qe rfl qk)) rfl<|sa rfl rfl<|qd<|qb<|qa [.p, .p]<|sm rfl rfl<|su (zx rfl rfl rfl) rfl<|qd ?_;refine ql _ rfl (fun h4 => ?_) (fun h4 => ?_)
    ·replace hR := zk hR h4;refine qb<|qa [.p, .p]<|sm rfl rfl<|sa rfl rfl<|qd<|qo ?_;obtain rfl := Option.some.inj hR;exact za rfl (rv_g rfl)
    ·replace h4 : (decide ((vr [(qbl y3), (xk ((decide (0 < ((k2 : Nat) : Int))) && (decide (y3.Moment < y5.Moment))) 11)]) ≠ 0)) = false := h4;replace hR := zl hR h4;(try simp only [bB] at h4);refine qn<|qa [.p, .p]<|su (zn rfl rfl rfl iE) rfl<|sm rfl rfl<|qd ?_;exact ⟨rfl, (k2 + 1, t4), jA, trivial, rfl, ⟨hd, hR⟩, by simp⟩
   ·replace h2 : (decide (((k2 : Nat) : Int) < (List.length a0 : Int))) = false := h2;obtain rfl := zz hd (decF h2);rw [wz] at hR;refine zw<|qb<|qa [.p]<|sa rfl rfl<|qd<|qo ?_;obtain rfl := Option.some.inj hR;exact za rfl (rv_g rfl)
def qgu (a0 : S2062) : Int :=
 (vr [(xk (!(s147 a0.Name)) 8), (xk (!(mhas kindL a0.Kind)) 13), (qky a0.Terminal), (qbk a0.Length 1 1440), (qbk a0.Step 1 1440), (qbk a0.fFrom 0 1439), (qbk a0.fTo 0 1439), (xk (decide (a0.fTo < a0.fFrom)) 11), (s102 a0.Period), (qbk a0.Most 0 999999999)])
theorem zdi {g : GL} (a0 : S2062)    : Con (EG g) 59 [G.agg (S2062.c a0)] (G.int (qgu a0)) := by
 generalize hR : qgu a0 = R;unfold qgu at hR;refine qm Tryz.func59 rfl rfl fun w0 M0 => ?_;refine qb<|qa [.p, .p]<|su (zi rfl rfl) rfl<|sa rfl rfl<|qd<|qb<|zr [.p, .p, .p, .p, .p, .p, .p, .w, .w, .p] (by kernel_rfl)<|su (qg rfl q5t rfl (q8s) qk) rfl<|su (qc rfl qrr rfl) rfl<|su (qf rfl ty9 rfl) rfl<|su (qqo (kf := Value.string) (vf := kv) (m := kindL) (k := a0.Kind) (z := none) rfl Tryz.underlying186 Tryz.underlying9 q2r kz0 rfl rfl) rfl<|sm rfl rfl<|su (qv rfl rfl rfl) rfl<|su (qv rfl rfl rfl) rfl<|sw (zm 3 rfl q07 rfl rfl) rfl<|je rfl rfl (qw (tv := .g (G.agg [kfn (vd kindL a0.Kind none)])) rfl q8u rfl rfl rfl rfl rfl)<|sa rfl rfl<|qd<|qb<|zr [.p, .p, .p, .p, .p, .p, .p, .p, .p, .p, .p, .p, .p, .p, .p, .p, .p, .p, .p, .p, .p, .p, .p, .p, .p, .p, .p, .p, .p, .p, .p, .p, .p, .p, .p, .p, .p, .p] (by kernel_rfl)<|su (qc rfl qnd rfl) rfl<|su (qf rfl ty9 rfl) rfl<|su (qg rfl K147 rfl (c147 a0.Name) (qe rfl qk)) rfl<|su (jo rfl rfl) rfl<|su (qg rfl qjz rfl (qlc (!(s147 a0.Name)) 8) (qe rfl (qe rfl qk))) rfl<|sm rfl rfl<|su (jo rfl rfl) rfl<|su (qg rfl qjz rfl (qlc (!(mhas kindL a0.Kind)) 13) (qe rfl (qe rfl qk))) rfl<|su (qc rfl qne rfl) rfl<|su (qf rfl ty9 rfl) rfl<|su (qg rfl q2x rfl (q5l a0.Terminal) (qe rfl qk)) rfl<|su (qc rfl qf5 rfl) rfl<|su (qf rfl ty3 rfl) rfl<|su (qg rfl qli rfl (qlt a0.Length 1 1440) (qe rfl (qe rfl (qe rfl qk)))) rfl<|su (qc rfl qf6 rfl) rfl<|su (qf rfl ty3 rfl) rfl<|su (qg rfl qli rfl (qlt a0.Step 1 1440) (qe rfl (qe rfl (qe rfl qk)))) rfl<|su (qc rfl qnf rfl) rfl<|su (qf rfl ty3 rfl) rfl<|su (qg rfl qli rfl (qlt a0.fFrom 0 1439) (qe rfl (qe rfl (qe rfl qk)))) rfl<|su (qc rfl qng rfl) rfl<|su (qf rfl ty3 rfl) rfl<|su (qg rfl qli rfl (qlt a0.fTo 0 1439) (qe rfl (qe rfl (qe rfl qk)))) rfl<|su (qc rfl qnf rfl) rfl<|su (qf rfl ty3 rfl) rfl<|su (qc rfl qng rfl) rfl<|su (qf rfl ty3 rfl) rfl<|su (zy rfl rfl rfl) rfl<|su (qg rfl qjz rfl (qlc (decide (a0.fTo < a0.fFrom)) 11) (qe rfl (qe rfl qk))) rfl<|su (qc rfl qjk rfl) rfl<|su (qr rfl ty46 rfl rfl rfl) rfl<|su (qg rfl K102 rfl (c102 a0.Period) (qe rfl qk)) rfl<|su (qc rfl qf7 rfl) rfl<|su (qf rfl ty3 rfl) rfl<|su (qg rfl qli rfl (qlt a0.Most 0 999999999) (qe rfl (qe rfl (qe rfl qk)))) rfl ?_;refine su (qt rfl Tryz.underlying170 ty37 z37 rfl (qx rfl (qx rfl (qx rfl (qx rfl (qx rfl (qx rfl (qx rfl (qx rfl (qx rfl (qx rfl jp)))))))))) rfl (by simp []) (by decide)) rfl ?_;refine su (qg rfl qjy rfl (qk0 [(xk (!(s147 a0.Name)) 8), (xk (!(mhas kindL a0.Kind)) 13), (qky a0.Terminal), (qbk a0.Length 1 1440), (qbk a0.Step 1 1440), (qbk a0.fFrom 0 1439), (qbk a0.fTo 0 1439), (xk (decide (a0.fTo < a0.fFrom)) 11), (s102 a0.Period), (qbk a0.Most 0 999999999)]) (qe rfl qk)) rfl<|sa rfl rfl<|qd<|qo ?_;subst hR;exact za rfl (rv_g rfl)
section
variable {E : Env} {o : Oper} {ev : Operand → TV}
theorem q08 {n : Int} (h : 0 ≤ n) (h' : n ≤ 9223372036854775807) : IntKind.u64.wrap n = n := by
 have e : IntKind.u64.wrap n = n % 18446744073709551616 := by
  simp [IntKind.wrap, IntKind.bits, IntKind.signed]
 rw [e]; omega
theorem qej {s t : TypeId} {x : Operand} {n : Int} {ds : TypeDesc} (ho : o.op = .convert s t x) (hs : E.P.underlying s = some ds) (ht : E.P.underlying t = some (.int .u64)) (hx : ev x = .g (.int n)) (h : 0 ≤ n) (h' : n ≤ 9223372036854775807) (mem : Mem) : Eff E o mem ev (.g (.lit (.int .u64 n))) := by
 have := qjq (E := E) ho hs ht hx mem
 rwa [q08 h h'] at this
theorem qek {s t : TypeId} {x : Operand} {n : Int} {ds : TypeDesc} (ho : o.op = .convert s t x) (hs : E.P.underlying s = some ds) (ht : E.P.underlying t = some (.int .i64)) (hx : ev x = .g (.lit (.int .u64 n))) (h : I64 n) (mem : Mem) : Eff E o mem ev (.g (.int n)) := by
 have := qjq (E := E) ho hs ht hx mem
 rwa [wrap_i64 h] at this
theorem qg2 {t t' : TypeId} {x y : Operand} {k : IntKind} {a : Int} (ho : o.op = .binOp .shr t x y t') (hx : ev x = .g (.lit (.int .u64 a))) (hy : ev y = .g (.lit (.int k 1))) (h0 : 0 ≤ a) (mem : Mem) : Eff E o mem ev (.g (.lit (.int .u64 (a / 2)))) :=
 qni ho hx hy (fun w => ⟨.int .u64 (a / 2), by
  have h1 : Int.fdiv a (2 ^ min (1 : Int).toNat IntKind.u64.bits) = a / 2 := Int.fdiv_eq_ediv_of_nonneg a (by decide);simp only [eqGuard, binOp, Op.shift, h1]
  rfl, fun _ => rfl⟩) mem
end
end Go.Sim
