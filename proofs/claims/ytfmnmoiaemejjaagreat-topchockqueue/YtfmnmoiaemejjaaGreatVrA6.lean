/-
  What is proved: lemmas and contracts of functions on the way to the law topChockQueue (part 6).
-/
import Derived.Test.YtfmnmoiaemejjaaGreatVrA5
import Derived.Test.YtfmnmoiaemejjaaGreatVrA3
import Derived.Test.YtfmnmoiaemejjaaGreatVrA4
import Derived.RangeFuncBox
import Derived.RangeFuncNested
import Derived.RangeFuncBound
import Derived.RangeFuncCalls
import Derived.RangeFuncLeaves
import Derived.Shelf.Abstract
import Derived.Shelf.RegionOpen
import Derived.WalkKit
import Derived.OwnWalkIn
import Derived.TacticsInMore
import Derived.LoopNIn
import Derived.LoopIn
import Derived.Maps.AppendAt
import Derived.Lib.Hide
import Derived.Stop.RegionWithIn
import Derived.Sort.QuietIn
set_option linter.unusedSectionVars false
set_option linter.unusedSimpArgs false
set_option linter.unusedVariables false
set_option linter.unnecessarySimpa false
set_option linter.deprecated false
set_option maxRecDepth 10000
namespace Go.Sim
open Go.Proofs
def qcl  : List Int → Nat → Int
 | [], k2 => 0
 | y3 :: t4, k2 => (bif decide (y3 ≠ 0) then y3 else qcl  t4 (k2 + 1))
def s152 (a0 : List Int) : Int :=
 qcl a0 0
theorem c152 {g : GL} (a0 : List Int)    : Con (EG g) 103 [G.sl 1 (List.map cInt a0)] (G.int (s152 a0)) := by
 generalize hR : s152 a0 = R;unfold s152 at hR;refine qm Tryz.func103 rfl rfl fun w0 M0 => ?_;refine zp (f := cInt) (l := a0) 0 rfl fun hla0 => ?_;refine qb ?_;refine qa [.p] ?_;refine sa rfl rfl ?_;refine qc ?_;refine qb ?_;refine qb ?_;refine qa [.p, .p, .p] ?_;refine sm rfl rfl ?_;refine su (za (f := cInt) (l := a0) rfl Tryz.underlying170 rfl) rfl ?_;refine sm rfl rfl ?_;refine qc ?_;refine qq ?_;refine zh (γ := Nat × (List Int)) (fun g => ([(5, .g (G.sl 1 (List.map cInt a0))), (6, .g (G.int (List.length a0 : Int))), (7, .g (G.int ((g.1 : Nat) : Int)))], [])) (fun g => a0.drop g.1 = g.2 ∧ qcl  g.2 g.1 = R) (fun g => List.length g.2) ⟨rfl, (0, a0), ⟨rfl, rfl, rfl, trivial⟩, trivial, rfl, ⟨rfl, (by exact hR)⟩, trivial⟩ ?_
 ·rintro ⟨k2, t4⟩ ⟨hd, hR⟩;replace hd : a0.drop k2 = t4 := hd;replace hR : qcl  t4 k2 = R := hR;refine qb ?_;refine qa [.p] ?_;refine su (zg rfl rfl rfl) rfl ?_;refine qc ?_;refine zp (f := cInt) (l := a0) 5 rfl fun hlz1 => ?_;refine qb ?_;refine ql _ rfl (fun h1 => ?_) (fun h1 => ?_)
  ·replace h1 : (decide (((k2 : Nat) : Int) < (List.length a0 : Int))) = true := h1;obtain ⟨y3, t4, rfl, hx1, hd⟩ := zq hd (decT h1);replace h1 := decT h1;rw [qcl] at hR;(try dsimp only at hR);refine qn ?_;refine qb ?_;refine qq ?_;refine qb ?_;refine qa [.p, .p, .p] ?_;refine su (jd (f := cInt) (l := a0) (a := y3) rfl Tryz.underlying170 ty37 rfl rfl (Int.natCast_nonneg _) hx1) rfl ?_;refine su (qg rfl ty37 rfl) rfl ?_;refine sa rfl rfl ?_;refine qc ?_;refine qb ?_;refine qa [.p, .p] ?_;refine sm rfl rfl ?_;refine su (zy rfl rfl rfl) rfl ?_;refine qc ?_;refine ql _ rfl (fun h3 => ?_) (fun h3 => ?_)
   ·replace hR := zk hR h3;refine qb ?_;refine qa [.p, .p] ?_;refine sm rfl rfl ?_;refine sa rfl rfl ?_;refine qc ?_;refine qo ?_;subst hR;exact zb rfl (rv_g rfl)
   ·replace h3 : (decide (y3 ≠ 0)) = false := h3;replace hR := zl hR h3;(try simp only [bB] at h3);refine qn ?_;refine qa [.p, .p] ?_;refine su (zn rfl rfl rfl iE) rfl ?_;refine sm rfl rfl ?_;refine qc ?_;exact ⟨rfl, (k2 + 1, t4), ⟨rfl, rfl, rfl, trivial⟩, trivial, rfl, ⟨hd, hR⟩, by simp⟩
  ·replace h1 : (decide (((k2 : Nat) : Int) < (List.length a0 : Int))) = false := h1;obtain rfl := z8 hd (decF h1);rw [qcl] at hR;refine zt ?_;refine qb ?_;refine qa [.p] ?_;refine sa rfl rfl ?_;refine qc ?_;refine qo ?_;subst hR;exact zb rfl (rv_g rfl)
def s154 (a0 : Bool) (a1 : Int) : Int :=
 (bif a0 then a1 else 0)
theorem c154 {g : GL} (a0 : Bool) (a1 : Int)    : Con (EG g) 105 [G.bool a0, G.int a1] (G.int (s154 a0 a1)) := by
 generalize hR : s154 a0 a1 = R;unfold s154 at hR;refine qm Tryz.func105 rfl rfl fun w0 M0 => ?_;refine qb ?_;refine qa [.p] ?_;refine sa rfl rfl ?_;refine qc ?_;refine qb ?_;refine qb ?_;refine qa [.p] ?_;refine sm rfl rfl ?_;refine qc ?_;refine ql _ rfl (fun h1 => ?_) (fun h1 => ?_)
 ·replace hR := zk hR h1;refine qb ?_;refine qa [.p, .p] ?_;refine sm rfl rfl ?_;refine sa rfl rfl ?_;refine qc ?_;refine qo ?_;subst hR;exact zb rfl (rv_g rfl)
 ·replace hR := zl hR h1;refine qn ?_;refine qb ?_;refine qa [.p] ?_;refine sa rfl rfl ?_;refine qc ?_;refine qo ?_;subst hR;exact zb rfl (rv_g rfl)
def s155 (a0 : Int) (a1 : Int) (a2 : Int) : Int :=
 (s154 ((decide (a0 < a1)) || (decide (a2 < a0))) 3)
theorem c155 {g : GL} (a0 : Int) (a1 : Int) (a2 : Int)    : Con (EG g) 106 [G.int a0, G.int a1, G.int a2] (G.int (s155 a0 a1 a2)) := by
 generalize hR : s155 a0 a1 a2 = R;unfold s155 at hR;refine qm Tryz.func106 rfl rfl fun w0 M0 => ?_;refine qb ?_;refine qa [.p] ?_;refine sa rfl rfl ?_;refine qc ?_;refine qb ?_;refine qa [.p, .p, .p, .p, .p, .p, .p, .p, .p, .p] ?_;refine sm rfl rfl ?_;refine sm rfl rfl ?_;refine su (zg rfl rfl rfl) rfl ?_;refine sm rfl rfl ?_;refine sg rfl rfl (fun h => qk rfl rfl) rfl ?_;refine sg rfl rfl (fun h => qk rfl rfl) rfl ?_;refine sg rfl rfl (fun h => ja rfl (gd h rfl) (gd h rfl)) rfl ?_;refine su (jl rfl rfl rfl rfl) rfl ?_;refine su (qf rfl K154 rfl (c154 ((decide (a0 < a1)) || (decide (a2 < a0))) 3) (qe rfl (qe rfl qj))) rfl ?_;refine sa rfl rfl ?_;refine qc ?_;refine qo ?_;subst hR;exact zb rfl (rv_g rfl)
def s153 (a0 : Int) : Int :=
 (s155 a0 0 99999)
theorem c153 {g : GL} (a0 : Int)    : Con (EG g) 104 [G.int a0] (G.int (s153 a0)) := by
 generalize hR : s153 a0 = R;unfold s153 at hR;refine qm Tryz.func104 rfl rfl fun w0 M0 => ?_;refine qb ?_;refine qa [.p] ?_;refine sa rfl rfl ?_;refine qc ?_;refine qb ?_;refine qa [.p, .p, .p] ?_;refine sm rfl rfl ?_;refine su (qf rfl K155 rfl (c155 a0 0 99999) (qe rfl (qe rfl (qe rfl qj)))) rfl ?_;refine sa rfl rfl ?_;refine qc ?_;refine qo ?_;subst hR;exact zb rfl (rv_g rfl)
def qgv  : List Int → Nat → Int
 | [], k2 => 0
 | y3 :: t4, k2 => (bif decide (y3 ≠ 0) then y3 else qgv  t4 (k2 + 1))
def s89 (a0 : List Int) : Int :=
 qgv a0 0
theorem c89 {g : GL} (a0 : List Int)    : Con (EG g) 133 [G.sl 1 (List.map cInt a0)] (G.int (s89 a0)) := by
 generalize hR : s89 a0 = R;unfold s89 at hR;refine qm Tryz.func133 rfl rfl fun w0 M0 => ?_;refine zp (f := cInt) (l := a0) 0 rfl fun hla0 => ?_;refine qb ?_;refine qa [.p] ?_;refine sa rfl rfl ?_;refine qc ?_;refine qb ?_;refine qb ?_;refine qa [.p] ?_;refine sa rfl rfl ?_;refine qc ?_;refine qq ?_;refine zh (γ := Nat × (List Int)) (fun g => ([(0, .g (G.sl 1 (List.map cInt a0))), (3, .g (G.int ((g.1 : Nat) : Int)))], [])) (fun g => a0.drop g.1 = g.2 ∧ qgv  g.2 g.1 = R) (fun g => List.length g.2) ⟨rfl, (0, a0), ⟨rfl, rfl, trivial⟩, trivial, rfl, ⟨rfl, (by exact hR)⟩, trivial⟩ ?_
 ·rintro ⟨k2, t4⟩ ⟨hd, hR⟩;replace hd : a0.drop k2 = t4 := hd;replace hR : qgv  t4 k2 = R := hR;refine qb ?_;refine qb ?_;refine qa [.p, .p, .p, .p] ?_;refine sm rfl rfl ?_;refine sm rfl rfl ?_;refine su (za (f := cInt) (l := a0) rfl Tryz.underlying38 rfl) rfl ?_;refine su (zg rfl rfl rfl) rfl ?_;refine qc ?_;refine zp (f := cInt) (l := a0) 0 rfl fun hlz1 => ?_;refine ql _ rfl (fun h1 => ?_) (fun h1 => ?_)
  ·replace h1 : (decide (((k2 : Nat) : Int) < (List.length a0 : Int))) = true := h1;obtain ⟨y3, t4, rfl, hx1, hd⟩ := zq hd (decT h1);replace h1 := decT h1;rw [qgv] at hR;(try dsimp only at hR);refine qn ?_;refine qb ?_;refine qq ?_;refine qb ?_;refine qa [.p, .p, .p, .p, .p] ?_;refine sm rfl rfl ?_;refine sm rfl rfl ?_;refine su (jd (f := cInt) (l := a0) (a := y3) rfl Tryz.underlying38 ty3 rfl rfl (Int.natCast_nonneg _) hx1) rfl ?_;refine su (qg rfl ty3 rfl) rfl ?_;refine su (zy rfl rfl rfl) rfl ?_;refine qc ?_;refine ql _ rfl (fun h3 => ?_) (fun h3 => ?_)
   ·replace hR := zk hR h3;refine qb ?_;refine qa [.p, .p, .p, .p, .p] ?_;refine sm rfl rfl ?_;refine sm rfl rfl ?_;refine su (jd (f := cInt) (l := a0) (a := y3) rfl Tryz.underlying38 ty3 rfl rfl (Int.natCast_nonneg _) hx1) rfl ?_;refine su (qg rfl ty3 rfl) rfl ?_;refine sa rfl rfl ?_;refine qc ?_;refine qo ?_;subst hR;exact zb rfl (rv_g rfl)
   ·replace h3 : (decide (y3 ≠ 0)) = false := h3;replace hR := zl hR h3;(try simp only [bB] at h3);refine qn ?_;refine qa [.p, .p, .p] ?_;refine sm rfl rfl ?_;refine su (zn rfl rfl rfl iE) rfl ?_;refine sa rfl rfl ?_;refine qc ?_;exact ⟨rfl, (k2 + 1, t4), ⟨rfl, rfl, trivial⟩, trivial, rfl, ⟨hd, hR⟩, by simp⟩
  ·replace h1 : (decide (((k2 : Nat) : Int) < (List.length a0 : Int))) = false := h1;obtain rfl := z8 hd (decF h1);rw [qgv] at hR;refine zt ?_;refine qb ?_;refine qa [.p] ?_;refine sa rfl rfl ?_;refine qc ?_;refine qo ?_;subst hR;exact zb rfl (rv_g rfl)
def s90 (a0 : Int) (a1 : Int) (a2 : Int) : Int :=
 (bif (decide (a0 < a1)) || (decide (a2 < a0)) then 3 else 0)
theorem c90 {g : GL} (a0 : Int) (a1 : Int) (a2 : Int)    : Con (EG g) 139 [G.int a0, G.int a1, G.int a2] (G.int (s90 a0 a1 a2)) := by
 generalize hR : s90 a0 a1 a2 = R;unfold s90 at hR;refine qm Tryz.func139 rfl rfl fun w0 M0 => ?_;refine qb ?_;refine qa [.p] ?_;refine sa rfl rfl ?_;refine qc ?_;refine qb ?_;refine qb ?_;refine qa [.p, .p, .p, .p, .p, .p, .p, .p] ?_;refine sm rfl rfl ?_;refine sm rfl rfl ?_;refine su (zg rfl rfl rfl) rfl ?_;refine sm rfl rfl ?_;refine sg rfl rfl (fun h => qk rfl rfl) rfl ?_;refine sg rfl rfl (fun h => qk rfl rfl) rfl ?_;refine sg rfl rfl (fun h => ja rfl (gd h rfl) (gd h rfl)) rfl ?_;refine su (jl rfl rfl rfl rfl) rfl ?_;refine qc ?_;refine ql _ rfl (fun h1 => ?_) (fun h1 => ?_)
 ·replace hR := zk hR h1;refine qb ?_;refine qa [.p] ?_;refine sa rfl rfl ?_;refine qc ?_;refine qo ?_;subst hR;exact zb rfl (rv_g rfl)
 ·replace hR := zl hR h1;refine qn ?_;refine qb ?_;refine qa [.p] ?_;refine sa rfl rfl ?_;refine qc ?_;refine qo ?_;subst hR;exact zb rfl (rv_g rfl)
def s109 (a0 : Int) : Int :=
 (s90 a0 0 99999)
theorem c109 {g : GL} (a0 : Int)    : Con (EG g) 177 [G.int a0] (G.int (s109 a0)) := by
 generalize hR : s109 a0 = R;unfold s109 at hR;refine qm Tryz.func177 rfl rfl fun w0 M0 => ?_;refine qb ?_;refine qa [.p] ?_;refine sa rfl rfl ?_;refine qc ?_;refine qb ?_;refine qa [.p, .p, .p] ?_;refine sm rfl rfl ?_;refine su (qf rfl K90 rfl (c90 a0 0 99999) (qe rfl (qe rfl (qe rfl qj)))) rfl ?_;refine sa rfl rfl ?_;refine qc ?_;refine qo ?_;subst hR;exact zb rfl (rv_g rfl)
def s183 (a0 : ByteArray) : Bool :=
 !decide (a0 = a0)
theorem c183 {g : GL} (a0 : ByteArray)    : Con (EG g) 180 [G.str a0] (G.bool (s183 a0)) := by
 generalize hR : s183 a0 = R;unfold s183 at hR;refine qm Tryz.func180 rfl rfl fun w0 M0 => ?_;refine qb ?_;refine qa [.p] ?_;refine sa rfl rfl ?_;refine qc ?_;refine qb ?_;refine qa [.p, .p, .p, .p] ?_;refine sm rfl rfl ?_;refine sm rfl rfl ?_;refine su (qbj rfl rfl rfl) rfl ?_;refine sa rfl rfl ?_;refine qc ?_;refine qo ?_;subst hR;exact zb rfl (rv_g rfl)
def s133 (a0 : ByteArray) (a1 : ByteArray) : Int :=
 (bif (s183 a0) then (bif (s183 a1) then 0 else (-1)) else (bif (s183 a1) then 1 else (bif qay a0 a1 then (-1) else (bif !(qay a0 a1 || decide (a0 = a1)) then 1 else 0))))
theorem c133 {g : GL} (a0 : ByteArray) (a1 : ByteArray)    : Con (EG g) 144 [G.str a0, G.str a1] (G.int (s133 a0 a1)) := by
 generalize hR : s133 a0 a1 = R;unfold s133 at hR;refine qm Tryz.func144 rfl rfl fun w0 M0 => ?_;refine qb ?_;refine qa [.p] ?_;refine sa rfl rfl ?_;refine qc ?_;refine qb ?_;refine qa [.p, .p, .p] ?_;refine sm rfl rfl ?_;refine su (qf rfl K183 rfl (c183 a0) (qe rfl qj)) rfl ?_;refine sa rfl rfl ?_;refine qc ?_;refine qb ?_;refine qa [.p, .p, .p] ?_;refine sm rfl rfl ?_;refine su (qf rfl K183 rfl (c183 a1) (qe rfl qj)) rfl ?_;refine sa rfl rfl ?_;refine qc ?_;refine qb ?_;refine qb ?_;refine qa [.p] ?_;refine sm rfl rfl ?_;refine qc ?_;refine ql _ rfl (fun h1 => ?_) (fun h1 => ?_)
 ·replace h1 : ((s183 a0)) = true := h1;replace hR := zk hR h1;(try simp only [bB] at h1);refine qb ?_;refine qb ?_;refine qa [.p] ?_;refine sm rfl rfl ?_;refine qc ?_;refine ql _ rfl (fun h2 => ?_) (fun h2 => ?_)
  ·replace hR := zk hR h2;refine qb ?_;refine qa [.p] ?_;refine sa rfl rfl ?_;refine qc ?_;refine qo ?_;subst hR;exact zb rfl (rv_g rfl)
  ·replace hR := zl hR h2;refine qn ?_;refine qb ?_;refine qa [.p] ?_;refine sa rfl rfl ?_;refine qc ?_;refine qo ?_;subst hR;exact zb rfl (rv_g rfl)
 ·replace h1 : ((s183 a0)) = false := h1;replace hR := zl hR h1;(try simp only [bB] at h1);refine qn ?_;refine qb ?_;refine qb ?_;refine qa [.p] ?_;refine sm rfl rfl ?_;refine qc ?_;refine ql _ rfl (fun h3 => ?_) (fun h3 => ?_)
  ·replace hR := zk hR h3;refine qb ?_;refine qa [.p] ?_;refine sa rfl rfl ?_;refine qc ?_;refine qo ?_;subst hR;exact zb rfl (rv_g rfl)
  ·replace h3 : ((s183 a1)) = false := h3;replace hR := zl hR h3;(try simp only [bB] at h3);refine qn ?_;refine qb ?_;refine qb ?_;refine qa [.p, .p, .p] ?_;refine sm rfl rfl ?_;refine sm rfl rfl ?_;refine su (qum rfl rfl rfl) rfl ?_;refine qc ?_;refine ql _ rfl (fun h4 => ?_) (fun h4 => ?_)
   ·replace hR := zk hR h4;refine qb ?_;refine qa [.p] ?_;refine sa rfl rfl ?_;refine qc ?_;refine qo ?_;subst hR;exact zb rfl (rv_g rfl)
   ·replace h4 : (qay a0 a1) = false := h4;replace hR := zl hR h4;(try simp only [bB] at h4);refine qn ?_;refine qb ?_;refine qb ?_;refine qa [.p, .p, .p] ?_;refine sm rfl rfl ?_;refine sm rfl rfl ?_;refine su (q1z rfl rfl rfl) rfl ?_;refine qc ?_;refine ql _ rfl (fun h5 => ?_) (fun h5 => ?_)
    ·replace hR := zk hR h5;refine qb ?_;refine qa [.p] ?_;refine sa rfl rfl ?_;refine qc ?_;refine qo ?_;subst hR;exact zb rfl (rv_g rfl)
    ·replace hR := zl hR h5;refine qn ?_;refine qb ?_;refine qa [.p] ?_;refine sa rfl rfl ?_;refine qc ?_;refine qo ?_;subst hR;exact zb rfl (rv_g rfl)
def s202 (a0 : Int) : Bool :=
 decide (a0 ≠ a0)
theorem c202 {g : GL} (a0 : Int)    : Con (EG g) 179 [G.int a0] (G.bool (s202 a0)) := by
 generalize hR : s202 a0 = R;unfold s202 at hR;refine qm Tryz.func179 rfl rfl fun w0 M0 => ?_;refine qb ?_;refine qa [.p] ?_;refine sa rfl rfl ?_;refine qc ?_;refine qb ?_;refine qa [.p, .p, .p, .p] ?_;refine sm rfl rfl ?_;refine sm rfl rfl ?_;refine su (zy rfl rfl rfl) rfl ?_;refine sa rfl rfl ?_;refine qc ?_;refine qo ?_;subst hR;exact zb rfl (rv_g rfl)
def s167 (a0 : Int) (a1 : Int) : Int :=
 (bif (s202 a0) then (bif (s202 a1) then 0 else (-1)) else (bif (s202 a1) then 1 else (bif decide (a0 < a1) then (-1) else (bif decide (a1 < a0) then 1 else 0))))
theorem c167 {g : GL} (a0 : Int) (a1 : Int)    : Con (EG g) 143 [G.int a0, G.int a1] (G.int (s167 a0 a1)) := by
 generalize hR : s167 a0 a1 = R;unfold s167 at hR;refine qm Tryz.func143 rfl rfl fun w0 M0 => ?_;refine qb ?_;refine qa [.p] ?_;refine sa rfl rfl ?_;refine qc ?_;refine qb ?_;refine qa [.p, .p, .p] ?_;refine sm rfl rfl ?_;refine su (qf rfl K202 rfl (c202 a0) (qe rfl qj)) rfl ?_;refine sa rfl rfl ?_;refine qc ?_;refine qb ?_;refine qa [.p, .p, .p] ?_;refine sm rfl rfl ?_;refine su (qf rfl K202 rfl (c202 a1) (qe rfl qj)) rfl ?_;refine sa rfl rfl ?_;refine qc ?_;refine qb ?_;refine qb ?_;refine qa [.p] ?_;refine sm rfl rfl ?_;refine qc ?_;refine ql _ rfl (fun h1 => ?_) (fun h1 => ?_)
 ·replace h1 : ((s202 a0)) = true := h1;replace hR := zk hR h1;(try simp only [bB] at h1);refine qb ?_;refine qb ?_;refine qa [.p] ?_;refine sm rfl rfl ?_;refine qc ?_;refine ql _ rfl (fun h2 => ?_) (fun h2 => ?_)
  ·replace hR := zk hR h2;refine qb ?_;refine qa [.p] ?_;refine sa rfl rfl ?_;refine qc ?_;refine qo ?_;subst hR;exact zb rfl (rv_g rfl)
  ·replace hR := zl hR h2;refine qn ?_;refine qb ?_;refine qa [.p] ?_;refine sa rfl rfl ?_;refine qc ?_;refine qo ?_;subst hR;exact zb rfl (rv_g rfl)
 ·replace h1 : ((s202 a0)) = false := h1;replace hR := zl hR h1;(try simp only [bB] at h1);refine qn ?_;refine qb ?_;refine qb ?_;refine qa [.p] ?_;refine sm rfl rfl ?_;refine qc ?_;refine ql _ rfl (fun h3 => ?_) (fun h3 => ?_)
  ·replace hR := zk hR h3;refine qb ?_;refine qa [.p] ?_;refine sa rfl rfl ?_;refine qc ?_;refine qo ?_;subst hR;exact zb rfl (rv_g rfl)
  ·replace h3 : ((s202 a1)) = false := h3;replace hR := zl hR h3;(try simp only [bB] at h3);refine qn ?_;refine qb ?_;refine qb ?_;refine qa [.p, .p, .p] ?_;refine sm rfl rfl ?_;refine sm rfl rfl ?_;refine su (zg rfl rfl rfl) rfl ?_;refine qc ?_;refine ql _ rfl (fun h4 => ?_) (fun h4 => ?_)
   ·replace hR := zk hR h4;refine qb ?_;refine qa [.p] ?_;refine sa rfl rfl ?_;refine qc ?_;refine qo ?_;subst hR;exact zb rfl (rv_g rfl)
   ·replace h4 : (decide (a0 < a1)) = false := h4;replace hR := zl hR h4;(try simp only [bB] at h4);refine qn ?_;refine qb ?_;refine qb ?_;refine qa [.p, .p, .p] ?_;refine sm rfl rfl ?_;refine sm rfl rfl ?_;refine su (ja rfl rfl rfl) rfl ?_;refine qc ?_;refine ql _ rfl (fun h5 => ?_) (fun h5 => ?_)
    ·replace hR := zk hR h5;refine qb ?_;refine qa [.p] ?_;refine sa rfl rfl ?_;refine qc ?_;refine qo ?_;subst hR;exact zb rfl (rv_g rfl)
    ·replace hR := zl hR h5;refine qn ?_;refine qb ?_;refine qa [.p] ?_;refine sa rfl rfl ?_;refine qc ?_;refine qo ?_;subst hR;exact zb rfl (rv_g rfl)
def s188 (a0 : Int) : Int :=
 Int.tmod (IntKind.i64.wrap (a0 + 5)) 7
theorem c188 {g : GL} (a0 : Int)    : Con (EG g) 190 [G.int a0] (G.int (s188 a0)) := by
 generalize hR : s188 a0 = R;unfold s188 at hR;refine qm Tryz.func190 rfl rfl fun w0 M0 => ?_;refine qb ?_;refine qa [.p] ?_;refine sa rfl rfl ?_;refine qc ?_;refine qb ?_;refine qa [.p, .p, .p, .p] ?_;refine sm rfl rfl ?_;refine su (kp rfl rfl rfl) rfl ?_;refine su (qmp rfl rfl rfl (by decide)) rfl ?_;refine sa rfl rfl ?_;refine qc ?_;refine qo ?_;subst hR;exact zb rfl (rv_g rfl)
def qce  : List Int → Nat → Int
 | [], k2 => 0
 | y3 :: t4, k2 => (bif decide (y3 ≠ 0) then y3 else qce  t4 (k2 + 1))
def qwg (a0 : List Int) : Int :=
 qce a0 0
theorem q8q {g : GL} (a0 : List Int)    : Con (EG g) 182 [G.sl 1 (List.map cInt a0)] (G.int (qwg a0)) := by
 generalize hR : qwg a0 = R;unfold qwg at hR;refine qm Tryz.func182 rfl rfl fun w0 M0 => ?_;refine zp (f := cInt) (l := a0) 0 rfl fun hla0 => ?_;refine qb ?_;refine qa [.p] ?_;refine sa rfl rfl ?_;refine qc ?_;refine qb ?_;refine qb ?_;refine qa [.p, .p, .p] ?_;refine sm rfl rfl ?_;refine su (za (f := cInt) (l := a0) rfl Tryz.underlying170 rfl) rfl ?_;refine sm rfl rfl ?_;refine qc ?_;refine qq ?_;refine zh (γ := Nat × (List Int)) (fun g => ([(5, .g (G.sl 1 (List.map cInt a0))), (6, .g (G.int (List.length a0 : Int))), (7, .g (G.int ((g.1 : Nat) : Int)))], [])) (fun g => a0.drop g.1 = g.2 ∧ qce  g.2 g.1 = R) (fun g => List.length g.2) ⟨rfl, (0, a0), ⟨rfl, rfl, rfl, trivial⟩, trivial, rfl, ⟨rfl, (by exact hR)⟩, trivial⟩ ?_
 ·rintro ⟨k2, t4⟩ ⟨hd, hR⟩;replace hd : a0.drop k2 = t4 := hd;replace hR : qce  t4 k2 = R := hR;refine qb ?_;refine qa [.p] ?_;refine su (zg rfl rfl rfl) rfl ?_;refine qc ?_;refine zp (f := cInt) (l := a0) 5 rfl fun hlz1 => ?_;refine qb ?_;refine ql _ rfl (fun h1 => ?_) (fun h1 => ?_)
  ·replace h1 : (decide (((k2 : Nat) : Int) < (List.length a0 : Int))) = true := h1;obtain ⟨y3, t4, rfl, hx1, hd⟩ := zq hd (decT h1);replace h1 := decT h1;rw [qce] at hR;(try dsimp only at hR);refine qn ?_;refine qb ?_;refine qq ?_;refine qb ?_;refine qa [.p, .p, .p] ?_;refine su (jd (f := cInt) (l := a0) (a := y3) rfl Tryz.underlying170 ty37 rfl rfl (Int.natCast_nonneg _) hx1) rfl ?_;refine su (qg rfl ty37 rfl) rfl ?_;refine sa rfl rfl ?_;refine qc ?_;refine qb ?_;refine qa [.p, .p] ?_;refine sm rfl rfl ?_;refine su (zy rfl rfl rfl) rfl ?_;refine qc ?_;refine ql _ rfl (fun h3 => ?_) (fun h3 => ?_)
   ·replace hR := zk hR h3;refine qb ?_;refine qa [.p, .p] ?_;refine sm rfl rfl ?_;refine sa rfl rfl ?_;refine qc ?_;refine qo ?_;subst hR;exact zb rfl (rv_g rfl)
   ·replace h3 : (decide (y3 ≠ 0)) = false := h3;replace hR := zl hR h3;(try simp only [bB] at h3);refine qn ?_;refine qa [.p, .p] ?_;refine su (zn rfl rfl rfl iE) rfl ?_;refine sm rfl rfl ?_;refine qc ?_;exact ⟨rfl, (k2 + 1, t4), ⟨rfl, rfl, rfl, trivial⟩, trivial, rfl, ⟨hd, hR⟩, by simp⟩
  ·replace h1 : (decide (((k2 : Nat) : Int) < (List.length a0 : Int))) = false := h1;obtain rfl := z8 hd (decF h1);rw [qce] at hR;refine zt ?_;refine qb ?_;refine qa [.p] ?_;refine sa rfl rfl ?_;refine qc ?_;refine qo ?_;subst hR;exact zb rfl (rv_g rfl)
def qh5 (a0 : Bool) (a1 : Int) : Int :=
 (bif a0 then a1 else 0)
theorem qwf {g : GL} (a0 : Bool) (a1 : Int)    : Con (EG g) 185 [G.bool a0, G.int a1] (G.int (qh5 a0 a1)) := by
 generalize hR : qh5 a0 a1 = R;unfold qh5 at hR;refine qm Tryz.func185 rfl rfl fun w0 M0 => ?_;refine qb ?_;refine qa [.p] ?_;refine sa rfl rfl ?_;refine qc ?_;refine qb ?_;refine qb ?_;refine qa [.p] ?_;refine sm rfl rfl ?_;refine qc ?_;refine ql _ rfl (fun h1 => ?_) (fun h1 => ?_)
 ·replace hR := zk hR h1;refine qb ?_;refine qa [.p, .p] ?_;refine sm rfl rfl ?_;refine sa rfl rfl ?_;refine qc ?_;refine qo ?_;subst hR;exact zb rfl (rv_g rfl)
 ·replace hR := zl hR h1;refine qn ?_;refine qb ?_;refine qa [.p] ?_;refine sa rfl rfl ?_;refine qc ?_;refine qo ?_;subst hR;exact zb rfl (rv_g rfl)
def qh6 (a0 : Int) (a1 : Int) (a2 : Int) : Int :=
 (qh5 ((decide (a0 < a1)) || (decide (a2 < a0))) 3)
theorem qy8 {g : GL} (a0 : Int) (a1 : Int) (a2 : Int)    : Con (EG g) 187 [G.int a0, G.int a1, G.int a2] (G.int (qh6 a0 a1 a2)) := by
 generalize hR : qh6 a0 a1 a2 = R;unfold qh6 at hR;refine qm Tryz.func187 rfl rfl fun w0 M0 => ?_;refine qb ?_;refine qa [.p] ?_;refine sa rfl rfl ?_;refine qc ?_;refine qb ?_;refine qa [.p, .p, .p, .p, .p, .p, .p, .p, .p, .p] ?_;refine sm rfl rfl ?_;refine sm rfl rfl ?_;refine su (zg rfl rfl rfl) rfl ?_;refine sm rfl rfl ?_;refine sg rfl rfl (fun h => qk rfl rfl) rfl ?_;refine sg rfl rfl (fun h => qk rfl rfl) rfl ?_;refine sg rfl rfl (fun h => ja rfl (gd h rfl) (gd h rfl)) rfl ?_;refine su (jl rfl rfl rfl rfl) rfl ?_;refine su (qf rfl qwe rfl (qwf ((decide (a0 < a1)) || (decide (a2 < a0))) 3) (qe rfl (qe rfl qj))) rfl ?_;refine sa rfl rfl ?_;refine qc ?_;refine qo ?_;subst hR;exact zb rfl (rv_g rfl)
end Go.Sim
set_option maxRecDepth 10000
namespace Go.Sim
open Go.Proofs
theorem zbi {g : GL} (a0 : List S5102) (hb : a0.length ≤ 1000000) : ConN (EG g) 159 [G.sl 3 (List.map S5102.c a0)] 104 3 (List.map S5102.c a0) := by
 refine qev Tryz.func159 rfl rfl fun w0 M0 => ?_;refine qb ?_;refine qa [.p] ?_;refine sa rfl rfl ?_;refine qc ?_;refine qb ?_;refine qb ?_;refine qa [.p, .p] ?_;refine sm rfl rfl ?_;refine su (qkf (f := S5102.c) (l := a0) rfl Tryz.underlying99 rfl rfl) rfl ?_;refine qc ?_;refine qm8 rfl (fun h => ?_) ?_
 ·refine qb ?_;refine qa [.p] ?_;refine sa rfl rfl ?_;refine qc ?_;refine qo ?_;exact qke (E := EG g) rfl rfl (by rw [h]; rfl)
 ·refine qn ?_;refine qb ?_;refine qa [.w, .p, .k, .p] ?_;refine sw (qfq (xs := List.map S5102.c []) 5 rfl Tryz.underlying99 qbn qq1 rfl jo rfl (by simp) (by decide) rfl) rfl ?_;refine sm rfl rfl ?_;refine st_k rfl rfl (vi (f := S5102.c) (out := []) (new := a0) rfl qq2 rfl rfl (qad rfl (qae (by decide) (by simp [S5102.c]))) (qi1 rfl) (by simp; omega)) rfl ?_;refine su (je rfl rfl) rfl ?_;refine qc ?_;refine qo ?_;exact qgj (E := EG g) rfl rfl rfl (List.length_map ..)
theorem zbj {g : GL} (a0 : List S5102) (hb : a0.length ≤ 1000000) : Con (EG g) 159 [G.sl 3 (List.map S5102.c a0)] (G.sl 3 (List.map S5102.c a0)) := ConN.con (by decide) (zbi a0 hb)
theorem zbk {g : GL} (a0 : List ByteArray) (hb : a0.length ≤ 1000000) : ConN (EG g) 160 [G.sl 1 (List.map cStr a0)] 9 1 (List.map cStr a0) := by
 refine qev Tryz.func160 rfl rfl fun w0 M0 => ?_;refine qb ?_;refine qa [.p] ?_;refine sa rfl rfl ?_;refine qc ?_;refine qb ?_;refine qb ?_;refine qa [.p, .p] ?_;refine sm rfl rfl ?_;refine su (qkf (f := cStr) (l := a0) rfl Tryz.underlying35 rfl rfl) rfl ?_;refine qc ?_;refine qm8 rfl (fun h => ?_) ?_
 ·refine qb ?_;refine qa [.p] ?_;refine sa rfl rfl ?_;refine qc ?_;refine qo ?_;exact qke (E := EG g) rfl rfl (by rw [h]; rfl)
 ·refine qn ?_;refine qb ?_;refine qa [.w, .p, .k, .p] ?_;refine sw (qfq (xs := List.map cStr []) 5 rfl Tryz.underlying35 ty9 z9 rfl jo rfl (by simp) (by decide) rfl) rfl ?_;refine sm rfl rfl ?_;refine st_k rfl rfl (vi (f := cStr) (out := []) (new := a0) rfl qyr rfl rfl (qad rfl (qae (by decide) (by simp [cStr]))) (qi1 rfl) (by simp; omega)) rfl ?_;refine su (je rfl rfl) rfl ?_;refine qc ?_;refine qo ?_;exact qgj (E := EG g) rfl rfl rfl (List.length_map ..)
theorem zbl {g : GL} (a0 : List ByteArray) (hb : a0.length ≤ 1000000) : Con (EG g) 160 [G.sl 1 (List.map cStr a0)] (G.sl 1 (List.map cStr a0)) := ConN.con (by decide) (zbk a0 hb)
end Go.Sim
set_option maxRecDepth 10000
namespace Go.Sim
open Go.Proofs
def qd2 (a0 : S5100) : S5100 :=
 a0
theorem zbm {g : GL} (a0 : S5100)  (hb : a0.Leases.length ≤ 1000000) (hb1 : a0.Shares.length ≤ 1000000)  : Con (EG g) 158 [G.agg [G.str a0.Request.Name, G.str a0.Request.Carrier, G.str a0.Request.Kind, G.str a0.Request.Terminal, G.str a0.Request.Partner, G.str a0.Request.Link, G.int a0.Request.Period.fFrom, G.int a0.Request.Period.fTo, G.int a0.Request.Period.Days, G.int a0.Request.Minute, G.int a0.Request.Seats, G.int a0.Request.Size, G.int a0.Request.Noise, G.str a0.Holder, G.sl 3 (List.map S5102.c a0.Leases), G.sl 1 (List.map cStr a0.Shares)]] (G.agg [G.str ((qd2 a0).Request.Name), G.str ((qd2 a0).Request.Carrier), G.str ((qd2 a0).Request.Kind), G.str ((qd2 a0).Request.Terminal), G.str ((qd2 a0).Request.Partner), G.str ((qd2 a0).Request.Link), G.int ((qd2 a0).Request.Period.fFrom), G.int ((qd2 a0).Request.Period.fTo), G.int ((qd2 a0).Request.Period.Days), G.int ((qd2 a0).Request.Minute), G.int ((qd2 a0).Request.Seats), G.int ((qd2 a0).Request.Size), G.int ((qd2 a0).Request.Noise), G.str ((qd2 a0).Holder), G.sl 3 (List.map S5102.c ((qd2 a0).Leases)), G.sl 1 (List.map cStr ((qd2 a0).Shares))]) := by
 generalize hR : qd2 a0 = R;unfold qd2 at hR;refine qm Tryz.func158 rfl rfl fun w0 M0 => ?_;refine qb ?_;refine qa [.w, .w] ?_;refine sw (qx7 (tv := .g (G.agg [G.str a0.Request.Name, G.str a0.Request.Carrier, G.str a0.Request.Kind, G.str a0.Request.Terminal, G.str a0.Request.Partner, G.str a0.Request.Link, G.int a0.Request.Period.fFrom, G.int a0.Request.Period.fTo, G.int a0.Request.Period.Days, G.int a0.Request.Minute, G.int a0.Request.Seats, G.int a0.Request.Size, G.int a0.Request.Noise, G.str a0.Holder, G.sl 3 (List.map S5102.c a0.Leases), G.sl 1 (List.map cStr a0.Shares)])) 1 rfl rfl rfl) rfl ?_;refine sw (zc 2 rfl qh8 rfl rfl) rfl ?_;refine qc ?_;refine qb ?_;refine zw [.p, .r, .p, .p, .r, .p, .p, .w, .p, .w] (by kernel_rfl) ?_;refine su (qy rfl qcb rfl) rfl ?_;refine sr (zo rfl qgt rfl rfl rfl) rfl ?_;refine su (qf rfl zbn rfl (zbj a0.Leases (by omega)) (qe rfl qj)) rfl ?_;refine su (qy rfl qg0 rfl) rfl ?_;refine sr (zo rfl ty22 rfl rfl rfl) rfl ?_;refine su (qf rfl zbo rfl (zbl a0.Shares (by omega)) (qe rfl qj)) rfl ?_;refine su (qy rfl qcb rfl) rfl ?_;refine jb rfl rfl (qu (tv := .g (G.sl 3 (List.map S5102.c a0.Leases))) rfl qgt rfl rfl rfl rfl rfl) ?_;refine su (qy rfl qg0 rfl) rfl ?_;refine jb rfl rfl (qu (tv := .g (G.sl 1 (List.map cStr a0.Shares))) rfl ty22 rfl rfl rfl rfl rfl) ?_;refine qc ?_;refine qb ?_;refine qa [.r, .w] ?_;refine sr (zm rfl vy rfl rfl rfl rfl) rfl ?_;refine jb rfl rfl (qu (tv := .g (G.agg [G.str a0.Request.Name, G.str a0.Request.Carrier, G.str a0.Request.Kind, G.str a0.Request.Terminal, G.str a0.Request.Partner, G.str a0.Request.Link, G.int a0.Request.Period.fFrom, G.int a0.Request.Period.fTo, G.int a0.Request.Period.Days, G.int a0.Request.Minute, G.int a0.Request.Seats, G.int a0.Request.Size, G.int a0.Request.Noise, G.str a0.Holder, G.sl 3 (List.map S5102.c a0.Leases), G.sl 1 (List.map cStr a0.Shares)])) rfl vy rfl rfl rfl rfl rfl) ?_;refine qc ?_;refine qo ?_;subst hR;exact zb rfl (xo rfl rfl vy rfl rfl)
def qfk (a0 : S5100) : Option S5100 := bif decide (a0.Leases.length ≤ 1000000) && decide (a0.Shares.length ≤ 1000000) then some a0 else none
theorem q7j {g : GL} (a0 : S5100) {R : S5100} (hR : qfk a0 = some R) : Con (EG g) 158 [G.agg [G.str a0.Request.Name, G.str a0.Request.Carrier, G.str a0.Request.Kind, G.str a0.Request.Terminal, G.str a0.Request.Partner, G.str a0.Request.Link, G.int a0.Request.Period.fFrom, G.int a0.Request.Period.fTo, G.int a0.Request.Period.Days, G.int a0.Request.Minute, G.int a0.Request.Seats, G.int a0.Request.Size, G.int a0.Request.Noise, G.str a0.Holder, G.sl 3 (List.map S5102.c a0.Leases), G.sl 1 (List.map cStr a0.Shares)]] (G.agg [G.str (R.Request.Name), G.str (R.Request.Carrier), G.str (R.Request.Kind), G.str (R.Request.Terminal), G.str (R.Request.Partner), G.str (R.Request.Link), G.int (R.Request.Period.fFrom), G.int (R.Request.Period.fTo), G.int (R.Request.Period.Days), G.int (R.Request.Minute), G.int (R.Request.Seats), G.int (R.Request.Size), G.int (R.Request.Noise), G.str (R.Holder), G.sl 3 (List.map S5102.c (R.Leases)), G.sl 1 (List.map cStr (R.Shares))]) := by
 unfold qfk at hR;rw [cond_eq_ite] at hR
 split at hR
 ·rename_i h
  simp only [Bool.and_eq_true, decide_eq_true_eq] at h
  cases hR
  exact zbm a0 h.1 h.2
 ·cases hR
end Go.Sim
set_option maxRecDepth 10000
namespace Go.Sim
open Go.Proofs
def w7 (a1 : S5100 → Option S5100) : List S5100 → Nat → (List S5100) → Option (List S5100)
 | [], k3, x1 => some x1
 | y4 :: t5, k3, x1 => zf (a1 y4) fun r6 => w7 a1 t5 (k3 + 1) (x1 ++ [r6])
def qxx (a0 : List S5100) (a1 : S5100 → Option S5100) : Option (List S5100) :=
 w7 a1 a0 0 []
theorem zbp {g : GL} (a0 : List S5100) (a1 : S5100 → Option S5100) {R : List S5100} {ca1 : G} {ia1 : FuncId} {ka1 : List G} (ha1 : FnIs ca1 ia1 ka1) (Ka1 : ze Tryz.prog ia1) (Ha1 : ∀ (x0 : S5100) (r : S5100), a1 x0 = some r → Con (EG g) ia1 ([G.agg [G.str x0.Request.Name, G.str x0.Request.Carrier, G.str x0.Request.Kind, G.str x0.Request.Terminal, G.str x0.Request.Partner, G.str x0.Request.Link, G.int x0.Request.Period.fFrom, G.int x0.Request.Period.fTo, G.int x0.Request.Period.Days, G.int x0.Request.Minute, G.int x0.Request.Seats, G.int x0.Request.Size, G.int x0.Request.Noise, G.str x0.Holder, G.sl 3 (List.map S5102.c x0.Leases), G.sl 1 (List.map cStr x0.Shares)]] ++ ka1) (G.agg [G.str r.Request.Name, G.str r.Request.Carrier, G.str r.Request.Kind, G.str r.Request.Terminal, G.str r.Request.Partner, G.str r.Request.Link, G.int r.Request.Period.fFrom, G.int r.Request.Period.fTo, G.int r.Request.Period.Days, G.int r.Request.Minute, G.int r.Request.Seats, G.int r.Request.Size, G.int r.Request.Noise, G.str r.Holder, G.sl 3 (List.map S5102.c r.Leases), G.sl 1 (List.map cStr r.Shares)])) (hb : a0.length ≤ 1000000) (hR : qxx a0 a1 = some R) : ConN (EG g) 157 [G.sl 16 (List.map S5100.c a0), ca1] 101 16 (List.map S5100.c R) := by
 unfold qxx at hR;refine qev Tryz.func157 rfl rfl fun w0 M0 => ?_;refine zp (f := S5100.c) (l := a0) 0 rfl fun hla0 => ?_;refine qb ?_;refine qa [.w] ?_;refine sw (xc 4 101 16 rfl rfl rfl) rfl ?_;refine qc ?_;refine qb ?_;refine qa [.w] ?_;refine sw (xc 5 101 16 rfl rfl rfl) rfl ?_;refine qc ?_;refine qb ?_;refine qb ?_;refine qa [.p, .p, .p] ?_;refine sm rfl rfl ?_;refine su (za (f := S5100.c) (l := a0) rfl Tryz.underlying40 rfl) rfl ?_;refine sm rfl rfl ?_;refine qc ?_;refine qq ?_;refine zh (γ := Nat × (List S5100) × (List S5100)) (fun g => ([(1, .g (ca1)), (5, .osl 5 16 0 (List.length g.2.2)), (8, .g (G.sl 16 (List.map S5100.c a0))), (9, .g (G.int (List.length a0 : Int))), (10, .g (G.int ((g.1 : Nat) : Int)))], [(5, .arr 101 16 (List.map S5100.c g.2.2))])) (fun g => g.2.2.length ≤ g.1 ∧ g.1 ≤ a0.length ∧ g.2.2.length ≤ g.1 ∧ a0.drop g.1 = g.2.1 ∧ w7 a1 g.2.1 g.1 g.2.2 = some R) (fun g => List.length g.2.1) ⟨rfl, (0, a0, []), jA, ⟨rfl, trivial⟩, rfl, ⟨iH, iH, iH, rfl, (by exact hR)⟩, trivial⟩ ?_
 ·rintro ⟨k3, t5, x1⟩ ⟨iv1_0, iv1_1, iv1_2, hd, hR⟩;replace hd : a0.drop k3 = t5 := hd;replace hR : w7 a1 t5 k3 x1 = some R := hR;replace iv1_0 : x1.length ≤ k3 := iv1_0;replace iv1_1 : k3 ≤ a0.length := iv1_1;replace iv1_2 : x1.length ≤ k3 := iv1_2;refine qb ?_;refine qa [.p] ?_;refine su (zg rfl rfl rfl) rfl ?_;refine qc ?_;refine zp (f := S5100.c) (l := a0) 8 rfl fun hlz1 => ?_;refine qb ?_;refine ql _ rfl (fun h1 => ?_) (fun h1 => ?_)
  ·replace h1 : (decide (((k3 : Nat) : Int) < (List.length a0 : Int))) = true := h1;obtain ⟨y4, t5, rfl, hx1, hd⟩ := zq hd (decT h1);replace h1 := decT h1;rw [w7] at hR;(try dsimp only at hR);refine qn ?_;refine qb ?_;refine qq ?_;refine qb ?_;refine qa [.p, .p, .w, .w] ?_;refine su (jd (f := S5100.c) (l := a0) (a := y4) rfl Tryz.underlying40 vy rfl rfl (Int.natCast_nonneg _) hx1) rfl ?_;refine su (qp rfl vy rfl rfl rfl) rfl ?_;refine sw (zc 7 rfl qh8 rfl rfl) rfl ?_;refine jb rfl rfl (qu (tv := .g (G.agg [G.str y4.Request.Name, G.str y4.Request.Carrier, G.str y4.Request.Kind, G.str y4.Request.Terminal, G.str y4.Request.Partner, G.str y4.Request.Link, G.int y4.Request.Period.fFrom, G.int y4.Request.Period.fTo, G.int y4.Request.Period.Days, G.int y4.Request.Minute, G.int y4.Request.Seats, G.int y4.Request.Size, G.int y4.Request.Noise, G.str y4.Holder, G.sl 3 (List.map S5102.c y4.Leases), G.sl 1 (List.map cStr y4.Shares)])) rfl vy rfl rfl rfl rfl rfl) ?_;refine qc ?_;obtain ⟨r6, br6, hR⟩ := qi hR;refine qa [.p, .p, .r, .p, .p, .k, .p] ?_;refine su (zd rfl rfl) rfl ?_;refine sm rfl rfl ?_;refine sr (zm rfl vy rfl rfl rfl rfl) rfl ?_;refine su (xm rfl ha1 Ka1 rfl (Ha1 y4 _ br6) (qe rfl qj)) rfl ?_;refine su (qv rfl Tryz.underlying40 vy qh8 rfl (qw rfl jo) rfl (by simp [S5100.c, S115.c, S45.c, S5102.c]) (by decide)) rfl ?_;refine st_k rfl rfl (vi (f := S5100.c) (out := x1) (new := [r6]) rfl qkw rfl rfl (qad rfl (qae (by decide) (by simp [S5100.c, S115.c, S45.c, S5102.c]))) (qi1 rfl) (by simp; omega)) rfl ?_;refine su (je rfl rfl) rfl ?_;refine qc ?_;refine qa [.p, .p] ?_;refine su (zn rfl rfl rfl iE) rfl ?_;refine sm rfl rfl ?_;refine qc ?_;exact ⟨rfl, (k3 + 1, t5, x1 ++ [r6]), jA, ⟨rfl, trivial⟩, rfl, ⟨iB, iB, iB, hd, hR⟩, by simp⟩
  ·replace h1 : (decide (((k3 : Nat) : Int) < (List.length a0 : Int))) = false := h1;obtain rfl := z8 hd (decF h1);rw [w7] at hR;refine zt ?_;refine qb ?_;refine qa [.p, .p] ?_;refine su (zd rfl rfl) rfl ?_;refine su (je rfl rfl) rfl ?_;refine qc ?_;refine qo ?_;obtain rfl := Option.some.inj hR;exact qgj rfl rfl rfl ((List.length_map ..).trans rfl)
end Go.Sim
set_option maxRecDepth 10000
namespace Go.Sim
open Go.Proofs
def qnu (a0 : S5042) : Option S5042 :=
 zf (qxx a0.Slots qfk) fun r1 => some (S5042.mk r1 (qd9 (List.replicate (List.length a0.Waiting) (S5072.mk (S115.mk ByteArray.empty ByteArray.empty ByteArray.empty ByteArray.empty ByteArray.empty ByteArray.empty (S45.mk 0 0 0) 0 0 0 0) 0)) a0.Waiting))
theorem qwx {g : GL} (a0 : S5042) {R : S5042}  (hb : a0.Slots.length ≤ 1000000) (hb1 : a0.Waiting.length ≤ 1000000) (hR : qnu a0 = some R) : ConS (EG g) 111 [G.agg [G.sl 16 (List.map S5100.c a0.Slots), G.sl 14 (List.map S5072.c a0.Waiting)]] 101 16 (List.map S5100.c R.Slots) [G.sl 14 (List.map S5072.c R.Waiting)] := by
 unfold qnu at hR;refine qtp Tryz.func111 rfl rfl fun w0 M0 => ?_;refine qb ?_;refine qa [.p, .w] ?_;refine su (zi rfl rfl) rfl ?_;refine sw (zc 2 rfl wn rfl rfl) rfl ?_;refine qc ?_;refine qb ?_;refine qa [.p, .p, .p, .w, .p] ?_;refine su (qd rfl wa rfl) rfl ?_;refine su (qg rfl qdf rfl) rfl ?_;refine su (za (f := S5072.c) (l := a0.Waiting) rfl Tryz.underlying41 rfl) rfl ?_;refine sw (qvs (f := S5072.c) (z := (S5072.mk (S115.mk ByteArray.empty ByteArray.empty ByteArray.empty ByteArray.empty ByteArray.empty ByteArray.empty (S45.mk 0 0 0) 0 0 0 0) 0)) 7 rfl q7k rfl rfl rfl (by first | exact Int.le_refl _ | omega) (by first | decide | omega) rfl rfl rfl) rfl ?_;refine su (je rfl rfl) rfl ?_;refine qc ?_;refine qb ?_;refine qa [.p, .p, .p, .w] ?_;refine su (zd rfl rfl) rfl ?_;refine su (qd rfl wa rfl) rfl ?_;refine su (qg rfl qdf rfl) rfl ?_;refine sw (qvt (f := S5072.c) (d := List.replicate (List.length a0.Waiting) (S5072.mk (S115.mk ByteArray.empty ByteArray.empty ByteArray.empty ByteArray.empty ByteArray.empty ByteArray.empty (S45.mk 0 0 0) 0 0 0 0) 0)) (s := a0.Waiting) rfl qrb rfl List.length_replicate rfl (qad rfl (qae (by decide) (by simp [S5072.c, S115.c, S45.c])))) rfl ?_;refine qc ?_;refine qb ?_;refine qgi (l := [(1, .g (G.ref [G.sl 16 (List.map S5100.c a0.Slots), G.sl 14 (List.map S5072.c a0.Waiting)])), (2, .ptr 2 0), (3, .g (G.sl 14 (List.map S5072.c (qd9 (List.replicate (List.length a0.Waiting) (S5072.mk (S115.mk ByteArray.empty ByteArray.empty ByteArray.empty ByteArray.empty ByteArray.empty ByteArray.empty (S45.mk 0 0 0) 0 0 0 0) 0)) a0.Waiting))))]) (m := [(2, .box [.g (G.lit (.slice none 0 0)), .g (G.lit (.slice none 0 0))])]) 7 rfl ⟨.inl ⟨rfl, rfl⟩, .inl ⟨rfl, rfl⟩, .inr (q2t ((qh _ _).trans List.length_replicate)), trivial⟩ ⟨rfl, trivial⟩ rfl rfl ?_;obtain ⟨r1, br1, hR⟩ := qi hR;refine qa [.p, .p, .w, .p, .p, .w] ?_;refine su (qd rfl vh rfl) rfl ?_;refine su (qg rfl qax rfl) rfl ?_;refine sw (qhg (f0 := S5100.c) (l := r1) 14 rfl zbq rfl (zbp a0.Slots qfk qe0 zbr (fun x0 r_ h_ => q7j x0 h_) (by first | assumption | omega | (simp [qh]; done) | (simp [qh]; omega)) br1) (qe rfl (qe rfl qj)) rfl) rfl ?_;refine sm rfl rfl ?_;refine su (qto rfl wn rfl qd1 rfl rfl q5f (fun _ _ => rfl)) rfl ?_;refine jb rfl rfl (qu (tv := .agl [] 14 16 (List.length r1) [G.sl 14 (List.map S5072.c (qd9 (List.replicate (List.length a0.Waiting) (S5072.mk (S115.mk ByteArray.empty ByteArray.empty ByteArray.empty ByteArray.empty ByteArray.empty ByteArray.empty (S45.mk 0 0 0) 0 0 0 0) 0)) a0.Waiting))]) rfl zu rfl rfl rfl rfl rfl) ?_;refine qc ?_;refine qo ?_;obtain rfl := Option.some.inj hR;exact q8i rfl zu rfl rfl rfl (by first | exact List.length_map .. | simp)
theorem qsp : ∀ (t : List S5100) (k : Nat) (x r : List S5100), w7 qfk t k x = some r → r = x ++ t
 | [], _, x, r, h => by rw [w7] at h; cases h; simp
 | y :: t, k, x, r, h => by
  rw [w7] at h;obtain ⟨z, h1, h⟩ := qi h;unfold qfk at h1;rw [cond_eq_ite] at h1
  split at h1
  ·cases h1
   rw [qsp t _ _ _ h]; simp
  ·cases h1
theorem qpw {α : Type} (z : α) (l : List α) : qd9 (List.replicate l.length z) l = l := by
 unfold qd9
 simp
theorem qf9 {a r : S5042} (h : qnu a = some r) : r = a := by
 unfold qnu at h;obtain ⟨x, h1, h⟩ := qi h
 cases h
 rw [qpw, qsp _ _ _ _ h1]
 rfl
theorem q4c (a : List S5100) (h : ∀ x ∈ a, x.Leases.length ≤ 1000000 ∧ x.Shares.length ≤ 1000000) : ∀ (k : Nat) (x : List S5100), w7 qfk a k x = some (x ++ a) := by
 induction a with
 | nil => intro k x; rw [w7]; simp
 | cons y t ih =>
  intro k x;have hy := h y List.mem_cons_self
  have e : qfk y = some y := by
   unfold qfk;rw [decide_eq_true hy.1, decide_eq_true hy.2]; rfl
  rw [w7, e];simp only [zf];rw [ih (fun x hx => h x (List.mem_cons_of_mem _ hx))]
  simp
theorem qlt {a : S5042} (h : ∀ x ∈ a.Slots, x.Leases.length ≤ 1000000 ∧ x.Shares.length ≤ 1000000) : qnu a = some a := by
 unfold qnu
 have e : qxx a.Slots qfk = some a.Slots := by unfold qxx; rw [q4c _ h]; rfl
 rw [e];simp only [zf];rw [qpw]
end Go.Sim
set_option maxRecDepth 10000
namespace Go.Sim
open Go.Proofs
def qas (rec1 : Int → (List S1079) → Option (List S1079)) (a1 : Int) (a3 : S1079 → S1079 → Option Int) (x1 : Int) : Nat → Int → (List S1079) → Option (List S1079)
 | 0, _, _ => none
 | k8 + 1, x5, x6 => zf (bif decide (a1 < x5) then ixO x6 x5 else some default) fun y9 => zf (bif decide (a1 < x5) then ixO x6 (x5 - 1) else some default) fun y10 => zf (bif decide (a1 < x5) then a3 y9 y10 else some default) fun r11 => (bif (decide (a1 < x5)) && (decide (r11 < 0)) then zf (ixO x6 (x5 - 1)) fun y12 => zf (ixO x6 x5) fun y13 => zf (ixO x6 x5) fun y14 => zf (ixO (List.set x6 (Int.toNat x5) y12) (x5 - 1)) fun y15 => qas rec1 a1 a3 x1 k8 (x5 - 1) (List.set (List.set x6 (Int.toNat x5) y12) (Int.toNat (x5 - 1)) y13) else rec1 (x1 + 1) x6)
def xe (a1 : Int) (a3 : S1079 → S1079 → Option Int) : Nat → Int → (List S1079) → Option (List S1079)
 | 0, x1, x2 => some x2
 | k4 + 1, x1, x2 => qas (fun z0_ z1_ => xe a1 a3 k4 z0_ z1_) a1 a3 x1 (((x1 - a1).toNat) + 1) x1 x2
def qpo (a0 : List S1079) (a1 : Int) (a2 : Int) (a3 : S1079 → S1079 → Option Int) : Option (List S1079) :=
 xe a1 a3 ((a2 - (a1 + 1)).toNat) (a1 + 1) a0
theorem q7l {g : GL} (a0 : List S1079) (a1 : Int) (a2 : Int) (a3 : S1079 → S1079 → Option Int) {R : List S1079} {N0 : Nat} (hN0 : List.length a0 = N0) {ca3 : G} {ia3 : FuncId} {ka3 : List G} (ha3 : FnIs ca3 ia3 ka3) (Ka3 : ze Tryz.prog ia3) (Ha3 : ∀ (x0 : S1079) (x1 : S1079) (r : Int), a3 x0 x1 = some r → Con (EG g) ia3 ([G.agg (S1079.c x0), G.agg (S1079.c x1)] ++ ka3) (G.int r)) (hA : 0 ≤ a1) (hA2 : a1 ≤ 1000000) (hB : a2 ≤ 1000000) (hR : qpo a0 a1 a2 a3 = some R) : ConB (EG g) 195 [.osl 0 7 0 N0, .g (G.int a1), .g (G.int a2), .g (ca3)] [(0, .arr 53 7 (List.map S1079.c a0))] (G.tup []) [(0, .arr 53 7 (List.map S1079.c R))] := by
 unfold qpo at hR;refine qaz Tryz.func195 rfl rfl rfl fun w0 M0 x => ?_;refine qfp (f := S1079.c) (l := a0) 0 rfl fun hla0 => ?_;refine qb ?_;refine qa [.p, .p, .p] ?_;refine sm rfl rfl ?_;refine su (zn rfl rfl rfl iF) rfl ?_;refine sa rfl rfl ?_;refine qc ?_;refine qq ?_;refine zh (γ := Nat × Int × (List S1079)) (fun g => ([(0, .osl 0 7 0 (N0)), (1, .g (G.int a1)), (2, .g (G.int a2)), (3, .g (ca3)), (8, .g (G.int g.2.1))], [(0, .arr 53 7 (List.map S1079.c g.2.2))])) (fun g => g.1 = (a2 - g.2.1).toNat ∧ (a1 + 1) ≤ g.2.1 ∧ List.length g.2.2 = N0 ∧ xe a1 a3 g.1 g.2.1 g.2.2 = some R) (fun g => g.1) ⟨rfl, ((a2 - (a1 + 1)).toNat, a1 + 1, a0), jA, ⟨rfl, trivial⟩, rfl, ⟨rfl, iD, hN0, (by exact hR)⟩, trivial⟩ ?_
 ·rintro ⟨k4, x1, x2⟩ ⟨hk1, iv1_0, ln3, hR⟩;replace hk1 : k4 = (a2 - x1).toNat := hk1;replace hR : xe a1 a3 k4 x1 x2 = some R := hR;replace iv1_0 : (a1 + 1) ≤ x1 := iv1_0;replace ln3 : List.length x2 = N0 := ln3;refine qb ?_;refine qb ?_;refine qa [.p, .p, .p] ?_;refine sm rfl rfl ?_;refine sm rfl rfl ?_;refine su (zg rfl rfl rfl) rfl ?_;refine qc ?_;refine ql _ rfl (fun h1 => ?_) (fun h1 => ?_)
  ·replace h1 : (decide (x1 < a2)) = true := h1;replace h1 := decT h1;obtain ⟨k4, rfl⟩ : ∃ m, k4 = m + 1 := ⟨k4 - 1, by omega⟩;rw [xe] at hR;(try dsimp only at hR);refine qn ?_;refine qb ?_;refine qq ?_;refine qb ?_;refine qa [.p, .p] ?_;refine sm rfl rfl ?_;refine sa rfl rfl ?_;refine qc ?_;refine qq ?_;refine zh (γ := Nat × Int × (List S1079)) (fun g => ([(0, .osl 0 7 0 (N0)), (1, .g (G.int a1)), (2, .g (G.int a2)), (3, .g (ca3)), (8, .g (G.int x1)), (9, .g (G.int g.2.1))], [(0, .arr 53 7 (List.map S1079.c g.2.2))])) (fun g => (g.2.1 - a1).toNat < g.1 ∧ a1 ≤ g.2.1 ∧ g.2.1 ≤ 1000000 ∧ List.length g.2.2 = N0 ∧ qas (fun z0_ z1_ => xe a1 a3 k4 z0_ z1_) a1 a3 x1 g.1 g.2.1 g.2.2 = some R) (fun g => g.1) ⟨rfl, (((x1 - a1).toNat) + 1, x1, x2), jA, ⟨rfl, trivial⟩, rfl, ⟨Nat.lt_succ_self _, iD, iD, ln3, (by exact hR)⟩, trivial⟩ ?_
   ·rintro ⟨k8, x5, x6⟩ ⟨hk2, iv2_0, iv2_1, ln7, hR⟩;replace hk2 : (x5 - a1).toNat < k8 := hk2;replace hR : qas (fun z0_ z1_ => xe a1 a3 k4 z0_ z1_) a1 a3 x1 k8 x5 x6 = some R := hR;replace iv2_0 : a1 ≤ x5 := iv2_0;replace iv2_1 : x5 ≤ 1000000 := iv2_1;replace ln7 : List.length x6 = N0 := ln7;obtain ⟨k8, rfl⟩ : ∃ m, k8 = m + 1 := ⟨k8 - 1, by omega⟩;rw [qas] at hR;(try dsimp only at hR);refine qb ?_;refine qb ?_;obtain ⟨y9, by9, hR⟩ := qi hR;obtain ⟨y10, by10, hR⟩ := qi hR;obtain ⟨r11, br11, hR⟩ := qi hR;refine zw [.p, .p, .p, .p, .p, .p, .p, .p, .r, .p, .p, .p, .p, .r, .p, .p, .p] (by kernel_rfl) ?_;refine sm rfl rfl ?_;refine sm rfl rfl ?_;refine su (ja rfl rfl rfl) rfl ?_;refine sm rfl rfl ?_;refine sg rfl rfl (fun h => qk rfl rfl) rfl ?_;refine sg rfl rfl (fun h => zd rfl rfl) rfl ?_;refine sg rfl rfl (fun h => qk rfl rfl) rfl ?_;refine sg rfl rfl (fun h => ku rfl Tryz.underlying48 jf (gd h rfl) (gd h rfl) (jm (xi by9 h)) (Nat.lt_of_lt_of_eq (j7 (zj (xi by9 h))) ln7)) rfl ?_;refine qgb rfl rfl rfl (z6 _ _) (fun h => xd (f := S1079.c) (l := x6) (a := y9) rfl jf (gd h rfl) rfl (zj (xi by9 h))) rfl ?_;refine sg rfl rfl (fun h => zd rfl rfl) rfl ?_;refine sg rfl rfl (fun h => qk rfl rfl) rfl ?_;refine sg rfl rfl (fun h => vc rfl (gd h rfl) rfl iF) rfl ?_;refine sg rfl rfl (fun h => ku rfl Tryz.underlying48 jf (gd h rfl) (gd h rfl) (jm (xi by10 h)) (Nat.lt_of_lt_of_eq (j7 (zj (xi by10 h))) ln7)) rfl ?_;refine qgb rfl rfl rfl (z6 _ _) (fun h => xd (f := S1079.c) (l := x6) (a := y10) rfl jf (gd h rfl) rfl (zj (xi by10 h))) rfl ?_;refine sg rfl rfl (fun h => xm rfl ha3 Ka3 (gd h rfl) (Con.lend (Ha3 y9 y10 _ (xi br11 h))) (qe (gd h rfl) (qe (gd h rfl) qj))) rfl ?_;refine sg rfl rfl (fun h => zg rfl (gd h rfl) rfl) rfl ?_;refine su (zx rfl rfl rfl rfl) rfl ?_;refine qc ?_;refine ql _ rfl (fun h3 => ?_) (fun h3 => ?_)
    ·replace h3 : ((decide (a1 < x5)) && (decide (r11 < 0))) = true := h3;replace hR := zk hR h3;(try simp only [bB] at h3);refine qn ?_;refine qb ?_;refine qq ?_;obtain ⟨y12, by12, hR⟩ := qi hR;obtain ⟨y13, by13, hR⟩ := qi hR;obtain ⟨y14, by14, hR⟩ := qi hR;obtain ⟨y15, by15, hR⟩ := qi hR;refine zw [.p, .p, .p, .p, .p, .p, .p, .p, .p, .r, .p, .p, .p, .r, .p, .w, .p, .w] (by kernel_rfl) ?_;refine su (zd rfl rfl) rfl ?_;refine sm rfl rfl ?_;refine su (zd rfl rfl) rfl ?_;refine sm rfl rfl ?_;refine su (vc rfl rfl rfl iF) rfl ?_;refine su (zd rfl rfl) rfl ?_;refine sm rfl rfl ?_;refine su (vc rfl rfl rfl iF) rfl ?_;refine su (ku rfl Tryz.underlying48 jf rfl rfl (jm by12) (Nat.lt_of_lt_of_eq (j7 (zj by12)) ln7)) rfl ?_;refine sr (xd (f := S1079.c) (l := x6) (a := y12) rfl jf rfl rfl (zj by12)) rfl ?_;refine su (zd rfl rfl) rfl ?_;refine sm rfl rfl ?_;refine su (ku rfl Tryz.underlying48 jf rfl rfl (jm by13) (Nat.lt_of_lt_of_eq (j7 (zj by13)) ln7)) rfl ?_;refine sr (xd (f := S1079.c) (l := x6) (a := y13) rfl jf rfl rfl (zj by13)) rfl ?_;refine su (ku rfl Tryz.underlying48 jf rfl rfl (jm by14) (Nat.lt_of_lt_of_eq (j7 (zj by14)) ln7)) rfl ?_;refine jb rfl rfl (qao (f := S1079.c) (l := x6) (a' := y12) rfl jf rfl rfl rfl (Nat.lt_of_lt_of_eq (Nat.lt_of_lt_of_eq (j7 (zj by14)) ln7) (Eq.symm ln7)) rfl (fun _ => rfl)) ?_;refine su (ku rfl Tryz.underlying48 jf rfl rfl (jm by15) (Nat.lt_of_lt_of_eq (j7 (zj by15)) ((List.length_set ..).trans ln7))) rfl ?_;refine jb rfl rfl (qao (f := S1079.c) (l := List.set x6 (Int.toNat x5) y12) (a' := y13) rfl jf rfl rfl rfl (Nat.lt_of_lt_of_eq (Nat.lt_of_lt_of_eq (j7 (zj by15)) ((List.length_set ..).trans ln7)) (Eq.symm ((List.length_set ..).trans ln7))) rfl (fun _ => rfl)) ?_;refine qc ?_;refine qa [.p, .p, .p] ?_;refine sm rfl rfl ?_;refine su (vc rfl rfl rfl iF) rfl ?_;refine sa rfl rfl ?_;refine qc ?_;exact ⟨rfl, (k8, x5 - 1, List.set (List.set x6 (Int.toNat x5) y12) (Int.toNat (x5 - 1)) y13), ⟨(by simp only [List.length_set]; rfl), rfl, rfl, rfl, rfl, rfl, trivial⟩, ⟨rfl, trivial⟩, rfl, ⟨iB, iB, iB, ((List.length_set ..).trans ((List.length_set ..).trans ln7)), hR⟩, by simp⟩
    ·replace h3 : ((decide (a1 < x5)) && (decide (r11 < 0))) = false := h3;replace hR := zl hR h3;(try simp only [bB] at h3);refine zt ?_;refine qa [.p, .p, .p] ?_;refine sm rfl rfl ?_;refine su (zn rfl rfl rfl iG) rfl ?_;refine sa rfl rfl ?_;refine qc ?_;exact ⟨rfl, (k4, x1 + 1, x6), jA, ⟨rfl, trivial⟩, rfl, ⟨iB, iB, ln7, hR⟩, by simp⟩
  ·replace h1 : (decide (x1 < a2)) = false := h1;replace h1 := decF h1
   obtain rfl : k4 = 0 := by omega
   rw [xe] at hR;refine zt ?_;obtain rfl := Option.some.inj hR;show ResOk _ _ _ _ ∧ MemL _ _;exact ⟨res0 rfl, ⟨rfl, trivial⟩⟩
def w4 (a1 : Int) (a2 : Int) : Nat → Int → (List S1079) → Option (List S1079)
 | 0, x1, x2 => some x2
 | k5 + 1, x1, x2 => zf (ixO x2 (a2 + x1)) fun y6 => zf (ixO x2 (a1 + x1)) fun y7 => zf (ixO x2 (a1 + x1)) fun y8 => zf (ixO (List.set x2 (Int.toNat (a1 + x1)) y6) (a2 + x1)) fun y9 => w4 a1 a2 k5 (x1 + 1) (List.set (List.set x2 (Int.toNat (a1 + x1)) y6) (Int.toNat (a2 + x1)) y7)
def qpm (a0 : List S1079) (a1 : Int) (a2 : Int) (a3 : Int) (a4 : S1079 → S1079 → Option Int) : Option (List S1079) :=
 w4 a1 a2 ((a3 - 0).toNat) 0 a0
theorem q4d {g : GL} (a0 : List S1079) (a1 : Int) (a2 : Int) (a3 : Int) (a4 : S1079 → S1079 → Option Int) {R : List S1079} {N0 : Nat} (hN0 : List.length a0 = N0) {ca4 : G} {ia4 : FuncId} {ka4 : List G} (ha4 : FnIs ca4 ia4 ka4) (Ka4 : ze Tryz.prog ia4) (Ha4 : ∀ (x0 : S1079) (x1 : S1079) (r : Int), a4 x0 x1 = some r → Con (EG g) ia4 ([G.agg (S1079.c x0), G.agg (S1079.c x1)] ++ ka4) (G.int r)) (hA : 0 ≤ a1) (hA2 : a1 ≤ 60000) (hB : 0 ≤ a2) (hB2 : a2 ≤ 60000) (hN : a3 ≤ 60000) (hR : qpm a0 a1 a2 a3 a4 = some R) : ConB (EG g) 198 [.osl 0 7 0 N0, .g (G.int a1), .g (G.int a2), .g (G.int a3), .g (ca4)] [(0, .arr 53 7 (List.map S1079.c a0))] (G.tup []) [(0, .arr 53 7 (List.map S1079.c R))] := by
 unfold qpm at hR;refine qaz Tryz.func198 rfl rfl rfl fun w0 M0 x => ?_;refine qfp (f := S1079.c) (l := a0) 0 rfl fun hla0 => ?_;refine qb ?_;refine qa [.p] ?_;refine sa rfl rfl ?_;refine qc ?_;refine qq ?_;refine zh (γ := Nat × Int × (List S1079)) (fun g => ([(0, .osl 0 7 0 (N0)), (1, .g (G.int a1)), (2, .g (G.int a2)), (3, .g (G.int a3)), (10, .g (G.int g.2.1))], [(0, .arr 53 7 (List.map S1079.c g.2.2))])) (fun g => g.1 = (a3 - g.2.1).toNat ∧ 0 ≤ g.2.1 ∧ List.length g.2.2 = N0 ∧ w4 a1 a2 g.1 g.2.1 g.2.2 = some R) (fun g => g.1) ⟨rfl, ((a3 - 0).toNat, 0, a0), jA, ⟨rfl, trivial⟩, rfl, ⟨rfl, iD, hN0, (by exact hR)⟩, trivial⟩ ?_
 ·rintro ⟨k5, x1, x2⟩ ⟨hk1, iv1_0, ln3, hR⟩;replace hk1 : k5 = (a3 - x1).toNat := hk1;replace hR : w4 a1 a2 k5 x1 x2 = some R := hR;replace iv1_0 : 0 ≤ x1 := iv1_0;replace ln3 : List.length x2 = N0 := ln3;refine qb ?_;refine qb ?_;refine qa [.p, .p, .p] ?_;refine sm rfl rfl ?_;refine sm rfl rfl ?_;refine su (zg rfl rfl rfl) rfl ?_;refine qc ?_;refine ql _ rfl (fun h1 => ?_) (fun h1 => ?_)
  ·replace h1 : (decide (x1 < a3)) = true := h1;replace h1 := decT h1;obtain ⟨k5, rfl⟩ : ∃ m, k5 = m + 1 := ⟨k5 - 1, by omega⟩;rw [w4] at hR;(try dsimp only at hR);refine qn ?_;refine qb ?_;refine qq ?_;obtain ⟨y6, by6, hR⟩ := qi hR;obtain ⟨y7, by7, hR⟩ := qi hR;obtain ⟨y8, by8, hR⟩ := qi hR;obtain ⟨y9, by9, hR⟩ := qi hR;refine zw [.p, .p, .p, .p, .p, .p, .p, .p, .p, .p, .p, .p, .p, .r, .p, .p, .p, .p, .p, .r, .p, .w, .p, .w] (by kernel_rfl) ?_;refine su (zd rfl rfl) rfl ?_;refine sm rfl rfl ?_;refine sm rfl rfl ?_;refine su (zn rfl rfl rfl iF) rfl ?_;refine su (zd rfl rfl) rfl ?_;refine sm rfl rfl ?_;refine sm rfl rfl ?_;refine su (zn rfl rfl rfl iF) rfl ?_;refine su (zd rfl rfl) rfl ?_;refine sm rfl rfl ?_;refine sm rfl rfl ?_;refine su (zn rfl rfl rfl iF) rfl ?_;refine su (ku rfl Tryz.underlying48 jf rfl rfl (jm by6) (Nat.lt_of_lt_of_eq (j7 (zj by6)) ln3)) rfl ?_;refine sr (xd (f := S1079.c) (l := x2) (a := y6) rfl jf rfl rfl (zj by6)) rfl ?_;refine su (zd rfl rfl) rfl ?_;refine sm rfl rfl ?_;refine sm rfl rfl ?_;refine su (zn rfl rfl rfl iF) rfl ?_;refine su (ku rfl Tryz.underlying48 jf rfl rfl (jm by7) (Nat.lt_of_lt_of_eq (j7 (zj by7)) ln3)) rfl ?_;refine sr (xd (f := S1079.c) (l := x2) (a := y7) rfl jf rfl rfl (zj by7)) rfl ?_;refine su (ku rfl Tryz.underlying48 jf rfl rfl (jm by8) (Nat.lt_of_lt_of_eq (j7 (zj by8)) ln3)) rfl ?_;refine jb rfl rfl (qao (f := S1079.c) (l := x2) (a' := y6) rfl jf rfl rfl rfl (Nat.lt_of_lt_of_eq (Nat.lt_of_lt_of_eq (j7 (zj by8)) ln3) (Eq.symm ln3)) rfl (fun _ => rfl)) ?_;refine su (ku rfl Tryz.underlying48 jf rfl rfl (jm by9) (Nat.lt_of_lt_of_eq (j7 (zj by9)) ((List.length_set ..).trans ln3))) rfl ?_;refine jb rfl rfl (qao (f := S1079.c) (l := List.set x2 (Int.toNat (a1 + x1)) y6) (a' := y7) rfl jf rfl rfl rfl (Nat.lt_of_lt_of_eq (Nat.lt_of_lt_of_eq (j7 (zj by9)) ((List.length_set ..).trans ln3)) (Eq.symm ((List.length_set ..).trans ln3))) rfl (fun _ => rfl)) ?_;refine qc ?_;refine qa [.p, .p, .p] ?_;refine sm rfl rfl ?_;refine su (zn rfl rfl rfl iF) rfl ?_;refine sa rfl rfl ?_;refine qc ?_;exact ⟨rfl, (k5, x1 + 1, List.set (List.set x2 (Int.toNat (a1 + x1)) y6) (Int.toNat (a2 + x1)) y7), ⟨(by simp only [List.length_set]; rfl), rfl, rfl, rfl, rfl, trivial⟩, ⟨rfl, trivial⟩, rfl, ⟨iB, iB, ((List.length_set ..).trans ((List.length_set ..).trans ln3)), hR⟩, by simp⟩
  ·replace h1 : (decide (x1 < a3)) = false := h1;replace h1 := decF h1
   obtain rfl : k5 = 0 := by omega
   rw [w4] at hR;refine zt ?_;obtain rfl := Option.some.inj hR;show ResOk _ _ _ _ ∧ MemL _ _;exact ⟨res0 rfl, ⟨rfl, trivial⟩⟩
theorem ql7 (rec1 : Int → List S1079 → Option (List S1079)) (hrec : ∀ x l r, rec1 x l = some r → r.length = l.length) (a1 : Int) (a3 : S1079 → S1079 → Option Int) (x1 : Int) : ∀ (k : Nat) (x : Int) (l r : List S1079), qas rec1 a1 a3 x1 k x l = some r → r.length = l.length
 | 0, _, _, _, h => by rw [qas] at h; cases h
 | k + 1, x, l, r, h => by
  rw [qas] at h;obtain ⟨y1, _, h⟩ := qi h;obtain ⟨y2, _, h⟩ := qi h;obtain ⟨y3, _, h⟩ := qi h
  cases hc : (decide (a1 < x) && decide (y3 < 0)) with
  | true =>
   have h := zk h hc;obtain ⟨y4, _, h⟩ := qi h;obtain ⟨y5, _, h⟩ := qi h;obtain ⟨y6, _, h⟩ := qi h;obtain ⟨y7, _, h⟩ := qi h;have := ql7 rec1 hrec a1 a3 x1 k _ _ _ h
   simpa using this
  | false => exact hrec _ _ _ (zl h hc)
theorem ql8 (a1 : Int) (a3 : S1079 → S1079 → Option Int) : ∀ (k : Nat) (x : Int) (l r : List S1079), xe a1 a3 k x l = some r → r.length = l.length
 | 0, _, _, _, h => by rw [xe] at h; cases h; rfl
 | k + 1, x, l, r, h => by
  rw [xe] at h;exact ql7 _ (fun x l r h => ql8 a1 a3 k x l r h) a1 a3 x _ _ _ _ h
theorem qn8 {a0 : List S1079} {a1 a2 : Int} {a3 : S1079 → S1079 → Option Int} {R : List S1079} (h : qpo a0 a1 a2 a3 = some R) : R.length = a0.length := ql8 _ _ _ _ _ _ h
theorem ql9 (a1 a2 : Int) : ∀ (k : Nat) (x : Int) (l r : List S1079), w4 a1 a2 k x l = some r → r.length = l.length
 | 0, _, _, _, h => by rw [w4] at h; cases h; rfl
 | k + 1, x, l, r, h => by
  rw [w4] at h;obtain ⟨y1, _, h⟩ := qi h;obtain ⟨y2, _, h⟩ := qi h;obtain ⟨y3, _, h⟩ := qi h;obtain ⟨y4, _, h⟩ := qi h;have := ql9 a1 a2 k _ _ _ h
  simpa using this
theorem qk5 {a0 : List S1079} {a1 a2 a3 : Int} {a4 : S1079 → S1079 → Option Int} {R : List S1079} (h : qpm a0 a1 a2 a3 a4 = some R) : R.length = a0.length := ql9 _ _ _ _ _ _ h
section
variable {E : Env} {o : Oper} {ev : Operand → TV}
theorem q0i {n : Int} (h : 0 ≤ n) (h' : n ≤ 9223372036854775807) : IntKind.u64.wrap n = n := by
 have e : IntKind.u64.wrap n = n % 18446744073709551616 := by
  simp [IntKind.wrap, IntKind.bits, IntKind.signed]
 rw [e]; omega
theorem qef {s t : TypeId} {x : Operand} {n : Int} {ds : TypeDesc} (ho : o.op = .convert s t x) (hs : E.P.underlying s = some ds) (ht : E.P.underlying t = some (.int .u64)) (hx : ev x = .g (.int n)) (h : 0 ≤ n) (h' : n ≤ 9223372036854775807) (mem : Mem) : Eff E o mem ev (.g (.lit (.int .u64 n))) := by
 have := qre (E := E) ho hs ht hx mem
 rwa [q0i h h'] at this
theorem qeg {s t : TypeId} {x : Operand} {n : Int} {ds : TypeDesc} (ho : o.op = .convert s t x) (hs : E.P.underlying s = some ds) (ht : E.P.underlying t = some (.int .i64)) (hx : ev x = .g (.lit (.int .u64 n))) (h : I64 n) (mem : Mem) : Eff E o mem ev (.g (.int n)) := by
 have := qre (E := E) ho hs ht hx mem
 rwa [wrap_i64 h] at this
theorem qgr {t t' : TypeId} {x y : Operand} {k : IntKind} {a : Int} (ho : o.op = .binOp .shr t x y t') (hx : ev x = .g (.lit (.int .u64 a))) (hy : ev y = .g (.lit (.int k 1))) (h0 : 0 ≤ a) (mem : Mem) : Eff E o mem ev (.g (.lit (.int .u64 (a / 2)))) :=
 qmo ho hx hy (fun w => ⟨.int .u64 (a / 2), by
  have h1 : Int.fdiv a (2 ^ min (1 : Int).toNat IntKind.u64.bits) = a / 2 := Int.fdiv_eq_ediv_of_nonneg a (by decide);simp only [eqGuard, binOp, Op.shift, h1]
  rfl, fun _ => rfl⟩) mem
end
end Go.Sim
set_option maxRecDepth 10000
namespace Go.Sim
open Go.Proofs
def qar (a2 : Int) (a4 : S1079 → S1079 → Option Int) : Nat → Int → Int → (List S1079) → Option (List S1079)
 | 0, _, _, _ => none
 | k5 + 1, x1, x2, x3 => (bif decide (x1 ≠ x2) then (bif decide (x2 < x1) then zf (qpm x3 (a2 - x1) a2 x2 a4) fun r6 => qar a2 a4 k5 (x1 - x2) x2 r6 else zf (qpm x3 (a2 - x1) ((a2 + x2) - x1) x1 a4) fun r7 => qar a2 a4 k5 x1 (x2 - x1) r7) else zf (qpm x3 (a2 - x1) a2 x1 a4) fun r8 => some r8)
def qpn (a0 : List S1079) (a1 : Int) (a2 : Int) (a3 : Int) (a4 : S1079 → S1079 → Option Int) : Option (List S1079) :=
 qar a2 a4 ((((a2 - a1) + (a3 - a2)).toNat) + 1) (a2 - a1) (a3 - a2) a0
theorem zbs {g : GL} (a0 : List S1079) (a1 : Int) (a2 : Int) (a3 : Int) (a4 : S1079 → S1079 → Option Int) {R : List S1079} {N0 : Nat} (hN0 : List.length a0 = N0) {ca4 : G} {ia4 : FuncId} {ka4 : List G} (ha4 : FnIs ca4 ia4 ka4) (Ka4 : ze Tryz.prog ia4) (Ha4 : ∀ (x0 : S1079) (x1 : S1079) (r : Int), a4 x0 x1 = some r → Con (EG g) ia4 ([G.agg (S1079.c x0), G.agg (S1079.c x1)] ++ ka4) (G.int r)) (hA : 0 ≤ a1) (hM : a1 < a2) (hN : a2 < a3) (hB : a3 ≤ 30000) (hR : qpn a0 a1 a2 a3 a4 = some R) : ConB (EG g) 197 [.osl 0 7 0 N0, .g (G.int a1), .g (G.int a2), .g (G.int a3), .g (ca4)] [(0, .arr 53 7 (List.map S1079.c a0))] (G.tup []) [(0, .arr 53 7 (List.map S1079.c R))] := by
 unfold qpn at hR;refine qaz Tryz.func197 rfl rfl rfl fun w0 M0 x => ?_;refine qfp (f := S1079.c) (l := a0) 0 rfl fun hla0 => ?_;refine qb ?_;refine qa [.p, .p, .p, .p] ?_;refine sm rfl rfl ?_;refine sm rfl rfl ?_;refine su (vc rfl rfl rfl iF) rfl ?_;refine sa rfl rfl ?_;refine qc ?_;refine qb ?_;refine qa [.p, .p, .p, .p] ?_;refine sm rfl rfl ?_;refine sm rfl rfl ?_;refine su (vc rfl rfl rfl iF) rfl ?_;refine sa rfl rfl ?_;refine qc ?_;refine qb ?_;refine qq ?_;refine zh (γ := Nat × Int × Int × (List S1079)) (fun g => ([(0, .osl 0 7 0 (N0)), (2, .g (G.int a2)), (4, .g (ca4)), (10, .g (G.int g.2.1)), (11, .g (G.int g.2.2.1))], [(0, .arr 53 7 (List.map S1079.c g.2.2.2))])) (fun g => (g.2.1 + g.2.2.1).toNat < g.1 ∧ 0 < g.2.1 ∧ 0 < g.2.2.1 ∧ g.2.1 ≤ a2 ∧ g.2.2.1 ≤ 30000 ∧ List.length g.2.2.2 = N0 ∧ qar a2 a4 g.1 g.2.1 g.2.2.1 g.2.2.2 = some R) (fun g => g.1) ⟨rfl, ((((a2 - a1) + (a3 - a2)).toNat) + 1, a2 - a1, a3 - a2, a0), jA, ⟨rfl, trivial⟩, rfl, ⟨Nat.lt_succ_self _, iD, iD, iD, iD, hN0, (by exact hR)⟩, trivial⟩ ?_
 ·rintro ⟨k5, x1, x2, x3⟩ ⟨hk1, iv1_0, iv1_1, iv1_2, iv1_3, ln4, hR⟩;replace hk1 : (x1 + x2).toNat < k5 := hk1;replace hR : qar a2 a4 k5 x1 x2 x3 = some R := hR;replace iv1_0 : 0 < x1 := iv1_0;replace iv1_1 : 0 < x2 := iv1_1;replace iv1_2 : x1 ≤ a2 := iv1_2;replace iv1_3 : x2 ≤ 30000 := iv1_3;replace ln4 : List.length x3 = N0 := ln4;obtain ⟨k5, rfl⟩ : ∃ m, k5 = m + 1 := ⟨k5 - 1, by omega⟩;rw [qar] at hR;(try dsimp only at hR);refine qb ?_;refine qb ?_;refine qa [.p, .p, .p] ?_;refine sm rfl rfl ?_;refine sm rfl rfl ?_;refine su (zy rfl rfl rfl) rfl ?_;refine qc ?_;refine ql _ rfl (fun h1 => ?_) (fun h1 => ?_)
  ·replace h1 : (decide (x1 ≠ x2)) = true := h1;replace hR := zk hR h1;(try simp only [bB] at h1);refine qn ?_;refine qq ?_;refine qb ?_;refine qa [.p, .p, .p] ?_;refine sm rfl rfl ?_;refine sm rfl rfl ?_;refine su (ja rfl rfl rfl) rfl ?_;refine qc ?_;refine ql _ rfl (fun h2 => ?_) (fun h2 => ?_)
   ·replace h2 : (decide (x2 < x1)) = true := h2;replace hR := zk hR h2;(try simp only [bB] at h2);refine qb ?_;obtain ⟨r6, br6, hR⟩ := qi hR;refine qa [.p, .p, .p, .p, .p, .p, .p, .w] ?_;refine su (zd rfl rfl) rfl ?_;refine sm rfl rfl ?_;refine sm rfl rfl ?_;refine su (vc rfl rfl rfl iF) rfl ?_;refine sm rfl rfl ?_;refine sm rfl rfl ?_;refine sm rfl rfl ?_;refine sw (vn 0 0 rfl q4e rfl (ConB.lend (q4d x3 (a2 - x1) a2 x2 a4 ln4 ha4 Ka4 Ha4 (by first | assumption | omega | (simp [qh]; done) | (simp [qh]; omega)) (by first | assumption | omega | (simp [qh]; done) | (simp [qh]; omega)) (by first | assumption | omega | (simp [qh]; done) | (simp [qh]; omega)) (by first | assumption | omega | (simp [qh]; done) | (simp [qh]; omega)) (by first | assumption | omega | (simp [qh]; done) | (simp [qh]; omega)) br6)) (z7 rfl rfl (z7 rfl rfl (z7 rfl rfl (z7 rfl rfl (z7 rfl rfl qcx))))) rfl rfl rfl) rfl ?_;refine qc ?_;refine qa [.p, .p, .p, .p] ?_;refine sm rfl rfl ?_;refine sm rfl rfl ?_;refine su (vc rfl rfl rfl iF) rfl ?_;refine sa rfl rfl ?_;refine qc ?_;exact ⟨rfl, (k5, x1 - x2, x2, r6), jA, ⟨rfl, trivial⟩, rfl, ⟨iB, iB, iB, iB, iB, ((qk5 br6).trans ln4), hR⟩, by simp⟩
   ·replace h2 : (decide (x2 < x1)) = false := h2;replace hR := zl hR h2;(try simp only [bB] at h2);refine qb ?_;obtain ⟨r7, br7, hR⟩ := qi hR;refine qa [.p, .p, .p, .p, .p, .p, .p, .p, .p, .p, .p, .w] ?_;refine su (zd rfl rfl) rfl ?_;refine sm rfl rfl ?_;refine sm rfl rfl ?_;refine su (vc rfl rfl rfl iF) rfl ?_;refine sm rfl rfl ?_;refine sm rfl rfl ?_;refine su (zn rfl rfl rfl iF) rfl ?_;refine sm rfl rfl ?_;refine su (vc rfl rfl rfl iF) rfl ?_;refine sm rfl rfl ?_;refine sm rfl rfl ?_;refine sw (vn 0 0 rfl q4e rfl (ConB.lend (q4d x3 (a2 - x1) ((a2 + x2) - x1) x1 a4 ln4 ha4 Ka4 Ha4 (by first | assumption | omega | (simp [qh]; done) | (simp [qh]; omega)) (by first | assumption | omega | (simp [qh]; done) | (simp [qh]; omega)) (by first | assumption | omega | (simp [qh]; done) | (simp [qh]; omega)) (by first | assumption | omega | (simp [qh]; done) | (simp [qh]; omega)) (by first | assumption | omega | (simp [qh]; done) | (simp [qh]; omega)) br7)) (z7 rfl rfl (z7 rfl rfl (z7 rfl rfl (z7 rfl rfl (z7 rfl rfl qcx))))) rfl rfl rfl) rfl ?_;refine qc ?_;refine qa [.p, .p, .p, .p] ?_;refine sm rfl rfl ?_;refine sm rfl rfl ?_;refine su (vc rfl rfl rfl iF) rfl ?_;refine sa rfl rfl ?_;refine qc ?_;exact ⟨rfl, (k5, x1, x2 - x1, r7), jA, ⟨rfl, trivial⟩, rfl, ⟨iB, iB, iB, iB, iB, ((qk5 br7).trans ln4), hR⟩, by simp⟩
  ·replace h1 : (decide (x1 ≠ x2)) = false := h1;replace hR := zl hR h1;(try simp only [bB] at h1);refine zt ?_;obtain ⟨r8, br8, hR⟩ := qi hR;refine qa [.p, .p, .p, .p, .p, .p, .p, .w] ?_;refine su (zd rfl rfl) rfl ?_;refine sm rfl rfl ?_;refine sm rfl rfl ?_;refine su (vc rfl rfl rfl iF) rfl ?_;refine sm rfl rfl ?_;refine sm rfl rfl ?_;refine sm rfl rfl ?_;refine sw (vn 0 0 rfl q4e rfl (ConB.lend (q4d x3 (a2 - x1) a2 x1 a4 ln4 ha4 Ka4 Ha4 (by first | assumption | omega | (simp [qh]; done) | (simp [qh]; omega)) (by first | assumption | omega | (simp [qh]; done) | (simp [qh]; omega)) (by first | assumption | omega | (simp [qh]; done) | (simp [qh]; omega)) (by first | assumption | omega | (simp [qh]; done) | (simp [qh]; omega)) (by first | assumption | omega | (simp [qh]; done) | (simp [qh]; omega)) br8)) (z7 rfl rfl (z7 rfl rfl (z7 rfl rfl (z7 rfl rfl (z7 rfl rfl qcx))))) rfl rfl rfl) rfl ?_;refine qc ?_;obtain rfl := Option.some.inj hR;show ResOk _ _ _ _ ∧ MemL _ _;exact ⟨res0 rfl, ⟨rfl, trivial⟩⟩
theorem qik (a2 : Int) (a4 : S1079 → S1079 → Option Int) : ∀ (k : Nat) (x1 x2 : Int) (l r : List S1079), qar a2 a4 k x1 x2 l = some r → r.length = l.length
 | 0, _, _, _, _, h => by rw [qar] at h; cases h
 | k + 1, x1, x2, l, r, h => by
  rw [qar] at h
  cases hc : decide (x1 ≠ x2) with
  | true =>
   have h := zk h hc
   cases hd : decide (x2 < x1) with
   | true =>
    obtain ⟨y1, h1, h⟩ := qi (zk h hd);exact (qik a2 a4 k _ _ _ _ h).trans (qk5 h1)
   | false =>
    obtain ⟨y1, h1, h⟩ := qi (zl h hd);exact (qik a2 a4 k _ _ _ _ h).trans (qk5 h1)
  | false =>
   obtain ⟨y1, h1, h⟩ := qi (zl h hc)
   cases h
   exact qk5 h1
theorem qxy {a0 : List S1079} {a1 a2 a3 : Int} {a4 : S1079 → S1079 → Option Int} {R : List S1079} (h : qpn a0 a1 a2 a3 a4 = some R) : R.length = a0.length := qik _ _ _ _ _ _ _ h
end Go.Sim
set_option maxRecDepth 10000
namespace Go.Sim
open Go.Proofs
def w5 (x1 : Int) : Nat → Int → (List S1079) → Option (List S1079)
 | 0, _, _ => none
 | k10 + 1, x7, x8 => (bif decide (x7 < x1 - 1) then zf (ixO x8 (x7 + 1)) fun y11 => zf (ixO x8 x7) fun y12 => zf (ixO x8 x7) fun y13 => zf (ixO (List.set x8 (Int.toNat x7) y11) (x7 + 1)) fun y14 => w5 x1 k10 (x7 + 1) (List.set (List.set x8 (Int.toNat x7) y11) (Int.toNat (x7 + 1)) y12) else some x8)
def wd (a0 : List S1079) (a1 : Int) (a4 : S1079 → S1079 → Option Int) : Nat → Int → Int → Option (List S1079)
 | 0, _, _ => none
 | k3 + 1, x1, x2 => (bif decide (x1 < x2) then zf (ixO a0 ((x1 + x2) / 2)) fun y4 => zf (ixO a0 a1) fun y5 => zf (a4 y4 y5) fun r6 => (bif decide (r6 < 0) then wd a0 a1 a4 k3 (((x1 + x2) / 2) + 1) x2 else wd a0 a1 a4 k3 x1 ((x1 + x2) / 2)) else w5 x1 (((x1 - a1).toNat) + 1) a1 a0)
def w6 (x15 : Int) : Nat → Int → (List S1079) → Option (List S1079)
 | 0, _, _ => none
 | k24 + 1, x21, x22 => (bif decide (x15 < x21) then zf (ixO x22 (x21 - 1)) fun y25 => zf (ixO x22 x21) fun y26 => zf (ixO x22 x21) fun y27 => zf (ixO (List.set x22 (Int.toNat x21) y25) (x21 - 1)) fun y28 => w6 x15 k24 (x21 - 1) (List.set (List.set x22 (Int.toNat x21) y25) (Int.toNat (x21 - 1)) y26) else some x22)
def we (a0 : List S1079) (a2 : Int) (a4 : S1079 → S1079 → Option Int) : Nat → Int → Int → Option (List S1079)
 | 0, _, _ => none
 | k17 + 1, x15, x16 => (bif decide (x15 < x16) then zf (ixO a0 a2) fun y18 => zf (ixO a0 ((x15 + x16) / 2)) fun y19 => zf (a4 y18 y19) fun r20 => (bif !(decide (r20 < 0)) then we a0 a2 a4 k17 (((x15 + x16) / 2) + 1) x16 else we a0 a2 a4 k17 x15 ((x15 + x16) / 2)) else w6 x15 (((a2 - x15).toNat) + 1) a2 a0)
def qbc (self : (List S1079) → Int → Int → Int → (S1079 → S1079 → Option Int) → Option (List S1079)) (a1 : Int) (a2 : Int) (a3 : Int) (a4 : S1079 → S1079 → Option Int) (x31 : Int) (x39 : List S1079) : Option (List S1079) :=
 (bif (decide ((a1 + a3) / 2 < (((a1 + a3) / 2) + a2) - x31)) && (decide ((((a1 + a3) / 2) + a2) - x31 < a3)) then zf (self x39 ((a1 + a3) / 2) ((((a1 + a3) / 2) + a2) - x31) a3 a4) fun r41 => some r41 else some x39)
def xq (self : (List S1079) → Int → Int → Int → (S1079 → S1079 → Option Int) → Option (List S1079)) (a1 : Int) (a2 : Int) (a3 : Int) (a4 : S1079 → S1079 → Option Int) (x31 : Int) (x37 : List S1079) : Option (List S1079) :=
 (bif (decide (a1 < x31)) && (decide (x31 < (a1 + a3) / 2)) then zf (self x37 a1 x31 ((a1 + a3) / 2) a4) fun r42 => qbc self a1 a2 a3 a4 x31 r42 else qbc self a1 a2 a3 a4 x31 x37)
def wg (self : (List S1079) → Int → Int → Int → (S1079 → S1079 → Option Int) → Option (List S1079)) (a0 : List S1079) (a1 : Int) (a2 : Int) (a3 : Int) (a4 : S1079 → S1079 → Option Int) : Nat → Int → Int → Option (List S1079)
 | 0, _, _ => none
 | k33 + 1, x31, x32 => (bif decide (x31 < x32) then zf (ixO a0 (((((a1 + a3) / 2) + a2) - 1) - ((x31 + x32) / 2))) fun y34 => zf (ixO a0 ((x31 + x32) / 2)) fun y35 => zf (a4 y34 y35) fun r36 => (bif !(decide (r36 < 0)) then wg self a0 a1 a2 a3 a4 k33 (((x31 + x32) / 2) + 1) x32 else wg self a0 a1 a2 a3 a4 k33 x31 ((x31 + x32) / 2)) else (bif (decide (x31 < a2)) && (decide (a2 < (((a1 + a3) / 2) + a2) - x31)) then zf (qpn a0 x31 a2 ((((a1 + a3) / 2) + a2) - x31) a4) fun r43 => xq self a1 a2 a3 a4 x31 r43 else xq self a1 a2 a3 a4 x31 a0))
def qdw (self : (List S1079) → Int → Int → Int → (S1079 → S1079 → Option Int) → Option (List S1079)) (a0 : List S1079) (a1 : Int) (a2 : Int) (a3 : Int) (a4 : S1079 → S1079 → Option Int) (x29 : Int) (x30 : Int) : Option (List S1079) :=
 wg self a0 a1 a2 a3 a4 (((x30 - x29).toNat) + 1) x29 x30
def qa4 : Nat → (List S1079) → Int → Int → Int → (S1079 → S1079 → Option Int) → Option (List S1079)
 | 0, _, _, _, _, _ => none
 | kf_ + 1, a0, a1, a2, a3, a4 => (bif decide (a2 - a1 = 1) then wd a0 a1 a4 (((a3 - a2).toNat) + 1) a2 a3 else (bif decide (a3 - a2 = 1) then we a0 a2 a4 (((a2 - a1).toNat) + 1) a1 a2 else (bif decide ((a1 + a3) / 2 < a2) then qdw (fun z0_ z1_ z2_ z3_ z4_ => qa4 kf_ z0_ z1_ z2_ z3_ z4_) a0 a1 a2 a3 a4 ((((a1 + a3) / 2) + a2) - a3) ((a1 + a3) / 2) else qdw (fun z0_ z1_ z2_ z3_ z4_ => qa4 kf_ z0_ z1_ z2_ z3_ z4_) a0 a1 a2 a3 a4 a1 a2)))
theorem qma (x1 : Int) : ∀ (k : Nat) (x : Int) (l r : List S1079), w5 x1 k x l = some r → r.length = l.length
 | 0, _, _, _, h => by rw [w5] at h; cases h
 | k + 1, x, l, r, h => by
  rw [w5] at h
  cases hc : decide (x < x1 - 1) with
  | true =>
   have h := zk h hc;obtain ⟨y1, _, h⟩ := qi h;obtain ⟨y2, _, h⟩ := qi h;obtain ⟨y3, _, h⟩ := qi h;obtain ⟨y4, _, h⟩ := qi h;have := qma x1 k _ _ _ h
   simpa using this
  | false => have h := zl h hc; cases h; rfl
theorem qil (a0 : List S1079) (a1 : Int) (a4 : S1079 → S1079 → Option Int) : ∀ (k : Nat) (x y : Int) (r : List S1079), wd a0 a1 a4 k x y = some r → r.length = a0.length
 | 0, _, _, _, h => by rw [wd] at h; cases h
 | k + 1, x, y, r, h => by
  rw [wd] at h
  cases hc : decide (x < y) with
  | true =>
   have h := zk h hc;obtain ⟨y1, _, h⟩ := qi h;obtain ⟨y2, _, h⟩ := qi h;obtain ⟨y3, _, h⟩ := qi h
   cases hd : (decide (y3 < 0)) with
   | true => exact qil a0 a1 a4 k _ _ _ (zk h hd)
   | false => exact qil a0 a1 a4 k _ _ _ (zl h hd)
  | false => exact qma _ _ _ _ _ (zl h hc)
theorem qmb (x1 : Int) : ∀ (k : Nat) (x : Int) (l r : List S1079), w6 x1 k x l = some r → r.length = l.length
 | 0, _, _, _, h => by rw [w6] at h; cases h
 | k + 1, x, l, r, h => by
  rw [w6] at h
  cases hc : decide (x1 < x) with
  | true =>
   have h := zk h hc;obtain ⟨y1, _, h⟩ := qi h;obtain ⟨y2, _, h⟩ := qi h;obtain ⟨y3, _, h⟩ := qi h;obtain ⟨y4, _, h⟩ := qi h;have := qmb x1 k _ _ _ h
   simpa using this
  | false => have h := zl h hc; cases h; rfl
theorem qim (a0 : List S1079) (a2 : Int) (a4 : S1079 → S1079 → Option Int) : ∀ (k : Nat) (x y : Int) (r : List S1079), we a0 a2 a4 k x y = some r → r.length = a0.length
 | 0, _, _, _, h => by rw [we] at h; cases h
 | k + 1, x, y, r, h => by
  rw [we] at h
  cases hc : decide (x < y) with
  | true =>
   have h := zk h hc;obtain ⟨y1, _, h⟩ := qi h;obtain ⟨y2, _, h⟩ := qi h;obtain ⟨y3, _, h⟩ := qi h
   cases hd : !(decide (y3 < 0)) with
   | true => exact qim a0 a2 a4 k _ _ _ (zk h hd)
   | false => exact qim a0 a2 a4 k _ _ _ (zl h hd)
  | false => exact qmb _ _ _ _ _ (zl h hc)
section
variable {self : (List S1079) → Int → Int → Int → (S1079 → S1079 → Option Int) → Option (List S1079)} (hself : ∀ l a b c f r, self l a b c f = some r → r.length = l.length)
include hself
theorem qmc (a1 a2 a3 : Int) (a4 : S1079 → S1079 → Option Int) (x : Int) (l r : List S1079) (h : qbc self a1 a2 a3 a4 x l = some r) : r.length = l.length := by
 unfold qbc at h;generalize hc : ((decide ((a1 + a3) / 2 < (((a1 + a3) / 2) + a2) - x)) && (decide ((((a1 + a3) / 2) + a2) - x < a3))) = c at h
 cases c with
 | true => obtain ⟨y1, h1, h⟩ := qi (zk h rfl); cases h; exact hself _ _ _ _ _ _ h1
 | false => have h := zl h rfl; cases h; rfl
theorem qmd (a1 a2 a3 : Int) (a4 : S1079 → S1079 → Option Int) (x : Int) (l r : List S1079) (h : xq self a1 a2 a3 a4 x l = some r) : r.length = l.length := by
 unfold xq at h;generalize hc : ((decide (a1 < x)) && (decide (x < (a1 + a3) / 2))) = c at h
 cases c with
 | true => obtain ⟨y1, h1, h⟩ := qi (zk h rfl); exact (qmc hself _ _ _ _ _ _ _ h).trans (hself _ _ _ _ _ _ h1)
 | false => exact qmc hself _ _ _ _ _ _ _ (zl h rfl)
theorem qfd (a0 : List S1079) (a1 a2 a3 : Int) (a4 : S1079 → S1079 → Option Int) : ∀ (k : Nat) (x y : Int) (r : List S1079), wg self a0 a1 a2 a3 a4 k x y = some r → r.length = a0.length
 | 0, _, _, _, h => by rw [wg] at h; cases h
 | k + 1, x, y, r, h => by
  rw [wg] at h
  cases hc : decide (x < y) with
  | true =>
   have h := zk h hc;obtain ⟨y1, _, h⟩ := qi h;obtain ⟨y2, _, h⟩ := qi h;obtain ⟨y3, _, h⟩ := qi h
   cases hd : !(decide (y3 < 0)) with
   | true => exact qfd a0 a1 a2 a3 a4 k _ _ _ (zk h hd)
   | false => exact qfd a0 a1 a2 a3 a4 k _ _ _ (zl h hd)
  | false =>
   have h := zl h hc;generalize hd : ((decide (x < a2)) && (decide (a2 < (((a1 + a3) / 2) + a2) - x))) = d at h
   cases d with
   | true => obtain ⟨y1, h1, h⟩ := qi (zk h rfl); exact (qmd hself _ _ _ _ _ _ _ h).trans (qxy h1)
   | false => exact qmd hself _ _ _ _ _ _ _ (zl h rfl)
end
theorem qk6 : ∀ (k : Nat) (a0 : List S1079) (a1 a2 a3 : Int) (a4 : S1079 → S1079 → Option Int) (R : List S1079), qa4 k a0 a1 a2 a3 a4 = some R → R.length = a0.length
 | 0, _, _, _, _, _, _, h => by rw [qa4] at h; cases h
 | k + 1, a0, a1, a2, a3, a4, R, h => by
  rw [qa4] at h
  cases hc : decide (a2 - a1 = 1) with
  | true => exact qil _ _ _ _ _ _ _ (zk h hc)
  | false =>
   have h := zl h hc
   cases hd : decide (a3 - a2 = 1) with
   | true => exact qim _ _ _ _ _ _ _ (zk h hd)
   | false =>
    have h := zl h hd
    cases he : decide ((a1 + a3) / 2 < a2) with
    | true => exact qfd (fun l a b c f r h => qk6 k l a b c f r h) _ _ _ _ _ _ _ _ _ (zk h he)
    | false => exact qfd (fun l a b c f r h => qk6 k l a b c f r h) _ _ _ _ _ _ _ _ _ (zl h he)
theorem qk7 {k : Nat} {a0 : List S1079} {a1 a2 a3 : Int} {a4 : S1079 → S1079 → Option Int} {R : List S1079} (h : qa4 k a0 a1 a2 a3 a4 = some R) : R.length = a0.length := qk6 _ _ _ _ _ _ _ h
theorem q7m {g : GL} (kf_ : Nat) : ∀ (a0 : List S1079) (a1 : Int) (a2 : Int) (a3 : Int) (a4 : S1079 → S1079 → Option Int) {R : List S1079} {N0 : Nat} (hN0 : List.length a0 = N0) {ca4 : G} {ia4 : FuncId} {ka4 : List G} (ha4 : FnIs ca4 ia4 ka4) (Ka4 : ze Tryz.prog ia4) (Ha4 : ∀ (x0 : S1079) (x1 : S1079) (r : Int), a4 x0 x1 = some r → Con (EG g) ia4 ([G.agg (S1079.c x0), G.agg (S1079.c x1)] ++ ka4) (G.int r)) (hA : 0 ≤ a1) (hM : a1 < a2) (hN : a2 < a3) (hB : a3 ≤ 30000) (hR : qa4 kf_ a0 a1 a2 a3 a4 = some R), ConB (EG g) 196 [.osl 0 7 0 N0, .g (G.int a1), .g (G.int a2), .g (G.int a3), .g (ca4)] [(0, .arr 53 7 (List.map S1079.c a0))] (G.tup []) [(0, .arr 53 7 (List.map S1079.c R))] := by
 induction kf_ with
 | zero => intro a0 a1 a2 a3 a4 R N0 hN0 ca4 ia4 ka4 ha4 Ka4 Ha4 hA hM hN hB hR; rw [qa4] at hR; cases hR
 | succ kf_ ih =>
 intro a0 a1 a2 a3 a4 R N0 hN0 ca4 ia4 ka4 ha4 Ka4 Ha4 hA hM hN hB hR;rw [qa4] at hR;(try dsimp only at hR);refine qaz Tryz.func196 rfl rfl rfl fun w0 M0 x => ?_;refine qfp (f := S1079.c) (l := a0) 0 rfl fun hla0 => ?_;refine qb ?_;refine qb ?_;refine qa [.p, .p, .p, .p] ?_;refine sm rfl rfl ?_;refine sm rfl rfl ?_;refine su (vc rfl rfl rfl iF) rfl ?_;refine su (jr rfl rfl rfl) rfl ?_;refine qc ?_;refine ql _ rfl (fun h1 => ?_) (fun h1 => ?_)
 ·replace h1 : (decide (a2 - a1 = 1)) = true := h1;replace hR := zk hR h1;(try simp only [bB] at h1);refine qb ?_;refine qa [.p, .p] ?_;refine sm rfl rfl ?_;refine sa rfl rfl ?_;refine qc ?_;refine qb ?_;refine qa [.p, .p] ?_;refine sm rfl rfl ?_;refine sa rfl rfl ?_;refine qc ?_;refine qb ?_;refine qq ?_;refine zh (γ := Nat × Int × Int) (fun g => ([(0, .osl 0 7 0 (N0)), (1, .g (G.int a1)), (4, .g (ca4)), (10, .g (G.int g.2.1)), (11, .g (G.int g.2.2))], [(0, .arr 53 7 (List.map S1079.c a0))])) (fun g => (g.2.2 - g.2.1).toNat < g.1 ∧ 0 ≤ g.2.1 ∧ g.2.1 ≤ g.2.2 ∧ g.2.2 ≤ 30000 ∧ wd a0 a1 a4 g.1 g.2.1 g.2.2 = some R) (fun g => g.1) ⟨rfl, (((a3 - a2).toNat) + 1, a2, a3), jA, ⟨rfl, trivial⟩, rfl, ⟨Nat.lt_succ_self _, iD, iD, iD, (by exact hR)⟩, trivial⟩ ?_
  ·rintro ⟨k3, x1, x2⟩ ⟨hk1, iv1_0, iv1_1, iv1_2, hR⟩;replace hk1 : (x2 - x1).toNat < k3 := hk1;replace hR : wd a0 a1 a4 k3 x1 x2 = some R := hR;replace iv1_0 : 0 ≤ x1 := iv1_0;replace iv1_1 : x1 ≤ x2 := iv1_1;replace iv1_2 : x2 ≤ 30000 := iv1_2;obtain ⟨k3, rfl⟩ : ∃ m, k3 = m + 1 := ⟨k3 - 1, by omega⟩;rw [wd] at hR;(try dsimp only at hR);refine qb ?_;refine qb ?_;refine qa [.p, .p, .p] ?_;refine sm rfl rfl ?_;refine sm rfl rfl ?_;refine su (zg rfl rfl rfl) rfl ?_;refine qc ?_;refine ql _ rfl (fun h2 => ?_) (fun h2 => ?_)
   ·replace h2 : (decide (x1 < x2)) = true := h2;replace hR := zk hR h2;(try simp only [bB] at h2);refine qn ?_;refine qq ?_;refine qb ?_;refine qa [.p, .p, .p, .p, .p, .p, .p] ?_;refine sm rfl rfl ?_;refine sm rfl rfl ?_;refine su (zn rfl rfl rfl iF) rfl ?_;refine su (qef rfl Tryz.underlying3 Tryz.underlying233 rfl (by (try dsimp only); omega) (by (try dsimp only); omega)) rfl ?_;refine su (qgr rfl rfl rfl (by (try dsimp only); omega)) rfl ?_;refine su (qeg rfl Tryz.underlying233 Tryz.underlying3 rfl iF) rfl ?_;refine sa rfl rfl ?_;refine qc ?_;refine qb ?_;obtain ⟨y4, by4, hR⟩ := qi hR;obtain ⟨y5, by5, hR⟩ := qi hR;obtain ⟨r6, br6, hR⟩ := qi hR;refine zw [.p, .p, .p, .p, .r, .p, .p, .p, .r, .p, .p] (by kernel_rfl) ?_;refine sm rfl rfl ?_;refine su (zd rfl rfl) rfl ?_;refine sm rfl rfl ?_;refine su (ku rfl Tryz.underlying48 jf rfl rfl (jm by4) (Nat.lt_of_lt_of_eq (j7 (zj by4)) hN0)) rfl ?_;refine sr (xd (f := S1079.c) (l := a0) (a := y4) rfl jf rfl rfl (zj by4)) rfl ?_;refine su (zd rfl rfl) rfl ?_;refine sm rfl rfl ?_;refine su (ku rfl Tryz.underlying48 jf rfl rfl (jm by5) (Nat.lt_of_lt_of_eq (j7 (zj by5)) hN0)) rfl ?_;refine sr (xd (f := S1079.c) (l := a0) (a := y5) rfl jf rfl rfl (zj by5)) rfl ?_;refine su (xm rfl ha4 Ka4 rfl (Con.lend (Ha4 y4 y5 _ br6)) (qe rfl (qe rfl qj))) rfl ?_;refine su (zg rfl rfl rfl) rfl ?_;refine qc ?_;refine ql _ rfl (fun h3 => ?_) (fun h3 => ?_)
    ·replace h3 : (decide (r6 < 0)) = true := h3;replace hR := zk hR h3;(try simp only [bB] at h3);refine qa [.p, .p, .p] ?_;refine sm rfl rfl ?_;refine su (zn rfl rfl rfl iF) rfl ?_;refine sa rfl rfl ?_;refine qc ?_;exact ⟨rfl, (k3, ((x1 + x2) / 2) + 1, x2), jA, ⟨rfl, trivial⟩, rfl, ⟨iB, iB, iB, iB, hR⟩, by simp⟩
    ·replace h3 : (decide (r6 < 0)) = false := h3;replace hR := zl hR h3;(try simp only [bB] at h3);refine qa [.p, .p] ?_;refine sm rfl rfl ?_;refine sa rfl rfl ?_;refine qc ?_;exact ⟨rfl, (k3, x1, (x1 + x2) / 2), jA, ⟨rfl, trivial⟩, rfl, ⟨iB, iB, iB, iB, hR⟩, by simp⟩
   ·replace h2 : (decide (x1 < x2)) = false := h2;replace hR := zl hR h2;(try simp only [bB] at h2);refine zt ?_;refine qb ?_;refine qb ?_;refine qa [.p, .p] ?_;refine sm rfl rfl ?_;refine sa rfl rfl ?_;refine qc ?_;refine qq ?_;refine zh (γ := Nat × Int × (List S1079)) (fun g => ([(0, .osl 0 7 0 (N0)), (10, .g (G.int x1)), (13, .g (G.int g.2.1))], [(0, .arr 53 7 (List.map S1079.c g.2.2))])) (fun g => (x1 - g.2.1).toNat < g.1 ∧ 0 ≤ g.2.1 ∧ g.2.1 ≤ 60000 ∧ List.length g.2.2 = N0 ∧ w5 x1 g.1 g.2.1 g.2.2 = some R) (fun g => g.1) ⟨rfl, (((x1 - a1).toNat) + 1, a1, a0), ⟨rfl, rfl, rfl, trivial⟩, ⟨rfl, trivial⟩, rfl, ⟨Nat.lt_succ_self _, iD, iD, hN0, (by exact hR)⟩, trivial⟩ ?_
    ·rintro ⟨k10, x7, x8⟩ ⟨hk2, iv2_0, iv2_1, ln9, hR⟩;replace hk2 : (x1 - x7).toNat < k10 := hk2;replace hR : w5 x1 k10 x7 x8 = some R := hR;replace iv2_0 : 0 ≤ x7 := iv2_0;replace iv2_1 : x7 ≤ 60000 := iv2_1;replace ln9 : List.length x8 = N0 := ln9;obtain ⟨k10, rfl⟩ : ∃ m, k10 = m + 1 := ⟨k10 - 1, by omega⟩;rw [w5] at hR;(try dsimp only at hR);refine qb ?_;refine qb ?_;refine qa [.p, .p, .p, .p] ?_;refine sm rfl rfl ?_;refine sm rfl rfl ?_;refine su (vc rfl rfl rfl iF) rfl ?_;refine su (zg rfl rfl rfl) rfl ?_;refine qc ?_;refine ql _ rfl (fun h4 => ?_) (fun h4 => ?_)
     ·replace h4 : (decide (x7 < x1 - 1)) = true := h4;replace hR := zk hR h4;(try simp only [bB] at h4);refine qn ?_;refine qb ?_;refine qq ?_;obtain ⟨y11, by11, hR⟩ := qi hR;obtain ⟨y12, by12, hR⟩ := qi hR;obtain ⟨y13, by13, hR⟩ := qi hR;obtain ⟨y14, by14, hR⟩ := qi hR;refine zw [.p, .p, .p, .p, .p, .p, .p, .p, .p, .r, .p, .p, .p, .r, .p, .w, .p, .w] (by kernel_rfl) ?_;refine su (zd rfl rfl) rfl ?_;refine sm rfl rfl ?_;refine su (zd rfl rfl) rfl ?_;refine sm rfl rfl ?_;refine su (zn rfl rfl rfl iF) rfl ?_;refine su (zd rfl rfl) rfl ?_;refine sm rfl rfl ?_;refine su (zn rfl rfl rfl iF) rfl ?_;refine su (ku rfl Tryz.underlying48 jf rfl rfl (jm by11) (Nat.lt_of_lt_of_eq (j7 (zj by11)) ln9)) rfl ?_;refine sr (xd (f := S1079.c) (l := x8) (a := y11) rfl jf rfl rfl (zj by11)) rfl ?_;refine su (zd rfl rfl) rfl ?_;refine sm rfl rfl ?_;refine su (ku rfl Tryz.underlying48 jf rfl rfl (jm by12) (Nat.lt_of_lt_of_eq (j7 (zj by12)) ln9)) rfl ?_;refine sr (xd (f := S1079.c) (l := x8) (a := y12) rfl jf rfl rfl (zj by12)) rfl ?_;refine su (ku rfl Tryz.underlying48 jf rfl rfl (jm by13) (Nat.lt_of_lt_of_eq (j7 (zj by13)) ln9)) rfl ?_;refine jb rfl rfl (qao (f := S1079.c) (l := x8) (a' := y11) rfl jf rfl rfl rfl (Nat.lt_of_lt_of_eq (Nat.lt_of_lt_of_eq (j7 (zj by13)) ln9) (Eq.symm ln9)) rfl (fun _ => rfl)) ?_;refine su (ku rfl Tryz.underlying48 jf rfl rfl (jm by14) (Nat.lt_of_lt_of_eq (j7 (zj by14)) ((List.length_set ..).trans ln9))) rfl ?_;refine jb rfl rfl (qao (f := S1079.c) (l := List.set x8 (Int.toNat x7) y11) (a' := y12) rfl jf rfl rfl rfl (Nat.lt_of_lt_of_eq (Nat.lt_of_lt_of_eq (j7 (zj by14)) ((List.length_set ..).trans ln9)) (Eq.symm ((List.length_set ..).trans ln9))) rfl (fun _ => rfl)) ?_;refine qc ?_;refine qa [.p, .p, .p] ?_;refine sm rfl rfl ?_;refine su (zn rfl rfl rfl iF) rfl ?_;refine sa rfl rfl ?_;refine qc ?_;exact ⟨rfl, (k10, x7 + 1, List.set (List.set x8 (Int.toNat x7) y11) (Int.toNat (x7 + 1)) y12), ⟨(by simp only [List.length_set]; rfl), rfl, rfl, trivial⟩, ⟨rfl, trivial⟩, rfl, ⟨iB, iB, iB, ((List.length_set ..).trans ((List.length_set ..).trans ln9)), hR⟩, by simp⟩
     ·replace hR := zl hR h4;refine zt ?_;refine qo ?_;obtain rfl := Option.some.inj hR;show ResOk _ _ _ _ ∧ MemL _ _;exact ⟨res0 rfl, ⟨rfl, trivial⟩⟩
 ·replace h1 : (decide (a2 - a1 = 1)) = false := h1;replace hR := zl hR h1;(try simp only [bB] at h1);refine qn ?_;refine qb ?_;refine qb ?_;refine qa [.p, .p, .p, .p] ?_;refine sm rfl rfl ?_;refine sm rfl rfl ?_;refine su (vc rfl rfl rfl iF) rfl ?_;refine su (jr rfl rfl rfl) rfl ?_;refine qc ?_;refine ql _ rfl (fun h5 => ?_) (fun h5 => ?_)
  ·replace h5 : (decide (a3 - a2 = 1)) = true := h5;replace hR := zk hR h5;(try simp only [bB] at h5);refine qb ?_;refine qa [.p, .p] ?_;refine sm rfl rfl ?_;refine sa rfl rfl ?_;refine qc ?_;refine qb ?_;refine qa [.p, .p] ?_;refine sm rfl rfl ?_;refine sa rfl rfl ?_;refine qc ?_;refine qb ?_;refine qq ?_;refine zh (γ := Nat × Int × Int) (fun g => ([(0, .osl 0 7 0 (N0)), (2, .g (G.int a2)), (4, .g (ca4)), (14, .g (G.int g.2.1)), (15, .g (G.int g.2.2))], [(0, .arr 53 7 (List.map S1079.c a0))])) (fun g => (g.2.2 - g.2.1).toNat < g.1 ∧ 0 ≤ g.2.1 ∧ g.2.1 ≤ g.2.2 ∧ g.2.2 ≤ 30000 ∧ we a0 a2 a4 g.1 g.2.1 g.2.2 = some R) (fun g => g.1) ⟨rfl, (((a2 - a1).toNat) + 1, a1, a2), jA, ⟨rfl, trivial⟩, rfl, ⟨Nat.lt_succ_self _, iD, iD, iD, (by exact hR)⟩, trivial⟩ ?_
   ·rintro ⟨k17, x15, x16⟩ ⟨hk3, iv3_0, iv3_1, iv3_2, hR⟩;replace hk3 : (x16 - x15).toNat < k17 := hk3;replace hR : we a0 a2 a4 k17 x15 x16 = some R := hR;replace iv3_0 : 0 ≤ x15 := iv3_0;replace iv3_1 : x15 ≤ x16 := iv3_1;replace iv3_2 : x16 ≤ 30000 := iv3_2;obtain ⟨k17, rfl⟩ : ∃ m, k17 = m + 1 := ⟨k17 - 1, by omega⟩;rw [we] at hR;(try dsimp only at hR);refine qb ?_;refine qb ?_;refine qa [.p, .p, .p] ?_;refine sm rfl rfl ?_;refine sm rfl rfl ?_;refine su (zg rfl rfl rfl) rfl ?_;refine qc ?_;refine ql _ rfl (fun h6 => ?_) (fun h6 => ?_)
    ·replace h6 : (decide (x15 < x16)) = true := h6;replace hR := zk hR h6;(try simp only [bB] at h6);refine qn ?_;refine qq ?_;refine qb ?_;refine qa [.p, .p, .p, .p, .p, .p, .p] ?_;refine sm rfl rfl ?_;refine sm rfl rfl ?_;refine su (zn rfl rfl rfl iF) rfl ?_;refine su (qef rfl Tryz.underlying3 Tryz.underlying233 rfl (by (try dsimp only); omega) (by (try dsimp only); omega)) rfl ?_;refine su (qgr rfl rfl rfl (by (try dsimp only); omega)) rfl ?_;refine su (qeg rfl Tryz.underlying233 Tryz.underlying3 rfl iF) rfl ?_;refine sa rfl rfl ?_;refine qc ?_;refine qb ?_;obtain ⟨y18, by18, hR⟩ := qi hR;obtain ⟨y19, by19, hR⟩ := qi hR;obtain ⟨r20, br20, hR⟩ := qi hR;refine zw [.p, .p, .p, .p, .r, .p, .p, .p, .r, .p, .p, .p] (by kernel_rfl) ?_;refine sm rfl rfl ?_;refine su (zd rfl rfl) rfl ?_;refine sm rfl rfl ?_;refine su (ku rfl Tryz.underlying48 jf rfl rfl (jm by18) (Nat.lt_of_lt_of_eq (j7 (zj by18)) hN0)) rfl ?_;refine sr (xd (f := S1079.c) (l := a0) (a := y18) rfl jf rfl rfl (zj by18)) rfl ?_;refine su (zd rfl rfl) rfl ?_;refine sm rfl rfl ?_;refine su (ku rfl Tryz.underlying48 jf rfl rfl (jm by19) (Nat.lt_of_lt_of_eq (j7 (zj by19)) hN0)) rfl ?_;refine sr (xd (f := S1079.c) (l := a0) (a := y19) rfl jf rfl rfl (zj by19)) rfl ?_;refine su (xm rfl ha4 Ka4 rfl (Con.lend (Ha4 y18 y19 _ br20)) (qe rfl (qe rfl qj))) rfl ?_;refine su (zg rfl rfl rfl) rfl ?_;refine su (jk rfl rfl) rfl ?_;refine qc ?_;refine ql _ rfl (fun h7 => ?_) (fun h7 => ?_)
     ·replace h7 : (!(decide (r20 < 0))) = true := h7;replace hR := zk hR h7;(try simp only [bB] at h7);refine qa [.p, .p, .p] ?_;refine sm rfl rfl ?_;refine su (zn rfl rfl rfl iF) rfl ?_;refine sa rfl rfl ?_;refine qc ?_;exact ⟨rfl, (k17, ((x15 + x16) / 2) + 1, x16), jA, ⟨rfl, trivial⟩, rfl, ⟨iB, iB, iB, iB, hR⟩, by simp⟩
     ·replace h7 : (!(decide (r20 < 0))) = false := h7;replace hR := zl hR h7;(try simp only [bB] at h7);refine qa [.p, .p] ?_;refine sm rfl rfl ?_;refine sa rfl rfl ?_;refine qc ?_;exact ⟨rfl, (k17, x15, (x15 + x16) / 2), jA, ⟨rfl, trivial⟩, rfl, ⟨iB, iB, iB, iB, hR⟩, by simp⟩
    ·replace h6 : (decide (x15 < x16)) = false := h6;replace hR := zl hR h6;(try simp only [bB] at h6);refine zt ?_;refine qb ?_;refine qb ?_;refine qa [.p, .p] ?_;refine sm rfl rfl ?_;refine sa rfl rfl ?_;refine qc ?_;refine qq ?_;refine zh (γ := Nat × Int × (List S1079)) (fun g => ([(0, .osl 0 7 0 (N0)), (14, .g (G.int x15)), (17, .g (G.int g.2.1))], [(0, .arr 53 7 (List.map S1079.c g.2.2))])) (fun g => (g.2.1 - x15).toNat < g.1 ∧ 0 ≤ g.2.1 ∧ g.2.1 ≤ 60000 ∧ List.length g.2.2 = N0 ∧ w6 x15 g.1 g.2.1 g.2.2 = some R) (fun g => g.1) ⟨rfl, (((a2 - x15).toNat) + 1, a2, a0), ⟨rfl, rfl, rfl, trivial⟩, ⟨rfl, trivial⟩, rfl, ⟨Nat.lt_succ_self _, iD, iD, hN0, (by exact hR)⟩, trivial⟩ ?_
     ·rintro ⟨k24, x21, x22⟩ ⟨hk4, iv4_0, iv4_1, ln23, hR⟩;replace hk4 : (x21 - x15).toNat < k24 := hk4;replace hR : w6 x15 k24 x21 x22 = some R := hR;replace iv4_0 : 0 ≤ x21 := iv4_0;replace iv4_1 : x21 ≤ 60000 := iv4_1;replace ln23 : List.length x22 = N0 := ln23;obtain ⟨k24, rfl⟩ : ∃ m, k24 = m + 1 := ⟨k24 - 1, by omega⟩;rw [w6] at hR;(try dsimp only at hR);refine qb ?_;refine qb ?_;refine qa [.p, .p, .p] ?_;refine sm rfl rfl ?_;refine sm rfl rfl ?_;refine su (ja rfl rfl rfl) rfl ?_;refine qc ?_;refine ql _ rfl (fun h8 => ?_) (fun h8 => ?_)
      ·replace h8 : (decide (x15 < x21)) = true := h8;replace hR := zk hR h8;(try simp only [bB] at h8);refine qn ?_;refine qb ?_;refine qq ?_;obtain ⟨y25, by25, hR⟩ := qi hR;obtain ⟨y26, by26, hR⟩ := qi hR;obtain ⟨y27, by27, hR⟩ := qi hR;obtain ⟨y28, by28, hR⟩ := qi hR;refine zw [.p, .p, .p, .p, .p, .p, .p, .p, .p, .r, .p, .p, .p, .r, .p, .w, .p, .w] (by kernel_rfl) ?_;refine su (zd rfl rfl) rfl ?_;refine sm rfl rfl ?_;refine su (zd rfl rfl) rfl ?_;refine sm rfl rfl ?_;refine su (vc rfl rfl rfl iF) rfl ?_;refine su (zd rfl rfl) rfl ?_;refine sm rfl rfl ?_;refine su (vc rfl rfl rfl iF) rfl ?_;refine su (ku rfl Tryz.underlying48 jf rfl rfl (jm by25) (Nat.lt_of_lt_of_eq (j7 (zj by25)) ln23)) rfl ?_;refine sr (xd (f := S1079.c) (l := x22) (a := y25) rfl jf rfl rfl (zj by25)) rfl ?_;refine su (zd rfl rfl) rfl ?_;refine sm rfl rfl ?_;refine su (ku rfl Tryz.underlying48 jf rfl rfl (jm by26) (Nat.lt_of_lt_of_eq (j7 (zj by26)) ln23)) rfl ?_;refine sr (xd (f := S1079.c) (l := x22) (a := y26) rfl jf rfl rfl (zj by26)) rfl ?_;refine su (ku rfl Tryz.underlying48 jf rfl rfl (jm by27) (Nat.lt_of_lt_of_eq (j7 (zj by27)) ln23)) rfl ?_;refine jb rfl rfl (qao (f := S1079.c) (l := x22) (a' := y25) rfl jf rfl rfl rfl (Nat.lt_of_lt_of_eq (Nat.lt_of_lt_of_eq (j7 (zj by27)) ln23) (Eq.symm ln23)) rfl (fun _ => rfl)) ?_;refine su (ku rfl Tryz.underlying48 jf rfl rfl (jm by28) (Nat.lt_of_lt_of_eq (j7 (zj by28)) ((List.length_set ..).trans ln23))) rfl ?_;refine jb rfl rfl (qao (f := S1079.c) (l := List.set x22 (Int.toNat x21) y25) (a' := y26) rfl jf rfl rfl rfl (Nat.lt_of_lt_of_eq (Nat.lt_of_lt_of_eq (j7 (zj by28)) ((List.length_set ..).trans ln23)) (Eq.symm ((List.length_set ..).trans ln23))) rfl (fun _ => rfl)) ?_;refine qc ?_;refine qa [.p, .p, .p] ?_;refine sm rfl rfl ?_;refine su (vc rfl rfl rfl iF) rfl ?_;refine sa rfl rfl ?_;refine qc ?_;exact ⟨rfl, (k24, x21 - 1, List.set (List.set x22 (Int.toNat x21) y25) (Int.toNat (x21 - 1)) y26), ⟨(by simp only [List.length_set]; rfl), rfl, rfl, trivial⟩, ⟨rfl, trivial⟩, rfl, ⟨iB, iB, iB, ((List.length_set ..).trans ((List.length_set ..).trans ln23)), hR⟩, by simp⟩
      ·replace hR := zl hR h8;refine zt ?_;refine qo ?_;obtain rfl := Option.some.inj hR;show ResOk _ _ _ _ ∧ MemL _ _;exact ⟨res0 rfl, ⟨rfl, trivial⟩⟩
  ·replace h5 : (decide (a3 - a2 = 1)) = false := h5;replace hR := zl hR h5;(try simp only [bB] at h5);refine qn ?_;refine qb ?_;refine qa [.p, .p, .p, .p, .p, .p, .p] ?_;refine sm rfl rfl ?_;refine sm rfl rfl ?_;refine su (zn rfl rfl rfl iF) rfl ?_;refine su (qef rfl Tryz.underlying3 Tryz.underlying233 rfl (by (try dsimp only); omega) (by (try dsimp only); omega)) rfl ?_;refine su (qgr rfl rfl rfl (by (try dsimp only); omega)) rfl ?_;refine su (qeg rfl Tryz.underlying233 Tryz.underlying3 rfl iF) rfl ?_;refine sa rfl rfl ?_;refine qc ?_;refine qb ?_;refine qa [.p, .p, .p, .p] ?_;refine sm rfl rfl ?_;refine sm rfl rfl ?_;refine su (zn rfl rfl rfl iF) rfl ?_;refine sa rfl rfl ?_;refine qc ?_;refine qb ?_;refine qa [.p, .p] ?_;refine sa rfl rfl ?_;refine sa rfl rfl ?_;refine qc ?_;refine kl (γ := Int × Int) (fun g => ([(0, .osl 0 7 0 (N0)), (1, .g (G.int a1)), (2, .g (G.int a2)), (3, .g (G.int a3)), (4, .g (ca4)), (18, .g (G.int ((a1 + a3) / 2))), (19, .g (G.int (((a1 + a3) / 2) + a2))), (20, .g (G.int g.1)), (21, .g (G.int g.2))], [(0, .arr 53 7 (List.map S1079.c a0))])) (fun g => (((a1 + a3) / 2) + a2) - a3 ≤ g.1 ∧ a1 ≤ g.1 ∧ g.1 ≤ 30000 ∧ 0 ≤ g.2 ∧ g.2 ≤ 30000 ∧ qdw (fun z0_ z1_ z2_ z3_ z4_ => qa4 kf_ z0_ z1_ z2_ z3_ z4_) a0 a1 a2 a3 a4 g.1 g.2 = some R) ?_ ?_
   ·refine qb ?_;refine qa [.p, .p, .p] ?_;refine sm rfl rfl ?_;refine sm rfl rfl ?_;refine su (ja rfl rfl rfl) rfl ?_;refine qc ?_;refine ql _ rfl (fun h14 => ?_) (fun h14 => ?_)
    ·replace h14 : (decide ((a1 + a3) / 2 < a2)) = true := h14;replace hR := zk hR h14;(try simp only [bB] at h14);refine qb ?_;refine qa [.p, .p, .p, .p] ?_;refine sm rfl rfl ?_;refine sm rfl rfl ?_;refine su (vc rfl rfl rfl iF) rfl ?_;refine sa rfl rfl ?_;refine qc ?_;refine qa [.p, .p] ?_;refine sm rfl rfl ?_;refine sa rfl rfl ?_;refine qc ?_;exact ⟨rfl, ((((a1 + a3) / 2) + a2) - a3, (a1 + a3) / 2), jA, ⟨rfl, trivial⟩, rfl, ⟨iB, iB, iB, iB, iB, hR⟩, trivial⟩
    ·replace h14 : (decide ((a1 + a3) / 2 < a2)) = false := h14;replace hR := zl hR h14;(try simp only [bB] at h14);refine qb ?_;refine qa [.p, .p] ?_;refine sm rfl rfl ?_;refine sa rfl rfl ?_;refine qc ?_;refine qa [.p, .p] ?_;refine sm rfl rfl ?_;refine sa rfl rfl ?_;refine qc ?_;exact ⟨rfl, (a1, a2), jA, ⟨rfl, trivial⟩, rfl, ⟨iB, iB, iB, iB, iB, hR⟩, trivial⟩
   ·rintro ⟨x29, x30⟩ ⟨jv3_0, jv3_1, jv3_2, jv3_3, jv3_4, hR⟩;replace jv3_0 : (((a1 + a3) / 2) + a2) - a3 ≤ x29 := jv3_0;replace jv3_1 : a1 ≤ x29 := jv3_1;replace jv3_2 : x29 ≤ 30000 := jv3_2;replace jv3_3 : 0 ≤ x30 := jv3_3;replace jv3_4 : x30 ≤ 30000 := jv3_4;replace hR : qdw (fun z0_ z1_ z2_ z3_ z4_ => qa4 kf_ z0_ z1_ z2_ z3_ z4_) a0 a1 a2 a3 a4 x29 x30 = some R := hR;unfold qdw at hR;refine qb ?_;refine qa [.p, .p, .p] ?_;refine sm rfl rfl ?_;refine su (vc rfl rfl rfl iF) rfl ?_;refine sa rfl rfl ?_;refine qc ?_;refine qb ?_;refine qq ?_;refine zh (γ := Nat × Int × Int) (fun g => ([(0, .osl 0 7 0 (N0)), (1, .g (G.int a1)), (2, .g (G.int a2)), (3, .g (G.int a3)), (4, .g (ca4)), (18, .g (G.int ((a1 + a3) / 2))), (19, .g (G.int (((a1 + a3) / 2) + a2))), (20, .g (G.int g.2.1)), (21, .g (G.int g.2.2)), (22, .g (G.int ((((a1 + a3) / 2) + a2) - 1)))], [(0, .arr 53 7 (List.map S1079.c a0))])) (fun g => (g.2.2 - g.2.1).toNat < g.1 ∧ (((a1 + a3) / 2) + a2) - a3 ≤ g.2.1 ∧ a1 ≤ g.2.1 ∧ g.2.1 ≤ 30000 ∧ g.2.2 ≤ 30000 ∧ 0 ≤ g.2.2 ∧ wg (fun z0_ z1_ z2_ z3_ z4_ => qa4 kf_ z0_ z1_ z2_ z3_ z4_) a0 a1 a2 a3 a4 g.1 g.2.1 g.2.2 = some R) (fun g => g.1) ⟨rfl, (((x30 - x29).toNat) + 1, x29, x30), jA, ⟨rfl, trivial⟩, rfl, ⟨Nat.lt_succ_self _, iD, iD, iD, iD, iD, (by exact hR)⟩, trivial⟩ ?_
    ·rintro ⟨k33, x31, x32⟩ ⟨hk5, iv5_0, iv5_1, iv5_2, iv5_3, iv5_4, hR⟩;replace hk5 : (x32 - x31).toNat < k33 := hk5;replace hR : wg (fun z0_ z1_ z2_ z3_ z4_ => qa4 kf_ z0_ z1_ z2_ z3_ z4_) a0 a1 a2 a3 a4 k33 x31 x32 = some R := hR;replace iv5_0 : (((a1 + a3) / 2) + a2) - a3 ≤ x31 := iv5_0;replace iv5_1 : a1 ≤ x31 := iv5_1;replace iv5_2 : x31 ≤ 30000 := iv5_2;replace iv5_3 : x32 ≤ 30000 := iv5_3;replace iv5_4 : 0 ≤ x32 := iv5_4;obtain ⟨k33, rfl⟩ : ∃ m, k33 = m + 1 := ⟨k33 - 1, by omega⟩;rw [wg] at hR;(try dsimp only at hR);refine qb ?_;refine qb ?_;refine qa [.p, .p, .p] ?_;refine sm rfl rfl ?_;refine sm rfl rfl ?_;refine su (zg rfl rfl rfl) rfl ?_;refine qc ?_;refine ql _ rfl (fun h9 => ?_) (fun h9 => ?_)
     ·replace h9 : (decide (x31 < x32)) = true := h9;replace hR := zk hR h9;(try simp only [bB] at h9);refine qn ?_;refine qq ?_;refine qb ?_;refine qa [.p, .p, .p, .p, .p, .p, .p] ?_;refine sm rfl rfl ?_;refine sm rfl rfl ?_;refine su (zn rfl rfl rfl iF) rfl ?_;refine su (qef rfl Tryz.underlying3 Tryz.underlying233 rfl (by (try dsimp only); omega) (by (try dsimp only); omega)) rfl ?_;refine su (qgr rfl rfl rfl (by (try dsimp only); omega)) rfl ?_;refine su (qeg rfl Tryz.underlying233 Tryz.underlying3 rfl iF) rfl ?_;refine sa rfl rfl ?_;refine qc ?_;refine qb ?_;obtain ⟨y34, by34, hR⟩ := qi hR;obtain ⟨y35, by35, hR⟩ := qi hR;obtain ⟨r36, br36, hR⟩ := qi hR;refine zw [.p, .p, .p, .p, .p, .p, .r, .p, .p, .p, .r, .p, .p, .p] (by kernel_rfl) ?_;refine sm rfl rfl ?_;refine su (zd rfl rfl) rfl ?_;refine sm rfl rfl ?_;refine sm rfl rfl ?_;refine su (vc rfl rfl rfl iF) rfl ?_;refine su (ku rfl Tryz.underlying48 jf rfl rfl (jm by34) (Nat.lt_of_lt_of_eq (j7 (zj by34)) hN0)) rfl ?_;refine sr (xd (f := S1079.c) (l := a0) (a := y34) rfl jf rfl rfl (zj by34)) rfl ?_;refine su (zd rfl rfl) rfl ?_;refine sm rfl rfl ?_;refine su (ku rfl Tryz.underlying48 jf rfl rfl (jm by35) (Nat.lt_of_lt_of_eq (j7 (zj by35)) hN0)) rfl ?_;refine sr (xd (f := S1079.c) (l := a0) (a := y35) rfl jf rfl rfl (zj by35)) rfl ?_;refine su (xm rfl ha4 Ka4 rfl (Con.lend (Ha4 y34 y35 _ br36)) (qe rfl (qe rfl qj))) rfl ?_;refine su (zg rfl rfl rfl) rfl ?_;refine su (jk rfl rfl) rfl ?_;refine qc ?_;refine ql _ rfl (fun h10 => ?_) (fun h10 => ?_)
      ·replace h10 : (!(decide (r36 < 0))) = true := h10;replace hR := zk hR h10;(try simp only [bB] at h10);refine qa [.p, .p, .p] ?_;refine sm rfl rfl ?_;refine su (zn rfl rfl rfl iF) rfl ?_;refine sa rfl rfl ?_;refine qc ?_;exact ⟨rfl, (k33, ((x31 + x32) / 2) + 1, x32), jA, ⟨rfl, trivial⟩, rfl, ⟨iB, iB, iB, iB, iB, iB, hR⟩, by simp⟩
      ·replace h10 : (!(decide (r36 < 0))) = false := h10;replace hR := zl hR h10;(try simp only [bB] at h10);refine qa [.p, .p] ?_;refine sm rfl rfl ?_;refine sa rfl rfl ?_;refine qc ?_;exact ⟨rfl, (k33, x31, (x31 + x32) / 2), jA, ⟨rfl, trivial⟩, rfl, ⟨iB, iB, iB, iB, iB, iB, hR⟩, by simp⟩
     ·replace h9 : (decide (x31 < x32)) = false := h9;replace hR := zl hR h9;(try simp only [bB] at h9);refine zt ?_;refine qb ?_;refine qa [.p, .p, .p, .p] ?_;refine sm rfl rfl ?_;refine sm rfl rfl ?_;refine su (vc rfl rfl rfl iF) rfl ?_;refine sa rfl rfl ?_;refine qc ?_;refine kl (γ := (List S1079)) (fun g => ([(0, .osl 0 7 0 (N0)), (1, .g (G.int a1)), (3, .g (G.int a3)), (4, .g (ca4)), (18, .g (G.int ((a1 + a3) / 2))), (20, .g (G.int x31)), (24, .g (G.int ((((a1 + a3) / 2) + a2) - x31)))], [(0, .arr 53 7 (List.map S1079.c g))])) (fun g => List.length g = N0 ∧ xq (fun z0_ z1_ z2_ z3_ z4_ => qa4 kf_ z0_ z1_ z2_ z3_ z4_) a1 a2 a3 a4 x31 g = some R) ?_ ?_
      ·refine qb ?_;refine qa [.p, .p, .p, .p, .p, .p, .p, .p] ?_;refine sm rfl rfl ?_;refine sm rfl rfl ?_;refine su (zg rfl rfl rfl) rfl ?_;refine sm rfl rfl ?_;refine sg rfl rfl (fun h => qk rfl rfl) rfl ?_;refine sg rfl rfl (fun h => qk rfl rfl) rfl ?_;refine sg rfl rfl (fun h => zg rfl (gd h rfl) (gd h rfl)) rfl ?_;refine su (zx rfl rfl rfl rfl) rfl ?_;refine qc ?_;refine ql _ rfl (fun h13 => ?_) (fun h13 => ?_)
       ·replace h13 : ((decide (x31 < a2)) && (decide (a2 < (((a1 + a3) / 2) + a2) - x31))) = true := h13;replace hR := zk hR h13;(try simp only [bB] at h13);obtain ⟨r43, br43, hR⟩ := qi hR;refine qa [.p, .p, .p, .p, .p, .w] ?_;refine su (zd rfl rfl) rfl ?_;refine sm rfl rfl ?_;refine sm rfl rfl ?_;refine sm rfl rfl ?_;refine sm rfl rfl ?_;refine sw (vn 0 0 rfl zbt rfl (ConB.lend (zbs a0 x31 a2 ((((a1 + a3) / 2) + a2) - x31) a4 hN0 ha4 Ka4 Ha4 (by first | assumption | omega | (simp [qh]; done) | (simp [qh]; omega)) (by first | assumption | omega | (simp [qh]; done) | (simp [qh]; omega)) (by first | assumption | omega | (simp [qh]; done) | (simp [qh]; omega)) (by first | assumption | omega | (simp [qh]; done) | (simp [qh]; omega)) br43)) (z7 rfl rfl (z7 rfl rfl (z7 rfl rfl (z7 rfl rfl (z7 rfl rfl qcx))))) rfl rfl rfl) rfl ?_;refine qc ?_;exact ⟨rfl, r43, jA, ⟨rfl, trivial⟩, rfl, ⟨((qxy br43).trans hN0), hR⟩, trivial⟩
       ·replace hR := zl hR h13;refine qn ?_;exact ⟨rfl, a0, jA, ⟨rfl, trivial⟩, rfl, ⟨hN0, hR⟩, trivial⟩
      ·rintro x37 ⟨ln38, hR⟩;replace ln38 : List.length x37 = N0 := ln38;replace hR : xq (fun z0_ z1_ z2_ z3_ z4_ => qa4 kf_ z0_ z1_ z2_ z3_ z4_) a1 a2 a3 a4 x31 x37 = some R := hR;unfold xq at hR;refine kl (γ := (List S1079)) (fun g => ([(0, .osl 0 7 0 (N0)), (3, .g (G.int a3)), (4, .g (ca4)), (18, .g (G.int ((a1 + a3) / 2))), (24, .g (G.int ((((a1 + a3) / 2) + a2) - x31)))], [(0, .arr 53 7 (List.map S1079.c g))])) (fun g => List.length g = N0 ∧ qbc (fun z0_ z1_ z2_ z3_ z4_ => qa4 kf_ z0_ z1_ z2_ z3_ z4_) a1 a2 a3 a4 x31 g = some R) ?_ ?_
       ·refine qb ?_;refine qa [.p, .p, .p, .p, .p, .p, .p, .p] ?_;refine sm rfl rfl ?_;refine sm rfl rfl ?_;refine su (zg rfl rfl rfl) rfl ?_;refine sm rfl rfl ?_;refine sg rfl rfl (fun h => qk rfl rfl) rfl ?_;refine sg rfl rfl (fun h => qk rfl rfl) rfl ?_;refine sg rfl rfl (fun h => zg rfl (gd h rfl) (gd h rfl)) rfl ?_;refine su (zx rfl rfl rfl rfl) rfl ?_;refine qc ?_;refine ql _ rfl (fun h12 => ?_) (fun h12 => ?_)
        ·replace h12 : ((decide (a1 < x31)) && (decide (x31 < (a1 + a3) / 2))) = true := h12;replace hR := zk hR h12;(try simp only [bB] at h12);obtain ⟨r42, br42, hR⟩ := qi hR;refine qa [.p, .p, .p, .p, .p, .w] ?_;refine su (zd rfl rfl) rfl ?_;refine sm rfl rfl ?_;refine sm rfl rfl ?_;refine sm rfl rfl ?_;refine sm rfl rfl ?_;refine sw (vn 0 0 rfl q0j rfl (ConB.lend (ih x37 a1 x31 ((a1 + a3) / 2) a4 ln38 ha4 Ka4 Ha4 (by first | assumption | omega) (by first | assumption | omega) (by first | assumption | omega) (by first | assumption | omega) br42)) (z7 rfl rfl (z7 rfl rfl (z7 rfl rfl (z7 rfl rfl (z7 rfl rfl qcx))))) rfl rfl rfl) rfl ?_;refine qc ?_;exact ⟨rfl, r42, jA, ⟨rfl, trivial⟩, rfl, ⟨((qk7 br42).trans ln38), hR⟩, trivial⟩
        ·replace hR := zl hR h12;refine qn ?_;exact ⟨rfl, x37, jA, ⟨rfl, trivial⟩, rfl, ⟨ln38, hR⟩, trivial⟩
       ·rintro x39 ⟨ln40, hR⟩;replace ln40 : List.length x39 = N0 := ln40;replace hR : qbc (fun z0_ z1_ z2_ z3_ z4_ => qa4 kf_ z0_ z1_ z2_ z3_ z4_) a1 a2 a3 a4 x31 x39 = some R := hR;unfold qbc at hR;refine qb ?_;refine qa [.p, .p, .p, .p, .p, .p, .p, .p] ?_;refine sm rfl rfl ?_;refine sm rfl rfl ?_;refine su (zg rfl rfl rfl) rfl ?_;refine sm rfl rfl ?_;refine sg rfl rfl (fun h => qk rfl rfl) rfl ?_;refine sg rfl rfl (fun h => qk rfl rfl) rfl ?_;refine sg rfl rfl (fun h => zg rfl (gd h rfl) (gd h rfl)) rfl ?_;refine su (zx rfl rfl rfl rfl) rfl ?_;refine qc ?_;refine ql _ rfl (fun h11 => ?_) (fun h11 => ?_)
        ·replace h11 : ((decide ((a1 + a3) / 2 < (((a1 + a3) / 2) + a2) - x31)) && (decide ((((a1 + a3) / 2) + a2) - x31 < a3))) = true := h11;replace hR := zk hR h11;(try simp only [bB] at h11);obtain ⟨r41, br41, hR⟩ := qi hR;refine qa [.p, .p, .p, .p, .p, .w] ?_;refine su (zd rfl rfl) rfl ?_;refine sm rfl rfl ?_;refine sm rfl rfl ?_;refine sm rfl rfl ?_;refine sm rfl rfl ?_;refine sw (vn 0 0 rfl q0j rfl (ConB.lend (ih x39 ((a1 + a3) / 2) ((((a1 + a3) / 2) + a2) - x31) a3 a4 ln40 ha4 Ka4 Ha4 (by first | assumption | omega) (by first | assumption | omega) (by first | assumption | omega) (by first | assumption | omega) br41)) (z7 rfl rfl (z7 rfl rfl (z7 rfl rfl (z7 rfl rfl (z7 rfl rfl qcx))))) rfl rfl rfl) rfl ?_;refine qc ?_;obtain rfl := Option.some.inj hR;show ResOk _ _ _ _ ∧ MemL _ _;exact ⟨res0 rfl, ⟨rfl, trivial⟩⟩
        ·replace hR := zl hR h11;refine qn ?_;obtain rfl := Option.some.inj hR;show ResOk _ _ _ _ ∧ MemL _ _;exact ⟨res0 rfl, ⟨rfl, trivial⟩⟩
end Go.Sim
set_option maxRecDepth 10000
namespace Go.Sim
open Go.Proofs
def qc0 (rec2 : Int → (List S1079) → Option (List S1079)) (x8 : Int) (x18 : List S1079) : Option (List S1079) :=
 rec2 (x8 * 2) x18
def wh (rec2 : Int → (List S1079) → Option (List S1079)) (a1 : Int) (a2 : S1079 → S1079 → Option Int) (x8 : Int) : Nat → Int → Int → (List S1079) → Option (List S1079)
 | 0, _, _, _ => none
 | k16 + 1, x12, x13, x14 => (bif decide (x13 ≤ a1) then zf (qa4 30001 x14 x12 (x12 + x8) x13 a2) fun r17 => wh rec2 a1 a2 x8 k16 x13 (x13 + (2 * x8)) r17 else (bif decide (x12 + x8 < a1) then zf (qa4 30001 x14 x12 (x12 + x8) a1 a2) fun r20 => qc0 rec2 x8 r20 else qc0 rec2 x8 x14))
def vk (a1 : Int) (a2 : S1079 → S1079 → Option Int) : Nat → Int → (List S1079) → Option (List S1079)
 | 0, _, _ => none
 | k11 + 1, x8, x9 => (bif decide (x8 < a1) then wh (fun z0_ z1_ => vk a1 a2 k11 z0_ z1_) a1 a2 x8 (((a1 + 2 * x8 - (2 * x8)).toNat) + 1) 0 (2 * x8) x9 else some x9)
def qat (a1 : Int) (a2 : S1079 → S1079 → Option Int) : Nat → Int → Int → (List S1079) → Option (List S1079)
 | 0, _, _, _ => none
 | k5 + 1, x1, x2, x3 => (bif decide (x2 ≤ a1) then zf (qpo x3 x1 x2 a2) fun r6 => qat a1 a2 k5 x2 (x2 + 20) r6 else zf (qpo x3 x1 a1 a2) fun r7 => vk a1 a2 (((a1 - 20).toNat) + 1) 20 r7)
def qxc (a0 : List S1079) (a1 : Int) (a2 : S1079 → S1079 → Option Int) : Option (List S1079) :=
 qat a1 a2 (((a1 + 20 - 20).toNat) + 1) 0 20 a0
theorem zbu {g : GL} (a0 : List S1079) (a1 : Int) (a2 : S1079 → S1079 → Option Int) {R : List S1079} {N0 : Nat} (hN0 : List.length a0 = N0) {ca2 : G} {ia2 : FuncId} {ka2 : List G} (ha2 : FnIs ca2 ia2 ka2) (Ka2 : ze Tryz.prog ia2) (Ha2 : ∀ (x0 : S1079) (x1 : S1079) (r : Int), a2 x0 x1 = some r → Con (EG g) ia2 ([G.agg (S1079.c x0), G.agg (S1079.c x1)] ++ ka2) (G.int r)) (hA : 0 ≤ a1) (hB : a1 ≤ 30000) (hR : qxc a0 a1 a2 = some R) : ConB (EG g) 181 [.osl 0 7 0 N0, .g (G.int a1), .g (ca2)] [(0, .arr 53 7 (List.map S1079.c a0))] (G.tup []) [(0, .arr 53 7 (List.map S1079.c R))] := by
 unfold qxc at hR;refine qaz Tryz.func181 rfl rfl rfl fun w0 M0 x => ?_;refine qfp (f := S1079.c) (l := a0) 0 rfl fun hla0 => ?_;refine qb ?_;refine qa [.p] ?_;refine sa rfl rfl ?_;refine qc ?_;refine qb ?_;refine qa [.p, .p, .p] ?_;refine sm rfl rfl ?_;refine sa rfl rfl ?_;refine sa rfl rfl ?_;refine qc ?_;refine qb ?_;refine qq ?_;refine zh (γ := Nat × Int × Int × (List S1079)) (fun g => ([(0, .osl 0 7 0 (N0)), (1, .g (G.int a1)), (2, .g (ca2)), (6, .g (G.int 20)), (7, .g (G.int g.2.1)), (8, .g (G.int g.2.2.1))], [(0, .arr 53 7 (List.map S1079.c g.2.2.2))])) (fun g => (a1 + 20 - g.2.2.1).toNat < g.1 ∧ 0 ≤ g.2.1 ∧ g.2.2.1 = g.2.1 + 20 ∧ g.2.1 ≤ 60000 ∧ List.length g.2.2.2 = N0 ∧ qat a1 a2 g.1 g.2.1 g.2.2.1 g.2.2.2 = some R) (fun g => g.1) ⟨rfl, (((a1 + 20 - 20).toNat) + 1, 0, 20, a0), jA, ⟨rfl, trivial⟩, rfl, ⟨Nat.lt_succ_self _, iD, iD, iD, hN0, (by exact hR)⟩, trivial⟩ ?_
 ·rintro ⟨k5, x1, x2, x3⟩ ⟨hk1, iv1_0, iv1_1, iv1_2, ln4, hR⟩;replace hk1 : (a1 + 20 - x2).toNat < k5 := hk1;replace hR : qat a1 a2 k5 x1 x2 x3 = some R := hR;replace iv1_0 : 0 ≤ x1 := iv1_0;replace iv1_1 : x2 = x1 + 20 := iv1_1;replace iv1_2 : x1 ≤ 60000 := iv1_2;replace ln4 : List.length x3 = N0 := ln4;obtain ⟨k5, rfl⟩ : ∃ m, k5 = m + 1 := ⟨k5 - 1, by omega⟩;rw [qat] at hR;(try dsimp only at hR);refine qb ?_;refine qb ?_;refine qa [.p, .p, .p] ?_;refine sm rfl rfl ?_;refine sm rfl rfl ?_;refine su (vp rfl rfl rfl) rfl ?_;refine qc ?_;refine ql _ rfl (fun h1 => ?_) (fun h1 => ?_)
  ·replace h1 : (decide (x2 ≤ a1)) = true := h1;replace hR := zk hR h1;(try simp only [bB] at h1);refine qn ?_;refine qq ?_;refine qb ?_;obtain ⟨r6, br6, hR⟩ := qi hR;refine qa [.p, .p, .p, .p, .w] ?_;refine su (zd rfl rfl) rfl ?_;refine sm rfl rfl ?_;refine sm rfl rfl ?_;refine sm rfl rfl ?_;refine sw (vn 0 0 rfl q7n rfl (ConB.lend (q7l x3 x1 x2 a2 ln4 ha2 Ka2 Ha2 (by first | assumption | omega | (simp [qh]; done) | (simp [qh]; omega)) (by first | assumption | omega | (simp [qh]; done) | (simp [qh]; omega)) (by first | assumption | omega | (simp [qh]; done) | (simp [qh]; omega)) br6)) (z7 rfl rfl (z7 rfl rfl (z7 rfl rfl (z7 rfl rfl qcx)))) rfl rfl rfl) rfl ?_;refine qc ?_;refine qb ?_;refine qa [.p, .p] ?_;refine sm rfl rfl ?_;refine sa rfl rfl ?_;refine qc ?_;refine qa [.p, .p, .p, .p] ?_;refine sm rfl rfl ?_;refine sm rfl rfl ?_;refine su (zn rfl rfl rfl iF) rfl ?_;refine sa rfl rfl ?_;refine qc ?_;exact ⟨rfl, (k5, x2, x2 + 20, r6), jA, ⟨rfl, trivial⟩, rfl, ⟨(by first | omega | (dsimp only; done) | (dsimp only; omega)), (by first | omega | (dsimp only; done) | (dsimp only; omega)), (by first | omega | (dsimp only; done) | (dsimp only; omega)), (by first | omega | (dsimp only; done) | (dsimp only; omega)), ((qn8 br6).trans ln4), hR⟩, by simp⟩
  ·replace h1 : (decide (x2 ≤ a1)) = false := h1;replace hR := zl hR h1;(try simp only [bB] at h1);refine zt ?_;refine qb ?_;obtain ⟨r7, br7, hR⟩ := qi hR;refine qa [.p, .p, .p, .p, .w] ?_;refine su (zd rfl rfl) rfl ?_;refine sm rfl rfl ?_;refine sm rfl rfl ?_;refine sm rfl rfl ?_;refine sw (vn 0 0 rfl q7n rfl (ConB.lend (q7l x3 x1 a1 a2 ln4 ha2 Ka2 Ha2 (by first | assumption | omega | (simp [qh]; done) | (simp [qh]; omega)) (by first | assumption | omega | (simp [qh]; done) | (simp [qh]; omega)) (by first | assumption | omega | (simp [qh]; done) | (simp [qh]; omega)) br7)) (z7 rfl rfl (z7 rfl rfl (z7 rfl rfl (z7 rfl rfl qcx)))) rfl rfl rfl) rfl ?_;refine qc ?_;refine qq ?_;refine zh (γ := Nat × Int × (List S1079)) (fun g => ([(0, .osl 0 7 0 (N0)), (1, .g (G.int a1)), (2, .g (ca2)), (6, .g (G.int g.2.1))], [(0, .arr 53 7 (List.map S1079.c g.2.2))])) (fun g => (a1 - g.2.1).toNat < g.1 ∧ 20 ≤ g.2.1 ∧ g.2.1 ≤ 60000 ∧ List.length g.2.2 = N0 ∧ vk a1 a2 g.1 g.2.1 g.2.2 = some R) (fun g => g.1) ⟨rfl, (((a1 - 20).toNat) + 1, 20, r7), jA, ⟨rfl, trivial⟩, rfl, ⟨Nat.lt_succ_self _, iD, iD, ((qn8 br7).trans ln4), (by exact hR)⟩, trivial⟩ ?_
   ·rintro ⟨k11, x8, x9⟩ ⟨hk2, iv2_0, iv2_1, ln10, hR⟩;replace hk2 : (a1 - x8).toNat < k11 := hk2;replace hR : vk a1 a2 k11 x8 x9 = some R := hR;replace iv2_0 : 20 ≤ x8 := iv2_0;replace iv2_1 : x8 ≤ 60000 := iv2_1;replace ln10 : List.length x9 = N0 := ln10;obtain ⟨k11, rfl⟩ : ∃ m, k11 = m + 1 := ⟨k11 - 1, by omega⟩;rw [vk] at hR;(try dsimp only at hR);refine qb ?_;refine qb ?_;refine qa [.p, .p, .p] ?_;refine sm rfl rfl ?_;refine sm rfl rfl ?_;refine su (zg rfl rfl rfl) rfl ?_;refine qc ?_;refine ql _ rfl (fun h2 => ?_) (fun h2 => ?_)
    ·replace h2 : (decide (x8 < a1)) = true := h2;replace hR := zk hR h2;(try simp only [bB] at h2);refine qn ?_;refine qq ?_;refine qb ?_;refine qa [.p, .p, .p, .p] ?_;refine sm rfl rfl ?_;refine su (qp5 rfl rfl rfl iF) rfl ?_;refine sa rfl rfl ?_;refine sa rfl rfl ?_;refine qc ?_;refine qb ?_;refine qq ?_;refine zh (γ := Nat × Int × Int × (List S1079)) (fun g => ([(0, .osl 0 7 0 (N0)), (1, .g (G.int a1)), (2, .g (ca2)), (6, .g (G.int x8)), (7, .g (G.int g.2.1)), (8, .g (G.int g.2.2.1))], [(0, .arr 53 7 (List.map S1079.c g.2.2.2))])) (fun g => (a1 + 2 * x8 - g.2.2.1).toNat < g.1 ∧ 0 ≤ g.2.1 ∧ g.2.2.1 = g.2.1 + 2 * x8 ∧ g.2.1 ≤ 150000 ∧ List.length g.2.2.2 = N0 ∧ wh (fun z0_ z1_ => vk a1 a2 k11 z0_ z1_) a1 a2 x8 g.1 g.2.1 g.2.2.1 g.2.2.2 = some R) (fun g => g.1) ⟨rfl, (((a1 + 2 * x8 - (2 * x8)).toNat) + 1, 0, 2 * x8, x9), jA, ⟨rfl, trivial⟩, rfl, ⟨Nat.lt_succ_self _, iD, iD, iD, ln10, (by exact hR)⟩, trivial⟩ ?_
     ·rintro ⟨k16, x12, x13, x14⟩ ⟨hk3, iv3_0, iv3_1, iv3_2, ln15, hR⟩;replace hk3 : (a1 + 2 * x8 - x13).toNat < k16 := hk3;replace hR : wh (fun z0_ z1_ => vk a1 a2 k11 z0_ z1_) a1 a2 x8 k16 x12 x13 x14 = some R := hR;replace iv3_0 : 0 ≤ x12 := iv3_0;replace iv3_1 : x13 = x12 + 2 * x8 := iv3_1;replace iv3_2 : x12 ≤ 150000 := iv3_2;replace ln15 : List.length x14 = N0 := ln15;obtain ⟨k16, rfl⟩ : ∃ m, k16 = m + 1 := ⟨k16 - 1, by omega⟩;rw [wh] at hR;(try dsimp only at hR);refine qb ?_;refine qb ?_;refine qa [.p, .p, .p] ?_;refine sm rfl rfl ?_;refine sm rfl rfl ?_;refine su (vp rfl rfl rfl) rfl ?_;refine qc ?_;refine ql _ rfl (fun h3 => ?_) (fun h3 => ?_)
      ·replace h3 : (decide (x13 ≤ a1)) = true := h3;replace hR := zk hR h3;(try simp only [bB] at h3);refine qn ?_;refine qq ?_;refine qb ?_;obtain ⟨r17, br17, hR⟩ := qi hR;refine qa [.p, .p, .p, .p, .p, .p, .p, .w] ?_;refine su (zd rfl rfl) rfl ?_;refine sm rfl rfl ?_;refine sm rfl rfl ?_;refine sm rfl rfl ?_;refine su (zn rfl rfl rfl iF) rfl ?_;refine sm rfl rfl ?_;refine sm rfl rfl ?_;refine sw (vn 0 0 rfl q0j rfl (ConB.lend (q7m 30001 x14 x12 (x12 + x8) x13 a2 ln15 ha2 Ka2 Ha2 (by first | assumption | omega | (simp [qh]; done) | (simp [qh]; omega)) (by first | assumption | omega | (simp [qh]; done) | (simp [qh]; omega)) (by first | assumption | omega | (simp [qh]; done) | (simp [qh]; omega)) (by first | assumption | omega | (simp [qh]; done) | (simp [qh]; omega)) br17)) (z7 rfl rfl (z7 rfl rfl (z7 rfl rfl (z7 rfl rfl (z7 rfl rfl qcx))))) rfl rfl rfl) rfl ?_;refine qc ?_;refine qb ?_;refine qa [.p, .p] ?_;refine sm rfl rfl ?_;refine sa rfl rfl ?_;refine qc ?_;refine qa [.p, .p, .p, .p, .p] ?_;refine sm rfl rfl ?_;refine sm rfl rfl ?_;refine su (qp5 rfl rfl rfl iF) rfl ?_;refine su (zn rfl rfl rfl iF) rfl ?_;refine sa rfl rfl ?_;refine qc ?_;exact ⟨rfl, (k16, x13, x13 + (2 * x8), r17), jA, ⟨rfl, trivial⟩, rfl, ⟨(by first | omega | (dsimp only; done) | (dsimp only; omega)), (by first | omega | (dsimp only; done) | (dsimp only; omega)), (by first | omega | (dsimp only; done) | (dsimp only; omega)), (by first | omega | (dsimp only; done) | (dsimp only; omega)), ((qk7 br17).trans ln15), hR⟩, by simp⟩
      ·replace h3 : (decide (x13 ≤ a1)) = false := h3;replace hR := zl hR h3;(try simp only [bB] at h3);refine zt ?_;refine kl (γ := (List S1079)) (fun g => ([(0, .osl 0 7 0 (N0)), (1, .g (G.int a1)), (2, .g (ca2)), (6, .g (G.int x8))], [(0, .arr 53 7 (List.map S1079.c g))])) (fun g => List.length g = N0 ∧ qc0 (fun z0_ z1_ => vk a1 a2 k11 z0_ z1_) x8 g = some R) ?_ ?_
       ·refine qb ?_;refine qa [.p, .p, .p, .p] ?_;refine sm rfl rfl ?_;refine sm rfl rfl ?_;refine su (zn rfl rfl rfl iF) rfl ?_;refine sa rfl rfl ?_;refine qc ?_;refine qb ?_;refine qa [.p, .p, .p] ?_;refine sm rfl rfl ?_;refine sm rfl rfl ?_;refine su (zg rfl rfl rfl) rfl ?_;refine qc ?_;refine ql _ rfl (fun h4 => ?_) (fun h4 => ?_)
        ·replace h4 : (decide (x12 + x8 < a1)) = true := h4;replace hR := zk hR h4;(try simp only [bB] at h4);obtain ⟨r20, br20, hR⟩ := qi hR;refine qa [.p, .p, .p, .p, .p, .w] ?_;refine su (zd rfl rfl) rfl ?_;refine sm rfl rfl ?_;refine sm rfl rfl ?_;refine sm rfl rfl ?_;refine sm rfl rfl ?_;refine sw (vn 0 0 rfl q0j rfl (ConB.lend (q7m 30001 x14 x12 (x12 + x8) a1 a2 ln15 ha2 Ka2 Ha2 (by first | assumption | omega | (simp [qh]; done) | (simp [qh]; omega)) (by first | assumption | omega | (simp [qh]; done) | (simp [qh]; omega)) (by first | assumption | omega | (simp [qh]; done) | (simp [qh]; omega)) (by first | assumption | omega | (simp [qh]; done) | (simp [qh]; omega)) br20)) (z7 rfl rfl (z7 rfl rfl (z7 rfl rfl (z7 rfl rfl (z7 rfl rfl qcx))))) rfl rfl rfl) rfl ?_;refine qc ?_;exact ⟨rfl, r20, jA, ⟨rfl, trivial⟩, rfl, ⟨((qk7 br20).trans ln15), hR⟩, trivial⟩
        ·replace hR := zl hR h4;refine qn ?_;exact ⟨rfl, x14, jA, ⟨rfl, trivial⟩, rfl, ⟨ln15, hR⟩, trivial⟩
       ·rintro x18 ⟨ln19, hR⟩;replace ln19 : List.length x18 = N0 := ln19;replace hR : qc0 (fun z0_ z1_ => vk a1 a2 k11 z0_ z1_) x8 x18 = some R := hR;unfold qc0 at hR;refine qa [.p, .p, .p] ?_;refine sm rfl rfl ?_;refine su (qp5 rfl rfl rfl iF) rfl ?_;refine sa rfl rfl ?_;refine qc ?_;exact ⟨rfl, (k11, x8 * 2, x18), jA, ⟨rfl, trivial⟩, rfl, ⟨iB, iB, iB, ln19, hR⟩, by simp⟩
    ·replace hR := zl hR h2;refine zt ?_;obtain rfl := Option.some.inj hR;show ResOk _ _ _ _ ∧ MemL _ _;exact ⟨res0 rfl, ⟨rfl, trivial⟩⟩
theorem qme (rec2 : Int → List S1079 → Option (List S1079)) (hrec : ∀ x l r, rec2 x l = some r → r.length = l.length) (a1 : Int) (a2 : S1079 → S1079 → Option Int) (x8 : Int) : ∀ (k : Nat) (x y : Int) (l r : List S1079), wh rec2 a1 a2 x8 k x y l = some r → r.length = l.length
 | 0, _, _, _, _, h => by rw [wh] at h; cases h
 | k + 1, x, y, l, r, h => by
  rw [wh] at h
  cases hc : decide (y ≤ a1) with
  | true => obtain ⟨y1, h1, h⟩ := qi (zk h hc); exact (qme rec2 hrec a1 a2 x8 k _ _ _ _ h).trans (qk7 h1)
  | false =>
   have h := zl h hc
   cases hd : decide (x + x8 < a1) with
   | true => obtain ⟨y1, h1, h⟩ := qi (zk h hd); exact (hrec _ _ _ h).trans (qk7 h1)
   | false => exact hrec _ _ _ (zl h hd)
theorem qmf (a1 : Int) (a2 : S1079 → S1079 → Option Int) : ∀ (k : Nat) (x : Int) (l r : List S1079), vk a1 a2 k x l = some r → r.length = l.length
 | 0, _, _, _, h => by rw [vk] at h; cases h
 | k + 1, x, l, r, h => by
  rw [vk] at h
  cases hc : decide (x < a1) with
  | true => exact qme _ (fun x l r h => qmf a1 a2 k x l r h) _ _ _ _ _ _ _ _ (zk h hc)
  | false => have h := zl h hc; cases h; rfl
theorem qmg (a1 : Int) (a2 : S1079 → S1079 → Option Int) : ∀ (k : Nat) (x y : Int) (l r : List S1079), qat a1 a2 k x y l = some r → r.length = l.length
 | 0, _, _, _, _, h => by rw [qat] at h; cases h
 | k + 1, x, y, l, r, h => by
  rw [qat] at h
  cases hc : decide (y ≤ a1) with
  | true => obtain ⟨y1, h1, h⟩ := qi (zk h hc); exact (qmg a1 a2 k _ _ _ _ h).trans (qn8 h1)
  | false => obtain ⟨y1, h1, h⟩ := qi (zl h hc); exact (qmf _ _ _ _ _ _ h).trans (qn8 h1)
theorem q4f {a0 : List S1079} {a1 : Int} {a2 : S1079 → S1079 → Option Int} {R : List S1079} (h : qxc a0 a1 a2 = some R) : R.length = a0.length := qmg _ _ _ _ _ _ _ h
end Go.Sim
set_option maxRecDepth 10000
namespace Go.Sim
open Go.Proofs
def qq7 (a0 : List S1079) (a1 : S1079 → S1079 → Option Int) : Option (List S1079) :=
 zf (qxc a0 (List.length a0 : Int) a1) fun r1 => some r1
theorem q7o {g : GL} (a0 : List S1079) (a1 : S1079 → S1079 → Option Int) {R : List S1079} {N0 : Nat} (hN0 : List.length a0 = N0) {ca1 : G} {ia1 : FuncId} {ka1 : List G} (ha1 : FnIs ca1 ia1 ka1) (Ka1 : ze Tryz.prog ia1) (Ha1 : ∀ (x0 : S1079) (x1 : S1079) (r : Int), a1 x0 x1 = some r → Con (EG g) ia1 ([G.agg (S1079.c x0), G.agg (S1079.c x1)] ++ ka1) (G.int r)) (hB : (List.length a0 : Int) ≤ 30000) (hR : qq7 a0 a1 = some R) : ConB (EG g) 149 [.osl 0 7 0 N0, .g (ca1)] [(0, .arr 53 7 (List.map S1079.c a0))] (G.tup []) [(0, .arr 53 7 (List.map S1079.c R))] := by
 unfold qq7 at hR;refine qaz Tryz.func149 rfl rfl rfl fun w0 M0 x => ?_;refine qfp (f := S1079.c) (l := a0) 0 rfl fun hla0 => ?_;obtain ⟨r1, br1, hR⟩ := qi hR;refine qa [.p, .p, .p, .p, .w] ?_;refine su (zd rfl rfl) rfl ?_;refine su (zd rfl rfl) rfl ?_;refine su (qvy hN0 rfl Tryz.underlying48 rfl) rfl ?_;refine sm rfl rfl ?_;refine sw (vn 0 0 rfl zbv rfl (ConB.lend (zbu a0 (List.length a0 : Int) a1 hN0 ha1 Ka1 Ha1 (by first | assumption | omega | (simp [qh]; done) | (simp [qh]; omega)) (by first | assumption | omega | (simp [qh]; done) | (simp [qh]; omega)) br1)) (z7 rfl rfl (z7 rfl rfl (z7 rfl rfl qcx))) rfl rfl rfl) rfl ?_;refine qc ?_;obtain rfl := Option.some.inj hR;show ResOk _ _ _ _ ∧ MemL _ _;exact ⟨res0 rfl, ⟨rfl, trivial⟩⟩
theorem qrc {a0 : List S1079} {a1 : S1079 → S1079 → Option Int} {R : List S1079} (h : qq7 a0 a1 = some R) : R.length = a0.length := by
 unfold qq7 at h;obtain ⟨y1, h1, h⟩ := qi h
 cases h
 exact q4f h1
end Go.Sim
set_option maxRecDepth 10000
namespace Go.Sim
open Go.Proofs
theorem q7p {g : GL} (a0 : List S1079) (hb : a0.length ≤ 30000) : ConN (EG g) 148 [G.sl 7 (List.map S1079.c a0)] 53 7 (List.map S1079.c a0) := by
 refine qev Tryz.func148 rfl rfl fun w0 M0 => ?_;refine qb ?_;refine qa [.p] ?_;refine sa rfl rfl ?_;refine qc ?_;refine qb ?_;refine qb ?_;refine qa [.p, .p] ?_;refine sm rfl rfl ?_;refine su (qkf (f := S1079.c) (l := a0) rfl Tryz.underlying48 rfl rfl) rfl ?_;refine qc ?_;refine qm8 rfl (fun h => ?_) ?_
 ·refine qb ?_;refine qa [.p] ?_;refine sa rfl rfl ?_;refine qc ?_;refine qo ?_;exact qke (E := EG g) rfl rfl (by rw [h]; rfl)
 ·refine qn ?_;refine qb ?_;refine qa [.w, .p, .k, .p] ?_;refine sw (qfq (xs := List.map S1079.c []) 5 rfl Tryz.underlying48 jf qqw rfl jo rfl (by simp) (by decide) rfl) rfl ?_;refine sm rfl rfl ?_;refine st_k rfl rfl (vi (f := S1079.c) (out := []) (new := a0) rfl qn2 rfl rfl (qad rfl (qae (by decide) (by simp [S1079.c]))) (qi1 rfl) (by simp; omega)) rfl ?_;refine su (je rfl rfl) rfl ?_;refine qc ?_;refine qo ?_;exact qgj (E := EG g) rfl rfl rfl (List.length_map ..)
end Go.Sim
namespace Go.Proofs
open Go.RowKit Go.Shelf
attribute [local go_sem] Oper.semAt_some
theorem q1p (d : Int) (h0 : 0 ≤ d) (h1 : d ≤ 1000000) (w : World) : Calls Tryz.prog 190 #[.int .i64 d] w fun e w' => e = .returned (.int .i64 ((d + 5) % 7)) ∧ w' = w := by
 go_enter Tryz.func190, Tryz.ntmps190
 go_wp2
 go_ret
 exact ⟨rfl, rfl⟩
theorem q0k (a b : Int) : bits BinOp.and IntKind.i64 a b = Sim.andI a b := rfl
theorem q7q (m d : Int) (h0 : 0 ≤ d) (h1 : d ≤ 6) : m / 2 ^ d.toNat = Sim.shrI m d := by
 unfold Sim.shrI;rw [Nat.min_eq_left (by omega), Int.fdiv_eq_ediv_of_nonneg _ (by exact Int.le_of_lt (Int.pow_pos (by decide)))]
theorem q1q (m d : Int) (h0 : 0 ≤ d) (h1 : d ≤ 6) (w : World) : Calls Tryz.prog 189 #[.int .i64 m, .int .i64 d] w fun e w' => e = .returned (.bool (decide (Sim.andI (Sim.shrI m d) 1 = 1))) ∧ w' = w := by
 go_enter Tryz.func189, Tryz.ntmps189
 go_wp2
 go_ret
 refine ⟨?_, rfl⟩;rw [q0k, q7q m d h0 h1];rw [show (Sim.andI (Sim.shrI m d) 1 == 1) = decide (Sim.andI (Sim.shrI m d) 1 = 1) by rw [Bool.eq_iff_iff]; simp]
 rfl
def inM (m d : Int) : Bool := decide (Sim.andI (Sim.shrI m ((d + 5) % 7)) 1 = 1)
def dayL (m : Int) : Nat → Int → List Int
 | 0, _ => []
 | n + 1, d => if inM m d = true then d :: dayL m n (d + 1) else dayL m n (d + 1)
theorem im_T (m d : Int) (hm : inM m d = true) (h0 : 0 ≤ d) (h1 : d ≤ 1000000) (w : World) : Calls Tryz.prog 189 #[.int .i64 m, .int .i64 ((d + 5) % 7)] w fun e w' => e = .returned (.bool true) ∧ w' = w :=
 (q1q m ((d + 5) % 7) (by omega) (by omega) w).mono fun e w' ⟨h, k⟩ => ⟨by rw [h]; unfold inM at hm; rw [hm], k⟩
theorem im_F (m d : Int) (hm : inM m d = false) (h0 : 0 ≤ d) (h1 : d ≤ 1000000) (w : World) : Calls Tryz.prog 189 #[.int .i64 m, .int .i64 ((d + 5) % 7)] w fun e w' => e = .returned (.bool false) ∧ w' = w :=
 (q1q m ((d + 5) % 7) (by omega) (by omega) w).mono fun e w' ⟨h, k⟩ => ⟨by rw [h]; unfold inM at hm; rw [hm], k⟩
set_option maxRecDepth 100000 in
set_option maxHeartbeats 1000000 in
theorem q0l (F : Fence) (n : Nat) (h6 : F.fn 193) (h7 : F.fn 189) (h8 : F.fn 190) (hro : F.round = none) (hw : F = Fence.wide) (hn : 2 ≤ n) (l b o n₀ : Nat) (hb : b < n₀) (f t m : Int) (hf : 0 ≤ f) (ht : t ≤ 1000000) (J Jx : List Int → World → Prop) (hJd : ∀ pre W k, J pre W → J pre (W.drewN k))
  (hY : ∀ pre x W, J pre W → pre.length < (dayL m (t + 1 - f).toNat f).length → YieldAt F (n - 1) Tryz.prog l #[.int .i64 x] W fun e W' =>
   (e = .returned (.bool true) ∧ J (pre ++ [x]) W' ∧ Below n₀ W W') ∨ (e = .returned (.bool false) ∧ Jx (pre ++ [x]) W'))
  (W : World) (c0 : W.cell? ⟨b, o, none⟩ = some (.int .i64 f)) (c1 : W.cell? ⟨b, o + 1, none⟩ = some (.int .i64 t)) (c2 : W.cell? ⟨b, o + 2, none⟩ = some (.int .i64 m)) (h0 : J [] W) :
  CallsIn F n Tryz.prog 193 #[.func (.yield l) #[] #[], .pointer (some ⟨b, o, none⟩)] W fun e W' => (∃ v, e = .returned v) ∧
   ((∃ ys, ys = dayL m (t + 1 - f).toNat f ∧ J ys W') ∨ (∃ pre, pre <+: dayL m (t + 1 - f).toNat f ∧ Jx pre W')) := by
 refine callsIn_of_wp Tryz.func193 rfl h6 ?_ hro;simp only [Tryz.ntmps193, List.size_toArray, List.length_cons, List.length_nil, Nat.reduceAdd, Nat.reduceSub, Array.replicate_succ, Array.replicate_zero, List.push_toArray, List.append_toArray, List.nil_append, List.cons_append];subst hw
 gi_wp2
 gi_loopw [3] (fun p wr => ∃ (pre : List Int) (d : Int), p = .int .i64 d ∧ f ≤ d ∧ (d ≤ t + 1 ∨ d = f) ∧ dayL m (t + 1 - f).toNat f = pre ++ dayL m (t + 1 - d).toNat d ∧ wr.cell? ⟨b, o + 1, none⟩ = some (.int .i64 t) ∧ wr.cell? ⟨b, o + 2, none⟩ = some (.int .i64 m) ∧ J pre wr)
  (fun p _ => (t + 1 - intOf p).toNat)
 case atStart => exact ⟨[], f, rfl, Int.le_refl _, .inr rfl, rfl, c1, c2, h0⟩
 case round =>
  clear c0 c1 c2 h0;obtain ⟨pre, d, rfl, hd1, hd2, hx, c1, c2, hJs⟩ := hrel
  by_cases hlt : d ≤ t
  ·have hs : dayL m (t + 1 - d).toNat d = if inM m d = true then d :: dayL m (t + 1 - (d + 1)).toNat (d + 1) else dayL m (t + 1 - (d + 1)).toNat (d + 1) := by
    obtain ⟨k, hk⟩ : ∃ k, (t + 1 - d).toNat = k + 1 := ⟨(t - d).toNat, by omega⟩;rw [hk, dayL, show (t + 1 - (d + 1)).toNat = k by omega]
   by_cases hm : inM m d = true
   ·obtain ⟨fn, tmps, assign, body, hy, hR'⟩ := YieldAt.mono (hY pre d wr.drew (hJd _ _ 1 hJs) (by rw [hx, hs, if_pos hm]; simp)) (R' := fun e W' => ∃ bb : Bool, e = .returned (.bool bb) ∧ ((bb = true → J (pre ++ [d]) W' ∧ Below n₀ wr.drew W') ∧ (bb = false → Jx (pre ++ [d]) W'))) (by
     rintro e W' (⟨rfl, k1, k2⟩ | ⟨rfl, k1⟩)
     ·exact ⟨true, rfl, (fun _ => ⟨k1, k2⟩), (fun h => (by cases h))⟩
     ·exact ⟨false, rfl, (fun h => (by cases h)), (fun _ => k1)⟩)
    have X1 := Lib.hid hx; clear hx;have X2 := Lib.hid hs; clear hs
    gi_wp2
    gi_region_with (first | (refine ⟨fun h => (by cases h), ?_⟩; gi_at_call 190; refine (callsIn_wide.2 (q1p _ (by omega) (by omega) _)).mono ?_; rintro e w' ⟨rfl, rfl⟩) | (refine ⟨fun h => (by cases h), ?_⟩; gi_at_call 189; refine (callsIn_wide.2 (im_T _ _ hm (by omega) (by omega) _)).mono ?_; rintro e w' ⟨rfl, rfl⟩) | (refine ⟨fun h => (by cases h), ?_⟩; refine hR'.mono ?_; rintro e W' ⟨bb, rfl, hT, hF⟩))
    all_goals
     cases bb with
     | true =>
      obtain ⟨hJ3, hk3⟩ := hT rfl;clear hT hF;have e1 : W'.cell? ⟨b, o + 1, none⟩ = some (.int .i64 t) := (hk3.cell (p := ⟨b, o + 1, none⟩) hb).trans c1;have e2 : W'.cell? ⟨b, o + 2, none⟩ = some (.int .i64 m) := (hk3.cell (p := ⟨b, o + 2, none⟩) hb).trans c2
      go_simp
      gi_wp2
      go_roundw
      case rel => exact ⟨pre ++ [d], d + 1, rfl, by omega, by omega, by rw [X1.out, X2.out, if_pos hm]; simp, e1, e2, hJ3⟩
      case measure => simp [intOf]; omega
     | false =>
      have hX := hF rfl;clear hT hF
      go_simp
      gi_wp2
      refine bodyPost_ret (results_none rfl _ _ _) rfl ?_;exact ⟨⟨_, rfl⟩, .inr ⟨pre ++ [d], ⟨dayL m (t + 1 - (d + 1)).toNat (d + 1), by rw [X1.out, X2.out, if_pos hm]; simp⟩, hX⟩⟩
   ·have hm' : inM m d = false := by simpa using hm
    have X1 := Lib.hid hx; clear hx;have X2 := Lib.hid hs; clear hs
    gi_wp2
    refine wpIn_region_quiet_lit rfl (by kernel_rfl) (by kernel_rfl) ?_
    repeat (gi_big_quiet_step (fail))
    gi_big_quiet_step ((refine ⟨fun h => (by cases h), ?_⟩; exact CallsIn.quiet_of_same (callsIn_wide.2 (q1p d (by omega) (by omega) _))))
    repeat (gi_big_quiet_step (fail))
    gi_big_quiet_step ((refine ⟨fun h => (by cases h), ?_⟩; exact CallsIn.quiet_of_same (callsIn_wide.2 (im_F m d hm' (by omega) (by omega) _))))
    repeat (gi_big_quiet_step (fail))
    refine BigFrame.wpQuietIn_skip (fun _ _ _ _ => trivial) (by rfl) ?_;simp only [Act.put, List.setIfInBounds_toArray, List.set_cons_succ, List.set_cons_zero]
    repeat (gi_big_quiet_step (fail))
    refine wpQuietIn_nil ?_;intro _ hw';obtain ⟨nq, hw''⟩ := hw';subst hw''
    gi_wp2
    go_roundw
    case rel => exact ⟨pre, d + 1, rfl, by omega, by omega, by rw [X1.out, X2.out, if_neg hm], c1, c2, hJd _ _ _ hJs⟩
    case measure => simp [intOf]; omega
  ·have hs : dayL m (t + 1 - d).toNat d = [] := by rw [show (t + 1 - d).toNat = 0 by omega]; rfl
   have X1 := Lib.hid hx; clear hx;have X2 := Lib.hid hs; clear hs
   gi_wp2
   go_end0
   refine ⟨⟨_, rfl⟩, .inl ?_⟩
   have : dayL m (t + 1 - f).toNat f = pre := by rw [X1.out, X2.out]; simp
   rw [this]; exact hJs
theorem qud (n : Nat) (hn : 2 ≤ n) (b o n₀ : Nat) (f t m : Int) (hf : 0 ≤ f) (ht : t ≤ 1000000) (w : World) (hb : b < n₀) (hn₀ : n₀ ≤ w.heap.size) (c0 : w.cell? ⟨b, o, none⟩ = some (.int .i64 f)) (c1 : w.cell? ⟨b, o + 1, none⟩ = some (.int .i64 t)) (c2 : w.cell? ⟨b, o + 2, none⟩ = some (.int .i64 m)) :
  SeqStopsK Fence.wide n Tryz.prog 193 #[.pointer (some ⟨b, o, none⟩)] (fun x : Int => #[Value.int .i64 x]) (Below n₀) (fun ys => ys = dayL m (t + 1 - f).toNat f) (fun pre => pre <+: dayL m (t + 1 - f).toNat f) (dayL m (t + 1 - f).toNat f).length w := fun l J Jx W hW hJ _ hY h0 =>
 q0l Fence.wide n trivial trivial trivial rfl rfl hn l b o n₀ hb f t m hf ht J Jx (fun pre W k h => hJ pre W (W.drewN k) none h ⟨rfl, rfl, rfl, Nat.le_refl _, fun _ _ _ => rfl⟩ (fun r e => by cases e)) hY W
  ((hW.cell (p := ⟨b, o, none⟩) (Nat.lt_of_lt_of_le hb hn₀)).trans c0) ((hW.cell (p := ⟨b, o + 1, none⟩) (Nat.lt_of_lt_of_le hb hn₀)).trans c1) ((hW.cell (p := ⟨b, o + 2, none⟩) (Nat.lt_of_lt_of_le hb hn₀)).trans c2) h0
theorem qje (m : Int) : ∀ (n : Nat) (d : Int), (dayL m n d).length ≤ n
 | 0, _ => Nat.le_refl _
 | n + 1, d => by
  unfold dayL;have := qje m n (d + 1)
  split <;> simp <;> omega
theorem q4g (x : Int) (w : World) : Calls Tryz.prog 176 #[.int .i64 x] w fun e w' => e = .returned (.bool true) ∧ w' = w := by
 go_enter Tryz.func176, Tryz.ntmps176
 go_wp2
 go_ret
 exact ⟨rfl, rfl⟩
end Go.Proofs
namespace Go.Proofs
open Go.RowKit Go.Shelf
attribute [local go_sem] Oper.semAt_some
theorem qn9 (x : Int) (w : World) : Calls Tryz.prog 176 #[.int .i64 x] w fun e w' => e = .returned (.bool true) ∧ w = w' := (q4g x w).mono fun _ _ ⟨h, k⟩ => ⟨h, k.symm⟩
theorem zbw : (Tryz.prog.info? 3).map (fun i => (i.zero, i.size, i.bytes)) = some (some (.int .i64 0), 1, 8) := by kernel_rfl
set_option maxRecDepth 100000 in
set_option maxHeartbeats 2000000 in
theorem qpf (b o : Nat) (f t m : Int) (hf : 0 ≤ f) (ht : t ≤ 1000000) (w : World) (hb : b < w.heap.size) (c0 : w.cell? ⟨b, o, none⟩ = some (.int .i64 f)) (c1 : w.cell? ⟨b, o + 1, none⟩ = some (.int .i64 t)) (c2 : w.cell? ⟨b, o + 2, none⟩ = some (.int .i64 m)) :
  CallsIn Fence.wide 4 Tryz.prog 174 #[.func (.func 193) #[] #[.pointer (some ⟨b, o, none⟩)], .func (.func 176) #[] #[]] w fun e W' => ∃ v, e = .returned v ∧ W'.ownsRow (w.heap.size + 1) 3 1 v (dayL m (t + 1 - f).toNat f).length ((dayL m (t + 1 - f).toNat f).map (Value.int .i64)) ∧ (v = .slice none 0 0 ↔ dayL m (t + 1 - f).toNat f = []) ∧ Below w.heap.size w W' := by
 obtain ⟨i0, hi, hz0, hz1, hz2⟩ := info_parts zbw;have hlen := qje m (t + 1 - f).toNat f
 have hlen2 : (t + 1 - f).toNat ≤ 1000001 := by omega
 refine callsIn_of_wp_marks Tryz.func174 rfl trivial ?_ rfl;simp only [Tryz.ntmps174, List.size_toArray, List.length_cons, List.length_nil, Nat.reduceAdd, Nat.reduceSub, Array.replicate_succ, Array.replicate_zero, List.push_toArray, List.append_toArray, List.nil_append, List.cons_append]
 gi_wp2
 have bO := Boxed.new (w.alloc (.cells #[.func (.func 176) #[] #[]] 131)) 38 (.slice none 0 0);rw [World.size_alloc] at bO;have bF := (Boxed.new w 131 (.func (.func 176) #[] #[])).cell;have hB00 : Below w.heap.size w (w.alloc (.cells #[.func (.func 176) #[] #[]] 131)) := (Below.refl _ w).alloc (Nat.le_refl _) _;have hB0 : Below (w.heap.size + 1) (w.alloc (.cells #[.func (.func 176) #[] #[]] 131)) ((w.alloc (.cells #[.func (.func 176) #[] #[]] 131)).alloc (.cells #[.slice none 0 0] 38)) := (Below.refl _ _).alloc (by simp) _;have hB1 : Below w.heap.size w ((w.alloc (.cells #[.func (.func 176) #[] #[]] 131)).alloc (.cells #[.slice none 0 0] 38)) := hB00.trans (hB0.mono (by omega));refine wpIn_rangeFunc_ownG rfl (by decide) (gf := 193) (lb := #[.pointer (some ⟨b, o, none⟩)]) rfl trivial (enters_of Tryz.func193 (by kernel_rfl) rfl)
  (qud 3 (by decide) b o (w.heap.size + 1) f t m hf ht _ (by omega) (by simp) ((hB1.cell (p := ⟨b, o, none⟩) hb).trans c0) ((hB1.cell (p := ⟨b, o + 1, none⟩) hb).trans c1) ((hB1.cell (p := ⟨b, o + 2, none⟩) hb).trans c2)) belowK_t (belowK_b (by simp)) (Below.refl _ _) (fun _ => rfl)
  (fun pre W => (∃ v, Boxed W (w.heap.size + 1) 38 v ∧ W.ownsRow (w.heap.size + 1) 3 1 v pre.length (pre.map (Value.int .i64)) ∧ (v = .slice none 0 0 ↔ pre = [])) ∧ Below (w.heap.size + 1) (w.alloc (.cells #[.func (.func 176) #[] #[]] 131)) W)
  (fun _ _ _ => False)
  (OwnFrom.and (Own.from (holdsRow_own (w.heap.size + 1) (w.heap.size + 1) 38 3 1 (fun pre : List Int => pre.length) (fun pre => pre.map (Value.int .i64)) (fun pre v => v = .slice none 0 0 ↔ pre = [])) _) (ownFrom_below (by simp) (by simp)))
  (fun _ _ _ _ _ hs _ _ => hs)
  ⟨⟨_, bO, World.ownsRow_nil _ _ _ _, by simp⟩, hB0⟩
  (fun x => { tmps := #[Value.func (Fn.func 193) #[] #[Value.pointer (some { block := b, off := o })],
     Value.func (Fn.func 176) #[] #[], undef, Value.pointer (some { block := w.heap.size, off := 0 }),
     Value.slice none 0 0, Value.pointer (some { block := w.heap.size + 1, off := 0 }), .int .i64 x,
     Value.func (Fn.func 193) #[] #[Value.pointer (some { block := b, off := o })], .int .i64 x, undef, undef, undef,
     undef, undef, undef, undef, undef], defers := [] }) ?assign ?body ?done ?stop
 case assign =>
  intro l x W K hK
  gi_wp2
  exact hK
 case body =>
  rintro l pre x W ⟨⟨v, hv, hrow, hnil⟩, hB⟩ hlt;have hc := hv.cell;have hfc : W.cell? ⟨w.heap.size, 0, none⟩ = some (.func (.func 176) #[] #[]) := (hB.cell (p := ⟨w.heap.size, 0, none⟩) (by simp)).trans bF
  gi_wp2_with (first | (gi_at_call 176; refine (CallsIn.inRound l (callsIn_wide.2 (qn9 x _))).mono ?_; rintro e w' ⟨rfl, rfl⟩) | (refine ⟨trivial, ?_⟩; gi_at_call 176; refine (CallsIn.inRound l (callsIn_wide.2 (qn9 x _))).mono ?_; rintro e w' ⟨rfl, rfl⟩) | (refine ⟨fun h => (by cases h), ?_⟩; gi_at_call 176; refine (CallsIn.inRound l (callsIn_wide.2 (qn9 x _))).mono ?_; rintro e w' ⟨rfl, rfl⟩) | (gi_at_builtin; refine wpListIn_append_own _ rfl _ _ 38 rfl (w.heap.size + 1) 3 i0 (.int .i64 0) 1 8 Tryz.underlying38 hi hz0 hz1 hz2 rfl (by decide) _ _ _ rfl (hrow.alloc _) ⟨W.heap.size, 0, none⟩ 1 1 [.int .i64 x] rfl rfl (cell_one_new _ _ _) (by simp [Value.oneCell']) (by unfold maxLen; omega) (by omega) (by have := hB.size; simp at this ⊢; omega) ?_; intro v' w1 hown' hgrow _; obtain ⟨g', cap', rfl⟩ := ownsRow_succ hown'; obtain ⟨hv1, hv2, hr2, hk2, hb2⟩ := hv.appended (by decide) hrow (by have := hB.size; simp at this ⊢; omega) (Nat.le_refl _) hown' hgrow; have hc1 := hv1.cell; have hf1 := hv1.frozen))
  exact ⟨hk2.from _, hb2, ⟨_, hv2, by simpa using hr2, by simp⟩, hB.trans hb2⟩
 case done =>
  rintro D ys W hD rfl ⟨⟨v, hv, hrow, hnil⟩, hB⟩ hK;have hc := hv.cell
  gi_wp2
  refine ⟨by simp, .inl ⟨_, _, rfl, run_takeDeferred hK, ?_⟩⟩;exact ⟨_, results_tmp rfl _ _ _, v, rfl, ownsRow_putObj hrow _ hK rfl, hnil, hB00.trans ((hB.mono (by omega)).trans (belowK_b (w := w) (Nat.le_refl _) W D _ _ (by simp at hD; omega) hK rfl rfl))⟩
 case stop =>
  rintro D c pre W _ _ h _;exact h.elim
end Go.Proofs
