/-
  What is proved: lemmas and contracts of functions on the way to the law topChockQueue (part 7).
-/
import Derived.Test.YtfmnmoiaemejjaaGreatVrA6
import Derived.Test.YtfmnmoiaemejjaaGreatVrA3
import Derived.DeepKeys4
import Derived.RangeFuncBound
set_option linter.unusedSectionVars false
set_option linter.unusedSimpArgs false
set_option linter.unusedVariables false
set_option linter.unnecessarySimpa false
set_option linter.deprecated false
set_option maxRecDepth 10000
namespace Go.Sim
open Go.Proofs
def qiw  : List UInt8 → Nat → Bool
 | [], k2 => true
 | y3 :: t4, k2 => (bif (!(((decide (97 ≤ (y3.toNat : Int))) && (decide ((y3.toNat : Int) ≤ 122))) || ((decide (65 ≤ (y3.toNat : Int))) && (decide ((y3.toNat : Int) ≤ 90))))) && ((decide (((k2 : Nat) : Int) = 0)) || ((decide ((y3.toNat : Int) ≠ 95)) && ((decide ((y3.toNat : Int) < 48)) || (decide (57 < (y3.toNat : Int)))))) then false else qiw  t4 (k2 + 1))
def s91 (a0 : ByteArray) : Bool :=
 (bif (decide ((ByteArray.size a0 : Int) = 0)) || (decide (24 < (ByteArray.size a0 : Int))) then false else qiw ((ByteArray.data a0).toList) 0)
theorem c91 {g : GL} (a0 : ByteArray)    : Con (EG g) 129 [G.str a0] (G.bool (s91 a0)) := by
 generalize hR : s91 a0 = R;unfold s91 at hR;refine qm Tryz.func129 rfl rfl fun w0 M0 => ?_;refine qb ?_;refine qa [.p] ?_;refine sa rfl rfl ?_;refine qc ?_;refine qb ?_;refine qb ?_;refine qa [.p, .p, .p, .p, .p, .p, .p, .p] ?_;refine sm rfl rfl ?_;refine su (vw rfl Tryz.underlying9 rfl) rfl ?_;refine su (jr rfl rfl rfl) rfl ?_;refine sm rfl rfl ?_;refine sg rfl rfl (fun h => qk rfl rfl) rfl ?_;refine sg rfl rfl (fun h => vw rfl Tryz.underlying9 (gd h rfl)) rfl ?_;refine sg rfl rfl (fun h => ja rfl (gd h rfl) rfl) rfl ?_;refine su (jl rfl rfl rfl rfl) rfl ?_;refine qc ?_;refine ql _ rfl (fun h1 => ?_) (fun h1 => ?_)
 ·replace hR := zk hR h1;refine qb ?_;refine qa [.p] ?_;refine sa rfl rfl ?_;refine qc ?_;refine qo ?_;subst hR;exact zb rfl (rv_g rfl)
 ·replace h1 : ((decide ((ByteArray.size a0 : Int) = 0)) || (decide (24 < (ByteArray.size a0 : Int)))) = false := h1;replace hR := zl hR h1;(try simp only [bB] at h1);refine qn ?_;refine qb ?_;refine qb ?_;refine qa [.p] ?_;refine sa rfl rfl ?_;refine qc ?_;refine qq ?_;refine zh (γ := Nat × (List UInt8)) (fun g => ([(0, .g (G.str a0)), (3, .g (G.int ((g.1 : Nat) : Int)))], [])) (fun g => ((ByteArray.data a0).toList).drop g.1 = g.2 ∧ qiw  g.2 g.1 = R) (fun g => List.length g.2) ⟨rfl, (0, ((ByteArray.data a0).toList)), ⟨rfl, rfl, trivial⟩, trivial, rfl, ⟨rfl, (by exact hR)⟩, trivial⟩ ?_
  ·rintro ⟨k2, t4⟩ ⟨hd, hR⟩;replace hd : ((ByteArray.data a0).toList).drop k2 = t4 := hd;replace hR : qiw  t4 k2 = R := hR;refine qb ?_;refine qb ?_;refine qa [.p, .p, .p, .p] ?_;refine sm rfl rfl ?_;refine sm rfl rfl ?_;refine su (vw rfl Tryz.underlying9 rfl) rfl ?_;refine su (zg rfl rfl rfl) rfl ?_;refine qc ?_;refine ql _ rfl (fun h2 => ?_) (fun h2 => ?_)
   ·replace h2 : (decide (((k2 : Nat) : Int) < (ByteArray.size a0 : Int))) = true := h2;obtain ⟨y3, t4, rfl, hx1, hd⟩ := qtv hd (decT h2);replace h2 := decT h2;rw [qiw] at hR;(try dsimp only at hR);refine qn ?_;refine qb ?_;refine qq ?_;refine qb ?_;refine qa [.p, .p, .p, .p] ?_;refine sm rfl rfl ?_;refine sm rfl rfl ?_;refine su (qtt (b := y3) rfl Tryz.underlying9 rfl rfl (Int.natCast_nonneg _) hx1) rfl ?_;refine sa rfl rfl ?_;refine qc ?_;refine qb ?_;refine qa [.p, .p, .p, .p, .p, .p, .p, .p, .p, .p, .p, .p, .p, .p, .p] ?_;refine sm rfl rfl ?_;refine su (wj rfl rfl rfl) rfl ?_;refine sm rfl rfl ?_;refine sg rfl rfl (fun h => qk rfl rfl) rfl ?_;refine sg rfl rfl (fun h => vp rfl (gd h rfl) rfl) rfl ?_;refine su (zx rfl rfl rfl rfl) rfl ?_;refine sm rfl rfl ?_;refine sg rfl rfl (fun h => qk rfl rfl) rfl ?_;refine sg rfl rfl (fun h => wj rfl (gd h rfl) rfl) rfl ?_;refine sg rfl rfl (fun h => qk rfl (gd h rfl)) rfl ?_;refine st_g rfl rfl rfl (jz _ _ _) (fun h => qk rfl rfl) rfl ?_;refine st_g rfl rfl rfl (jz _ _ _) (fun h => vp rfl (gd h rfl) rfl) rfl ?_;refine sg rfl rfl (fun h => zx rfl (gd h rfl) rfl (gd2 h rfl)) rfl ?_;refine su (jl rfl rfl rfl rfl) rfl ?_;refine sa rfl rfl ?_;refine qc ?_;refine qb ?_;refine qa [.p, .p, .p, .p, .p, .p, .p, .p, .p, .p, .p, .p, .p, .p, .p, .p, .p, .p] ?_;refine sm rfl rfl ?_;refine su (jk rfl rfl) rfl ?_;refine sm rfl rfl ?_;refine sg rfl rfl (fun h => qk rfl rfl) rfl ?_;refine sg rfl rfl (fun h => jr rfl (gd h rfl) rfl) rfl ?_;refine sg rfl rfl (fun h => qk rfl (gd h rfl)) rfl ?_;refine st_g rfl rfl rfl (jz _ _ _) (fun h => qk rfl rfl) rfl ?_;refine st_g rfl rfl rfl (jz _ _ _) (fun h => zy rfl (gd h rfl) rfl) rfl ?_;refine st_g rfl rfl rfl (jz _ _ _) (fun h => qk rfl (gd h rfl)) rfl ?_;refine st_g rfl rfl rfl (jz _ _ _) (fun h => qk rfl rfl) rfl ?_;refine st_g rfl rfl rfl (jz _ _ _) (fun h => zg rfl (gd h rfl) rfl) rfl ?_;refine st_g rfl rfl rfl (jz _ _ _) (fun h => qk rfl (gd h rfl)) rfl ?_;refine st_g rfl rfl rfl (jz _ _ _) (fun h => qk rfl rfl) rfl ?_;refine st_g rfl rfl rfl (jz _ _ _) (fun h => ja rfl (gd h rfl) rfl) rfl ?_;refine st_g rfl rfl rfl (jz _ _ _) (fun h => jl rfl (gd h rfl) rfl (gd2 h rfl)) rfl ?_;refine st_g rfl rfl rfl (jz _ _ _) (fun h => zx rfl (gd h rfl) rfl (gd2 h rfl)) rfl ?_;refine sg rfl rfl (fun h => jl rfl (gd h rfl) rfl (gd2 h rfl)) rfl ?_;refine su (zx rfl rfl rfl rfl) rfl ?_;refine qc ?_;refine ql _ rfl (fun h4 => ?_) (fun h4 => ?_)
    ·replace hR := zk hR h4;refine qb ?_;refine qa [.p] ?_;refine sa rfl rfl ?_;refine qc ?_;refine qo ?_;subst hR;exact zb rfl (rv_g rfl)
    ·replace h4 : ((!(((decide (97 ≤ (y3.toNat : Int))) && (decide ((y3.toNat : Int) ≤ 122))) || ((decide (65 ≤ (y3.toNat : Int))) && (decide ((y3.toNat : Int) ≤ 90))))) && ((decide (((k2 : Nat) : Int) = 0)) || ((decide ((y3.toNat : Int) ≠ 95)) && ((decide ((y3.toNat : Int) < 48)) || (decide (57 < (y3.toNat : Int))))))) = false := h4;replace hR := zl hR h4;(try simp only [bB] at h4);refine qn ?_;refine qa [.p, .p, .p] ?_;refine sm rfl rfl ?_;refine su (zn rfl rfl rfl iE) rfl ?_;refine sa rfl rfl ?_;refine qc ?_;exact ⟨rfl, (k2 + 1, t4), ⟨rfl, rfl, trivial⟩, trivial, rfl, ⟨hd, hR⟩, by simp⟩
   ·replace h2 : (decide (((k2 : Nat) : Int) < (ByteArray.size a0 : Int))) = false := h2;obtain rfl := qwc hd (decF h2);rw [qiw] at hR;refine zt ?_;refine qb ?_;refine qa [.p] ?_;refine sa rfl rfl ?_;refine qc ?_;refine qo ?_;subst hR;exact zb rfl (rv_g rfl)
def qee  : List (Int × Int) → Bool
 | [] => true
 | y2 :: t3 => (bif (!(((decide (65 ≤ y2.2)) && (decide (y2.2 ≤ 90))) || ((decide (97 ≤ y2.2)) && (decide (y2.2 ≤ 122))))) && ((decide (y2.1 = 0)) || ((decide (y2.2 ≠ 95)) && ((decide (y2.2 < 48)) || (decide (57 < y2.2))))) then false else qee t3)
def s147 (a0 : ByteArray) : Bool :=
 (bif (decide ((ByteArray.size a0 : Int) = 0)) || (decide (24 < (ByteArray.size a0 : Int))) then false else qee (qy5 a0))
theorem c147 {g : GL} (a0 : ByteArray)    : Con (EG g) 99 [G.str a0] (G.bool (s147 a0)) := by
 generalize hR : s147 a0 = R;unfold s147 at hR;refine qm Tryz.func99 rfl rfl fun w0 M0 => ?_;refine qb ?_;refine qa [.p] ?_;refine sa rfl rfl ?_;refine qc ?_;refine qb ?_;refine qb ?_;refine qa [.p, .p, .p, .p, .p, .p, .p, .p] ?_;refine sm rfl rfl ?_;refine su (vw rfl Tryz.underlying9 rfl) rfl ?_;refine su (jr rfl rfl rfl) rfl ?_;refine sm rfl rfl ?_;refine sg rfl rfl (fun h => qk rfl rfl) rfl ?_;refine sg rfl rfl (fun h => vw rfl Tryz.underlying9 (gd h rfl)) rfl ?_;refine sg rfl rfl (fun h => ja rfl (gd h rfl) rfl) rfl ?_;refine su (jl rfl rfl rfl rfl) rfl ?_;refine qc ?_;refine ql _ rfl (fun h1 => ?_) (fun h1 => ?_)
 ·replace hR := zk hR h1;refine qb ?_;refine qa [.p] ?_;refine sa rfl rfl ?_;refine qc ?_;refine qo ?_;subst hR;exact zb rfl (rv_g rfl)
 ·replace h1 : ((decide ((ByteArray.size a0 : Int) = 0)) || (decide (24 < (ByteArray.size a0 : Int)))) = false := h1;replace hR := zl hR h1;(try simp only [bB] at h1);refine qn ?_;refine qb ?_;refine qb ?_;refine qa [.p, .w] ?_;refine sm rfl rfl ?_;refine sw (qtu 15 rfl Tryz.underlying9 rfl rfl) rfl ?_;refine qc ?_;refine qq ?_;refine zh (γ := Nat × (List (Int × Int))) (fun g => ([(15, .ptr 15 0)], [(15, .it a0 g.1)])) (fun g => qh2 a0 g.1 g.2 ∧ qee g.2 = R) (fun g => List.length g.2) ⟨rfl, (0, qy5 a0), ⟨rfl, trivial⟩, ⟨rfl, trivial⟩, rfl, ⟨qnb _, hR⟩, trivial⟩ ?_
  ·rintro ⟨p1, t3⟩ ⟨hP, hR⟩;replace hP : qh2 a0 p1 t3 := hP;replace hR : qee t3 = R := hR
   cases t3 with
   | nil =>
    rw [qee] at hR;refine qb ?_;refine qa [.r, .p] ?_;refine sr (qv9 rfl rfl rfl (qqt hP)) rfl ?_;refine su (qt rfl rfl rfl) rfl ?_;refine qc ?_;refine qb ?_;refine ql _ rfl (fun h2 => ?_) (fun h2 => ?_)
    ·exact Bool.noConfusion h2
    ·refine zt ?_;refine qb ?_;refine qa [.p] ?_;refine sa rfl rfl ?_;refine qc ?_;refine qo ?_;subst hR;exact zb rfl (rv_g rfl)
   | cons y2 t3 =>
    obtain ⟨hlt, hy, hP⟩ := qpc hP;rw [qee] at hR;refine qb ?_;refine qa [.w, .p] ?_;refine sw (qwd (y := y2) rfl rfl rfl hlt hy) rfl ?_;refine su (qt rfl rfl rfl) rfl ?_;refine qc ?_;refine qb ?_;refine ql _ rfl (fun h3 => ?_) (fun h3 => ?_)
    ·refine qn ?_;refine qq ?_;refine qb ?_;refine qa [.p, .p, .p, .p] ?_;refine su (qt rfl rfl rfl) rfl ?_;refine su (qt rfl rfl rfl) rfl ?_;refine sa rfl rfl ?_;refine sa rfl rfl ?_;refine qc ?_;refine qb ?_;refine qa [.p, .p, .p, .p, .p, .p, .p, .p, .p, .p, .p, .p, .p, .p, .p] ?_;refine sm rfl rfl ?_;refine su (wj rfl rfl rfl) rfl ?_;refine sm rfl rfl ?_;refine sg rfl rfl (fun h => qk rfl rfl) rfl ?_;refine sg rfl rfl (fun h => vp rfl (gd h rfl) rfl) rfl ?_;refine su (zx rfl rfl rfl rfl) rfl ?_;refine sm rfl rfl ?_;refine sg rfl rfl (fun h => qk rfl rfl) rfl ?_;refine sg rfl rfl (fun h => wj rfl (gd h rfl) rfl) rfl ?_;refine sg rfl rfl (fun h => qk rfl (gd h rfl)) rfl ?_;refine st_g rfl rfl rfl (jz _ _ _) (fun h => qk rfl rfl) rfl ?_;refine st_g rfl rfl rfl (jz _ _ _) (fun h => vp rfl (gd h rfl) rfl) rfl ?_;refine sg rfl rfl (fun h => zx rfl (gd h rfl) rfl (gd2 h rfl)) rfl ?_;refine su (jl rfl rfl rfl rfl) rfl ?_;refine sa rfl rfl ?_;refine qc ?_;refine qb ?_;refine qa [.p, .p, .p, .p, .p, .p, .p, .p, .p, .p, .p, .p, .p, .p, .p, .p, .p, .p] ?_;refine sm rfl rfl ?_;refine su (jk rfl rfl) rfl ?_;refine sm rfl rfl ?_;refine sg rfl rfl (fun h => qk rfl rfl) rfl ?_;refine sg rfl rfl (fun h => jr rfl (gd h rfl) rfl) rfl ?_;refine sg rfl rfl (fun h => qk rfl (gd h rfl)) rfl ?_;refine st_g rfl rfl rfl (jz _ _ _) (fun h => qk rfl rfl) rfl ?_;refine st_g rfl rfl rfl (jz _ _ _) (fun h => zy rfl (gd h rfl) rfl) rfl ?_;refine st_g rfl rfl rfl (jz _ _ _) (fun h => qk rfl (gd h rfl)) rfl ?_;refine st_g rfl rfl rfl (jz _ _ _) (fun h => qk rfl rfl) rfl ?_;refine st_g rfl rfl rfl (jz _ _ _) (fun h => zg rfl (gd h rfl) rfl) rfl ?_;refine st_g rfl rfl rfl (jz _ _ _) (fun h => qk rfl (gd h rfl)) rfl ?_;refine st_g rfl rfl rfl (jz _ _ _) (fun h => qk rfl rfl) rfl ?_;refine st_g rfl rfl rfl (jz _ _ _) (fun h => ja rfl (gd h rfl) rfl) rfl ?_;refine st_g rfl rfl rfl (jz _ _ _) (fun h => jl rfl (gd h rfl) rfl (gd2 h rfl)) rfl ?_;refine st_g rfl rfl rfl (jz _ _ _) (fun h => zx rfl (gd h rfl) rfl (gd2 h rfl)) rfl ?_;refine sg rfl rfl (fun h => jl rfl (gd h rfl) rfl (gd2 h rfl)) rfl ?_;refine su (zx rfl rfl rfl rfl) rfl ?_;refine qc ?_;refine ql _ rfl (fun h4 => ?_) (fun h4 => ?_)
     ·replace hR := zk hR h4;refine qb ?_;refine qa [.p] ?_;refine sa rfl rfl ?_;refine qc ?_;refine qo ?_;subst hR;exact zb rfl (rv_g rfl)
     ·replace h4 : ((!(((decide (65 ≤ y2.2)) && (decide (y2.2 ≤ 90))) || ((decide (97 ≤ y2.2)) && (decide (y2.2 ≤ 122))))) && ((decide (y2.1 = 0)) || ((decide (y2.2 ≠ 95)) && ((decide (y2.2 < 48)) || (decide (57 < y2.2)))))) = false := h4;replace hR := zl hR h4;(try simp only [bB] at h4);refine qn ?_;exact ⟨rfl, ((p1 + (Utf8.decode a0 p1).2), t3), ⟨rfl, trivial⟩, ⟨rfl, trivial⟩, rfl, ⟨hP, hR⟩, by simp⟩
    ·exact Bool.noConfusion h3
def s40 (a0 : S45) : Int :=
 (bif (decide ((s109 a0.fFrom) ≠ 0)) || (decide ((s109 a0.fTo) ≠ 0)) then 3 else (bif decide (a0.fTo < a0.fFrom) then 11 else (bif decide (400 < IntKind.i64.wrap (a0.fTo - a0.fFrom)) then 4 else (s90 a0.Days 1 127))))
theorem c40 {g : GL} (a0 : S45)    : Con (EG g) 128 [G.agg (S45.c a0)] (G.int (s40 a0)) := by
 generalize hR : s40 a0 = R;unfold s40 at hR;refine qm Tryz.func128 rfl rfl fun w0 M0 => ?_;refine qb ?_;refine qa [.p, .p] ?_;refine su (zi rfl rfl) rfl ?_;refine sa rfl rfl ?_;refine qc ?_;refine qb ?_;refine qb ?_;refine qa [.p, .p, .p, .p, .p, .p, .p, .p, .p, .p] ?_;refine su (qd rfl qck rfl) rfl ?_;refine su (qg rfl ty3 rfl) rfl ?_;refine su (qf rfl K109 rfl (c109 a0.fFrom) (qe rfl qj)) rfl ?_;refine su (zy rfl rfl rfl) rfl ?_;refine sm rfl rfl ?_;refine sg rfl rfl (fun h => qd rfl qbh rfl) rfl ?_;refine sg rfl rfl (fun h => qg rfl ty3 (gd h rfl)) rfl ?_;refine sg rfl rfl (fun h => qf rfl K109 rfl (c109 a0.fTo) (qe (gd h rfl) qj)) rfl ?_;refine sg rfl rfl (fun h => zy rfl (gd h rfl) rfl) rfl ?_;refine su (jl rfl rfl rfl rfl) rfl ?_;refine qc ?_;refine ql _ rfl (fun h1 => ?_) (fun h1 => ?_)
 ·replace hR := zk hR h1;refine qb ?_;refine qa [.p] ?_;refine sa rfl rfl ?_;refine qc ?_;refine qo ?_;subst hR;exact zb rfl (rv_g rfl)
 ·replace h1 : ((decide ((s109 a0.fFrom) ≠ 0)) || (decide ((s109 a0.fTo) ≠ 0))) = false := h1;replace hR := zl hR h1;(try simp only [bB] at h1);refine qn ?_;refine qb ?_;refine qb ?_;refine qa [.p, .p, .p, .p, .p] ?_;refine su (qd rfl qbh rfl) rfl ?_;refine su (qg rfl ty3 rfl) rfl ?_;refine su (qd rfl qck rfl) rfl ?_;refine su (qg rfl ty3 rfl) rfl ?_;refine su (zg rfl rfl rfl) rfl ?_;refine qc ?_;refine ql _ rfl (fun h2 => ?_) (fun h2 => ?_)
  ·replace hR := zk hR h2;refine qb ?_;refine qa [.p] ?_;refine sa rfl rfl ?_;refine qc ?_;refine qo ?_;subst hR;exact zb rfl (rv_g rfl)
  ·replace h2 : (decide (a0.fTo < a0.fFrom)) = false := h2;replace hR := zl hR h2;(try simp only [bB] at h2);refine qn ?_;refine qb ?_;refine qb ?_;refine qa [.p, .p, .p, .p, .p, .p] ?_;refine su (qd rfl qbh rfl) rfl ?_;refine su (qg rfl ty3 rfl) rfl ?_;refine su (qd rfl qck rfl) rfl ?_;refine su (qg rfl ty3 rfl) rfl ?_;refine su (kw rfl rfl rfl) rfl ?_;refine su (ja rfl rfl rfl) rfl ?_;refine qc ?_;refine ql _ rfl (fun h3 => ?_) (fun h3 => ?_)
   ·replace hR := zk hR h3;refine qb ?_;refine qa [.p] ?_;refine sa rfl rfl ?_;refine qc ?_;refine qo ?_;subst hR;exact zb rfl (rv_g rfl)
   ·replace hR := zl hR h3;refine qn ?_;refine qb ?_;refine qa [.p, .p, .p, .p] ?_;refine su (qd rfl qr5 rfl) rfl ?_;refine su (qg rfl ty3 rfl) rfl ?_;refine su (qf rfl K90 rfl (c90 a0.Days 1 127) (qe rfl (qe rfl (qe rfl qj)))) rfl ?_;refine sa rfl rfl ?_;refine qc ?_;refine qo ?_;subst hR;exact zb rfl (rv_g rfl)
def qg9 (a0 : ByteArray) : Bool :=
 (decide (a0 = (⟨#[]⟩))) || (s91 a0)
theorem q5j {g : GL} (a0 : ByteArray)    : Con (EG g) 194 [G.str a0] (G.bool (qg9 a0)) := by
 generalize hR : qg9 a0 = R;unfold qg9 at hR;refine qm Tryz.func194 rfl rfl fun w0 M0 => ?_;refine qb ?_;refine qa [.p] ?_;refine sa rfl rfl ?_;refine qc ?_;refine qb ?_;refine qa [.p, .p, .p, .p, .p, .p, .p] ?_;refine sm rfl rfl ?_;refine su (vz rfl rfl rfl) rfl ?_;refine sm rfl rfl ?_;refine sg rfl rfl (fun h => qk rfl rfl) rfl ?_;refine sg rfl rfl (fun h => qf rfl K91 rfl (c91 a0) (qe (gd h rfl) qj)) rfl ?_;refine su (jl rfl rfl rfl rfl) rfl ?_;refine sa rfl rfl ?_;refine qc ?_;refine qo ?_;subst hR;exact zb rfl (rv_g rfl)
def qnc (a0 : S115) : Int :=
 (bif ((((!(s91 a0.Name)) || (!(s91 a0.Carrier))) || (!(s91 a0.Partner))) || (!(qg9 a0.Terminal))) || (!(qg9 a0.Link)) then 8 else (bif (!decide (a0.Kind = (⟨#[65]⟩))) && (!decide (a0.Kind = (⟨#[68]⟩))) then 13 else (bif decide (a0.Link = a0.Name) then 32 else (bif decide ((s40 a0.Period) ≠ 0) then (s40 a0.Period) else (s89 [(s90 a0.Minute 0 1439), (s90 a0.Seats 0 999), (s90 a0.Size 1 9), (s90 a0.Noise 0 99)])))))
theorem q8l {g : GL} (a0 : S115)    : Con (EG g) 178 [G.agg (S115.c a0)] (G.int (qnc a0)) := by
 generalize hR : qnc a0 = R;unfold qnc at hR;refine qm Tryz.func178 rfl rfl fun w0 M0 => ?_;refine qb ?_;refine qa [.p, .p] ?_;refine su (zi rfl rfl) rfl ?_;refine sa rfl rfl ?_;refine qc ?_;refine qb ?_;refine qb ?_;refine qa [.p, .p, .p, .p, .p, .p, .p, .p, .p, .p, .p, .p, .p, .p, .p, .p, .p, .p, .p, .p, .p, .p, .p, .p, .p, .p, .p, .p] ?_;refine su (qd rfl kr rfl) rfl ?_;refine su (qg rfl ty9 rfl) rfl ?_;refine su (qf rfl K91 rfl (c91 a0.Name) (qe rfl qj)) rfl ?_;refine su (jk rfl rfl) rfl ?_;refine sm rfl rfl ?_;refine sg rfl rfl (fun h => qd rfl qh3 rfl) rfl ?_;refine sg rfl rfl (fun h => qg rfl ty9 (gd h rfl)) rfl ?_;refine sg rfl rfl (fun h => qf rfl K91 rfl (c91 a0.Carrier) (qe (gd h rfl) qj)) rfl ?_;refine sg rfl rfl (fun h => jk rfl (gd h rfl)) rfl ?_;refine su (jl rfl rfl rfl rfl) rfl ?_;refine sm rfl rfl ?_;refine sg rfl rfl (fun h => qd rfl qqu rfl) rfl ?_;refine sg rfl rfl (fun h => qg rfl ty9 (gd h rfl)) rfl ?_;refine sg rfl rfl (fun h => qf rfl K91 rfl (c91 a0.Partner) (qe (gd h rfl) qj)) rfl ?_;refine sg rfl rfl (fun h => jk rfl (gd h rfl)) rfl ?_;refine su (jl rfl rfl rfl rfl) rfl ?_;refine sm rfl rfl ?_;refine sg rfl rfl (fun h => qd rfl qh4 rfl) rfl ?_;refine sg rfl rfl (fun h => qg rfl ty9 (gd h rfl)) rfl ?_;refine sg rfl rfl (fun h => qf rfl q5k rfl (q5j a0.Terminal) (qe (gd h rfl) qj)) rfl ?_;refine sg rfl rfl (fun h => jk rfl (gd h rfl)) rfl ?_;refine su (jl rfl rfl rfl rfl) rfl ?_;refine sm rfl rfl ?_;refine sg rfl rfl (fun h => qd rfl qkn rfl) rfl ?_;refine sg rfl rfl (fun h => qg rfl ty9 (gd h rfl)) rfl ?_;refine sg rfl rfl (fun h => qf rfl q5k rfl (q5j a0.Link) (qe (gd h rfl) qj)) rfl ?_;refine sg rfl rfl (fun h => jk rfl (gd h rfl)) rfl ?_;refine su (jl rfl rfl rfl rfl) rfl ?_;refine qc ?_;refine ql _ rfl (fun h1 => ?_) (fun h1 => ?_)
 ·replace hR := zk hR h1;refine qb ?_;refine qa [.p] ?_;refine sa rfl rfl ?_;refine qc ?_;refine qo ?_;subst hR;exact zb rfl (rv_g rfl)
 ·replace h1 : (((((!(s91 a0.Name)) || (!(s91 a0.Carrier))) || (!(s91 a0.Partner))) || (!(qg9 a0.Terminal))) || (!(qg9 a0.Link))) = false := h1;replace hR := zl hR h1;(try simp only [bB] at h1);refine qn ?_;refine qb ?_;refine qb ?_;refine qa [.p, .p, .p, .p, .p, .p, .p, .p] ?_;refine su (qd rfl qfs rfl) rfl ?_;refine su (qg rfl ty9 rfl) rfl ?_;refine su (qbj rfl rfl rfl) rfl ?_;refine sm rfl rfl ?_;refine sg rfl rfl (fun h => qd rfl qfs rfl) rfl ?_;refine sg rfl rfl (fun h => qg rfl ty9 (gd h rfl)) rfl ?_;refine sg rfl rfl (fun h => qbj rfl (gd h rfl) rfl) rfl ?_;refine su (zx rfl rfl rfl rfl) rfl ?_;refine qc ?_;refine ql _ rfl (fun h2 => ?_) (fun h2 => ?_)
  ·replace hR := zk hR h2;refine qb ?_;refine qa [.p] ?_;refine sa rfl rfl ?_;refine qc ?_;refine qo ?_;subst hR;exact zb rfl (rv_g rfl)
  ·replace h2 : ((!decide (a0.Kind = (⟨#[65]⟩))) && (!decide (a0.Kind = (⟨#[68]⟩)))) = false := h2;replace hR := zl hR h2;(try simp only [bB] at h2);refine qn ?_;refine qb ?_;refine qb ?_;refine qa [.p, .p, .p, .p, .p] ?_;refine su (qd rfl qkn rfl) rfl ?_;refine su (qg rfl ty9 rfl) rfl ?_;refine su (qd rfl kr rfl) rfl ?_;refine su (qg rfl ty9 rfl) rfl ?_;refine su (vz rfl rfl rfl) rfl ?_;refine qc ?_;refine ql _ rfl (fun h3 => ?_) (fun h3 => ?_)
   ·replace hR := zk hR h3;refine qb ?_;refine qa [.p] ?_;refine sa rfl rfl ?_;refine qc ?_;refine qo ?_;subst hR;exact zb rfl (rv_g rfl)
   ·replace h3 : (decide (a0.Link = a0.Name)) = false := h3;replace hR := zl hR h3;(try simp only [bB] at h3);refine qn ?_;refine qb ?_;refine qa [.p, .p, .p, .p] ?_;refine su (qd rfl wt rfl) rfl ?_;refine su (qp rfl ty46 rfl rfl rfl) rfl ?_;refine su (qf rfl K40 rfl (c40 a0.Period) (qe rfl qj)) rfl ?_;refine sa rfl rfl ?_;refine qc ?_;refine qb ?_;refine qb ?_;refine qa [.p, .p] ?_;refine sm rfl rfl ?_;refine su (zy rfl rfl rfl) rfl ?_;refine qc ?_;refine ql _ rfl (fun h4 => ?_) (fun h4 => ?_)
    ·replace hR := zk hR h4;refine qb ?_;refine qa [.p, .p] ?_;refine sm rfl rfl ?_;refine sa rfl rfl ?_;refine qc ?_;refine qo ?_;subst hR;exact zb rfl (rv_g rfl)
    ·replace h4 : (decide ((s40 a0.Period) ≠ 0)) = false := h4;replace hR := zl hR h4;(try simp only [bB] at h4);refine qn ?_;refine qb ?_;refine zw [.p, .p, .p, .p, .p, .p, .p, .p, .p, .p, .p, .p, .p, .p, .p] (by kernel_rfl) ?_;refine su (qd rfl qko rfl) rfl ?_;refine su (qg rfl ty3 rfl) rfl ?_;refine su (qf rfl K90 rfl (c90 a0.Minute 0 1439) (qe rfl (qe rfl (qe rfl qj)))) rfl ?_;refine su (qd rfl qnd rfl) rfl ?_;refine su (qg rfl ty3 rfl) rfl ?_;refine su (qf rfl K90 rfl (c90 a0.Seats 0 999) (qe rfl (qe rfl (qe rfl qj)))) rfl ?_;refine su (qd rfl qne rfl) rfl ?_;refine su (qg rfl ty3 rfl) rfl ?_;refine su (qf rfl K90 rfl (c90 a0.Size 1 9) (qe rfl (qe rfl (qe rfl qj)))) rfl ?_;refine su (qd rfl qjj rfl) rfl ?_;refine su (qg rfl ty3 rfl) rfl ?_;refine su (qf rfl K90 rfl (c90 a0.Noise 0 99) (qe rfl (qe rfl (qe rfl qj)))) rfl ?_;refine su (qv rfl Tryz.underlying38 ty3 z3 rfl (qw rfl (qw rfl (qw rfl (qw rfl jo)))) rfl (by simp []) (by decide)) rfl ?_;refine su (qf rfl K89 rfl (c89 [(s90 a0.Minute 0 1439), (s90 a0.Seats 0 999), (s90 a0.Size 1 9), (s90 a0.Noise 0 99)]) (qe rfl qj)) rfl ?_;refine sa rfl rfl ?_;refine qc ?_;refine qo ?_;subst hR;exact zb rfl (rv_g rfl)
def s102 (a0 : S45) : Int :=
 (bif decide ((s152 [(s153 a0.fFrom), (s153 a0.fTo)]) ≠ 0) then (s152 [(s153 a0.fFrom), (s153 a0.fTo)]) else (s152 [(s154 (decide (a0.fTo < a0.fFrom)) 11), (s154 (decide (400 < IntKind.i64.wrap (a0.fTo - a0.fFrom))) 4), (s155 a0.Days 1 127)]))
theorem c102 {g : GL} (a0 : S45)    : Con (EG g) 48 [G.agg (S45.c a0)] (G.int (s102 a0)) := by
 generalize hR : s102 a0 = R;unfold s102 at hR;refine qm Tryz.func48 rfl rfl fun w0 M0 => ?_;refine qb ?_;refine qa [.p, .p] ?_;refine su (zi rfl rfl) rfl ?_;refine sa rfl rfl ?_;refine qc ?_;refine qb ?_;refine qb ?_;refine zw [.p, .p, .p, .p, .p, .p, .p, .p, .p] (by kernel_rfl) ?_;refine su (qd rfl qck rfl) rfl ?_;refine su (qg rfl ty3 rfl) rfl ?_;refine su (qf rfl K153 rfl (c153 a0.fFrom) (qe rfl qj)) rfl ?_;refine su (qd rfl qbh rfl) rfl ?_;refine su (qg rfl ty3 rfl) rfl ?_;refine su (qf rfl K153 rfl (c153 a0.fTo) (qe rfl qj)) rfl ?_;refine su (qv rfl Tryz.underlying170 ty37 z37 rfl (qw rfl (qw rfl jo)) rfl (by simp []) (by decide)) rfl ?_;refine su (qf rfl K152 rfl (c152 [(s153 a0.fFrom), (s153 a0.fTo)]) (qe rfl qj)) rfl ?_;refine sa rfl rfl ?_;refine qc ?_;refine qb ?_;refine qa [.p, .p] ?_;refine sm rfl rfl ?_;refine su (zy rfl rfl rfl) rfl ?_;refine qc ?_;refine ql _ rfl (fun h1 => ?_) (fun h1 => ?_)
 ·replace hR := zk hR h1;refine qb ?_;refine qa [.p, .p] ?_;refine sm rfl rfl ?_;refine sa rfl rfl ?_;refine qc ?_;refine qo ?_;subst hR;exact zb rfl (rv_g rfl)
 ·replace h1 : (decide ((s152 [(s153 a0.fFrom), (s153 a0.fTo)]) ≠ 0)) = false := h1;replace hR := zl hR h1;(try simp only [bB] at h1);refine qn ?_;refine qb ?_;refine zw [.p, .p, .p, .p, .p, .p, .p, .p, .p, .p, .p, .p, .p, .p, .p, .p, .p, .p, .p] (by kernel_rfl) ?_;refine su (qd rfl qbh rfl) rfl ?_;refine su (qg rfl ty3 rfl) rfl ?_;refine su (qd rfl qck rfl) rfl ?_;refine su (qg rfl ty3 rfl) rfl ?_;refine su (zg rfl rfl rfl) rfl ?_;refine su (qf rfl K154 rfl (c154 (decide (a0.fTo < a0.fFrom)) 11) (qe rfl (qe rfl qj))) rfl ?_;refine su (qd rfl qbh rfl) rfl ?_;refine su (qg rfl ty3 rfl) rfl ?_;refine su (qd rfl qck rfl) rfl ?_;refine su (qg rfl ty3 rfl) rfl ?_;refine su (kw rfl rfl rfl) rfl ?_;refine su (ja rfl rfl rfl) rfl ?_;refine su (qf rfl K154 rfl (c154 (decide (400 < IntKind.i64.wrap (a0.fTo - a0.fFrom))) 4) (qe rfl (qe rfl qj))) rfl ?_;refine su (qd rfl qr5 rfl) rfl ?_;refine su (qg rfl ty3 rfl) rfl ?_;refine su (qf rfl K155 rfl (c155 a0.Days 1 127) (qe rfl (qe rfl (qe rfl qj)))) rfl ?_;refine su (qv rfl Tryz.underlying170 ty37 z37 rfl (qw rfl (qw rfl (qw rfl jo))) rfl (by simp []) (by decide)) rfl ?_;refine su (qf rfl K152 rfl (c152 [(s154 (decide (a0.fTo < a0.fFrom)) 11), (s154 (decide (400 < IntKind.i64.wrap (a0.fTo - a0.fFrom))) 4), (s155 a0.Days 1 127)]) (qe rfl qj)) rfl ?_;refine sa rfl rfl ?_;refine qc ?_;refine qo ?_;subst hR;exact zb rfl (rv_g rfl)
def s187 (a0 : Int) (a1 : Int) : Bool :=
 decide (andI (shrI a0 a1) 1 = 1)
theorem c187 {g : GL} (a0 : Int) (a1 : Int)  (hw : 0 ≤ a1)  : Con (EG g) 189 [G.int a0, G.int a1] (G.bool (s187 a0 a1)) := by
 generalize hR : s187 a0 a1 = R;unfold s187 at hR;refine qm Tryz.func189 rfl rfl fun w0 M0 => ?_;refine qb ?_;refine qa [.p] ?_;refine sa rfl rfl ?_;refine qc ?_;refine qb ?_;refine qa [.p, .p, .p, .p, .p, .p] ?_;refine sm rfl rfl ?_;refine sm rfl rfl ?_;refine su (q2p rfl rfl rfl (by omega)) rfl ?_;refine su (qyx rfl rfl rfl) rfl ?_;refine su (jr rfl rfl rfl) rfl ?_;refine sa rfl rfl ?_;refine qc ?_;refine qo ?_;subst hR;exact zb rfl (rv_g rfl)
def qkp (a0 : ByteArray) : Int :=
 (qh5 (!(s147 a0)) 8)
theorem q2w {g : GL} (a0 : ByteArray)    : Con (EG g) 183 [G.str a0] (G.int (qkp a0)) := by
 generalize hR : qkp a0 = R;unfold qkp at hR;refine qm Tryz.func183 rfl rfl fun w0 M0 => ?_;refine qb ?_;refine qa [.p] ?_;refine sa rfl rfl ?_;refine qc ?_;refine qb ?_;refine qa [.p, .p, .p, .p, .p] ?_;refine sm rfl rfl ?_;refine su (qf rfl K147 rfl (c147 a0) (qe rfl qj)) rfl ?_;refine su (jk rfl rfl) rfl ?_;refine su (qf rfl qwe rfl (qwf (!(s147 a0)) 8) (qe rfl (qe rfl qj))) rfl ?_;refine sa rfl rfl ?_;refine qc ?_;refine qo ?_;subst hR;exact zb rfl (rv_g rfl)
def qnf (a0 : ByteArray) : Int :=
 (qh5 ((!decide (a0 = (⟨#[]⟩))) && (!(s147 a0))) 8)
theorem q5l {g : GL} (a0 : ByteArray)    : Con (EG g) 184 [G.str a0] (G.int (qnf a0)) := by
 generalize hR : qnf a0 = R;unfold qnf at hR;refine qm Tryz.func184 rfl rfl fun w0 M0 => ?_;refine qb ?_;refine qa [.p] ?_;refine sa rfl rfl ?_;refine qc ?_;refine qb ?_;refine qa [.p, .p, .p, .p, .p, .p, .p, .p, .p] ?_;refine sm rfl rfl ?_;refine su (qbj rfl rfl rfl) rfl ?_;refine sm rfl rfl ?_;refine sg rfl rfl (fun h => qk rfl rfl) rfl ?_;refine sg rfl rfl (fun h => qf rfl K147 rfl (c147 a0) (qe (gd h rfl) qj)) rfl ?_;refine sg rfl rfl (fun h => jk rfl (gd h rfl)) rfl ?_;refine su (zx rfl rfl rfl rfl) rfl ?_;refine su (qf rfl qwe rfl (qwf ((!decide (a0 = (⟨#[]⟩))) && (!(s147 a0))) 8) (qe rfl (qe rfl qj))) rfl ?_;refine sa rfl rfl ?_;refine qc ?_;refine qo ?_;subst hR;exact zb rfl (rv_g rfl)
def qpd (a0 : ByteArray) : Bool :=
 (decide (a0 = (⟨#[65]⟩))) || (decide (a0 = (⟨#[68]⟩)))
theorem q8m {g : GL} (a0 : ByteArray)    : Con (EG g) 186 [G.str a0] (G.bool (qpd a0)) := by
 generalize hR : qpd a0 = R;unfold qpd at hR;refine qm Tryz.func186 rfl rfl fun w0 M0 => ?_;refine qb ?_;refine qa [.p] ?_;refine sa rfl rfl ?_;refine qc ?_;refine qb ?_;refine qa [.p, .p, .p, .p, .p, .p, .p] ?_;refine sm rfl rfl ?_;refine su (vz rfl rfl rfl) rfl ?_;refine sm rfl rfl ?_;refine sg rfl rfl (fun h => qk rfl rfl) rfl ?_;refine sg rfl rfl (fun h => vz rfl (gd h rfl) rfl) rfl ?_;refine su (jl rfl rfl rfl rfl) rfl ?_;refine sa rfl rfl ?_;refine qc ?_;refine qo ?_;subst hR;exact zb rfl (rv_g rfl)
def qpe (a0 : S115) : Int :=
 (qwg [(qkp a0.Name), (qkp a0.Carrier), (qkp a0.Partner), (qnf a0.Terminal), (qnf a0.Link), (qh5 (!(qpd a0.Kind)) 13), (qh5 (decide (a0.Link = a0.Name)) 32), (s102 a0.Period), (qh6 a0.Minute 0 1439), (qh6 a0.Seats 0 999), (qh6 a0.Size 1 9), (qh6 a0.Noise 0 99)])
theorem q8n {g : GL} (a0 : S115)    : Con (EG g) 153 [G.agg (S115.c a0)] (G.int (qpe a0)) := by
 generalize hR : qpe a0 = R;unfold qpe at hR;refine qm Tryz.func153 rfl rfl fun w0 M0 => ?_;refine qb ?_;refine qa [.p, .p] ?_;refine su (zi rfl rfl) rfl ?_;refine sa rfl rfl ?_;refine qc ?_;refine qb ?_;refine zw [.p, .p, .p, .p, .p, .p, .p, .p, .p, .p, .p, .p, .p, .p, .p, .p, .p, .p, .p, .p, .p, .p, .p, .p, .p, .p, .p, .p, .p, .p, .p, .p, .p, .p, .p, .p, .p, .p, .p, .p, .p, .p, .p, .p] (by kernel_rfl) ?_;refine su (qd rfl kr rfl) rfl ?_;refine su (qg rfl ty9 rfl) rfl ?_;refine su (qf rfl q2x rfl (q2w a0.Name) (qe rfl qj)) rfl ?_;refine su (qd rfl qh3 rfl) rfl ?_;refine su (qg rfl ty9 rfl) rfl ?_;refine su (qf rfl q2x rfl (q2w a0.Carrier) (qe rfl qj)) rfl ?_;refine su (qd rfl qqu rfl) rfl ?_;refine su (qg rfl ty9 rfl) rfl ?_;refine su (qf rfl q2x rfl (q2w a0.Partner) (qe rfl qj)) rfl ?_;refine su (qd rfl qh4 rfl) rfl ?_;refine su (qg rfl ty9 rfl) rfl ?_;refine su (qf rfl q5m rfl (q5l a0.Terminal) (qe rfl qj)) rfl ?_;refine su (qd rfl qkn rfl) rfl ?_;refine su (qg rfl ty9 rfl) rfl ?_;refine su (qf rfl q5m rfl (q5l a0.Link) (qe rfl qj)) rfl ?_;refine su (qd rfl qfs rfl) rfl ?_;refine su (qg rfl ty9 rfl) rfl ?_;refine su (qf rfl q8o rfl (q8m a0.Kind) (qe rfl qj)) rfl ?_;refine su (jk rfl rfl) rfl ?_;refine su (qf rfl qwe rfl (qwf (!(qpd a0.Kind)) 13) (qe rfl (qe rfl qj))) rfl ?_;refine su (qd rfl qkn rfl) rfl ?_;refine su (qg rfl ty9 rfl) rfl ?_;refine su (qd rfl kr rfl) rfl ?_;refine su (qg rfl ty9 rfl) rfl ?_;refine su (vz rfl rfl rfl) rfl ?_;refine su (qf rfl qwe rfl (qwf (decide (a0.Link = a0.Name)) 32) (qe rfl (qe rfl qj))) rfl ?_;refine su (qd rfl wt rfl) rfl ?_;refine su (qp rfl ty46 rfl rfl rfl) rfl ?_;refine su (qf rfl K102 rfl (c102 a0.Period) (qe rfl qj)) rfl ?_;refine su (qd rfl qko rfl) rfl ?_;refine su (qg rfl ty3 rfl) rfl ?_;refine su (qf rfl qy7 rfl (qy8 a0.Minute 0 1439) (qe rfl (qe rfl (qe rfl qj)))) rfl ?_;refine su (qd rfl qnd rfl) rfl ?_;refine su (qg rfl ty3 rfl) rfl ?_;refine su (qf rfl qy7 rfl (qy8 a0.Seats 0 999) (qe rfl (qe rfl (qe rfl qj)))) rfl ?_;refine su (qd rfl qne rfl) rfl ?_;refine su (qg rfl ty3 rfl) rfl ?_;refine su (qf rfl qy7 rfl (qy8 a0.Size 1 9) (qe rfl (qe rfl (qe rfl qj)))) rfl ?_;refine su (qd rfl qjj rfl) rfl ?_;refine su (qg rfl ty3 rfl) rfl ?_;refine su (qf rfl qy7 rfl (qy8 a0.Noise 0 99) (qe rfl (qe rfl (qe rfl qj)))) rfl ?_;refine su (qv rfl Tryz.underlying170 ty37 z37 rfl (qw rfl (qw rfl (qw rfl (qw rfl (qw rfl (qw rfl (qw rfl (qw rfl (qw rfl (qw rfl (qw rfl (qw rfl jo)))))))))))) rfl (by simp []) (by decide)) rfl ?_;refine su (qf rfl q8p rfl (q8q [(qkp a0.Name), (qkp a0.Carrier), (qkp a0.Partner), (qnf a0.Terminal), (qnf a0.Link), (qh5 (!(qpd a0.Kind)) 13), (qh5 (decide (a0.Link = a0.Name)) 32), (s102 a0.Period), (qh6 a0.Minute 0 1439), (qh6 a0.Seats 0 999), (qh6 a0.Size 1 9), (qh6 a0.Noise 0 99)]) (qe rfl qj)) rfl ?_;refine sa rfl rfl ?_;refine qc ?_;refine qo ?_;subst hR;exact zb rfl (rv_g rfl)
def qy9 (a0 : S115) : Bool :=
 (((((decide ((ByteArray.size a0.Name : Int) ≤ 40)) && (decide ((ByteArray.size a0.Carrier : Int) ≤ 40))) && (decide ((ByteArray.size a0.Kind : Int) ≤ 40))) && (decide ((ByteArray.size a0.Terminal : Int) ≤ 40))) && (decide ((ByteArray.size a0.Partner : Int) ≤ 40))) && (decide ((ByteArray.size a0.Link : Int) ≤ 40))
theorem q8r {g : GL} (a0 : S115)    : Con (EG g) 132 [G.agg (S115.c a0)] (G.bool (qy9 a0)) := by
 generalize hR : qy9 a0 = R;unfold qy9 at hR;refine qm Tryz.func132 rfl rfl fun w0 M0 => ?_;refine qb ?_;refine qa [.p, .p] ?_;refine su (zi rfl rfl) rfl ?_;refine sa rfl rfl ?_;refine qc ?_;refine qb ?_;refine qa [.p, .p, .p, .p, .p, .p, .p, .p, .p, .p, .p, .p, .p, .p, .p, .p, .p, .p, .p, .p, .p, .p, .p, .p, .p, .p, .p, .p, .p, .p, .p, .p, .p, .p, .p] ?_;refine su (qd rfl kr rfl) rfl ?_;refine su (qg rfl ty9 rfl) rfl ?_;refine su (vw rfl Tryz.underlying9 rfl) rfl ?_;refine su (vp rfl rfl rfl) rfl ?_;refine sm rfl rfl ?_;refine sg rfl rfl (fun h => qd rfl qh3 rfl) rfl ?_;refine sg rfl rfl (fun h => qg rfl ty9 (gd h rfl)) rfl ?_;refine sg rfl rfl (fun h => vw rfl Tryz.underlying9 (gd h rfl)) rfl ?_;refine sg rfl rfl (fun h => vp rfl (gd h rfl) rfl) rfl ?_;refine su (zx rfl rfl rfl rfl) rfl ?_;refine sm rfl rfl ?_;refine sg rfl rfl (fun h => qd rfl qfs rfl) rfl ?_;refine sg rfl rfl (fun h => qg rfl ty9 (gd h rfl)) rfl ?_;refine sg rfl rfl (fun h => vw rfl Tryz.underlying9 (gd h rfl)) rfl ?_;refine sg rfl rfl (fun h => vp rfl (gd h rfl) rfl) rfl ?_;refine su (zx rfl rfl rfl rfl) rfl ?_;refine sm rfl rfl ?_;refine sg rfl rfl (fun h => qd rfl qh4 rfl) rfl ?_;refine sg rfl rfl (fun h => qg rfl ty9 (gd h rfl)) rfl ?_;refine sg rfl rfl (fun h => vw rfl Tryz.underlying9 (gd h rfl)) rfl ?_;refine sg rfl rfl (fun h => vp rfl (gd h rfl) rfl) rfl ?_;refine su (zx rfl rfl rfl rfl) rfl ?_;refine sm rfl rfl ?_;refine sg rfl rfl (fun h => qd rfl qqu rfl) rfl ?_;refine sg rfl rfl (fun h => qg rfl ty9 (gd h rfl)) rfl ?_;refine sg rfl rfl (fun h => vw rfl Tryz.underlying9 (gd h rfl)) rfl ?_;refine sg rfl rfl (fun h => vp rfl (gd h rfl) rfl) rfl ?_;refine su (zx rfl rfl rfl rfl) rfl ?_;refine sm rfl rfl ?_;refine sg rfl rfl (fun h => qd rfl qkn rfl) rfl ?_;refine sg rfl rfl (fun h => qg rfl ty9 (gd h rfl)) rfl ?_;refine sg rfl rfl (fun h => vw rfl Tryz.underlying9 (gd h rfl)) rfl ?_;refine sg rfl rfl (fun h => vp rfl (gd h rfl) rfl) rfl ?_;refine su (zx rfl rfl rfl rfl) rfl ?_;refine sa rfl rfl ?_;refine qc ?_;refine qo ?_;subst hR;exact zb rfl (rv_g rfl)
def s180 (a0 : Int) : Int :=
 Int.tmod (IntKind.i64.wrap (a0 + 5)) 7
theorem c180 {g : GL} (a0 : Int)    : Con (EG g) 81 [G.int a0] (G.int (s180 a0)) := by
 generalize hR : s180 a0 = R;unfold s180 at hR;refine qm Tryz.func81 rfl rfl fun w0 M0 => ?_;refine qb ?_;refine qa [.p] ?_;refine sa rfl rfl ?_;refine qc ?_;refine qb ?_;refine qa [.p, .p, .p, .p] ?_;refine sm rfl rfl ?_;refine su (kp rfl rfl rfl) rfl ?_;refine su (qmp rfl rfl rfl (by decide)) rfl ?_;refine sa rfl rfl ?_;refine qc ?_;refine qo ?_;subst hR;exact zb rfl (rv_g rfl)
def qh7  : Nat → Int → Int → Bool
 | 0, x1, x2 => decide (Int.tmod x1 2 = 1)
 | k4 + 1, x1, x2 => qh7 k4 (IntKind.i64.wrap (Int.tdiv x1 2)) (x2 + 1)
def s192 (a0 : Int) (a1 : Int) : Bool :=
 qh7 ((a1 - 0).toNat) a0 0
theorem c192 {g : GL} (a0 : Int) (a1 : Int)  (hw : a1 ≤ 7)  : Con (EG g) 80 [G.int a0, G.int a1] (G.bool (s192 a0 a1)) := by
 generalize hR : s192 a0 a1 = R;unfold s192 at hR;refine qm Tryz.func80 rfl rfl fun w0 M0 => ?_;refine qb ?_;refine qa [.p] ?_;refine sa rfl rfl ?_;refine qc ?_;refine qb ?_;refine qb ?_;refine qa [.p] ?_;refine sa rfl rfl ?_;refine qc ?_;refine qq ?_;refine zh (γ := Nat × Int × Int) (fun g => ([(0, .g (G.int g.2.1)), (1, .g (G.int a1)), (5, .g (G.int g.2.2))], [])) (fun g => g.1 = (a1 - g.2.2).toNat ∧ 0 ≤ g.2.2 ∧ qh7 g.1 g.2.1 g.2.2 = R) (fun g => g.1) ⟨rfl, ((a1 - 0).toNat, a0, 0), ⟨rfl, rfl, rfl, trivial⟩, trivial, rfl, ⟨rfl, iD, (by exact hR)⟩, trivial⟩ ?_
 ·rintro ⟨k4, x1, x2⟩ ⟨hk1, iv1_0, hR⟩;replace hk1 : k4 = (a1 - x2).toNat := hk1;replace hR : qh7 k4 x1 x2 = R := hR;replace iv1_0 : 0 ≤ x2 := iv1_0;refine qb ?_;refine qb ?_;refine qa [.p, .p, .p] ?_;refine sm rfl rfl ?_;refine sm rfl rfl ?_;refine su (zg rfl rfl rfl) rfl ?_;refine qc ?_;refine ql _ rfl (fun h1 => ?_) (fun h1 => ?_)
  ·replace h1 : (decide (x2 < a1)) = true := h1;replace h1 := decT h1;obtain ⟨k4, rfl⟩ : ∃ m, k4 = m + 1 := ⟨k4 - 1, by omega⟩;rw [qh7] at hR;(try dsimp only at hR);refine qn ?_;refine qb ?_;refine qq ?_;refine qa [.p, .p, .p] ?_;refine sm rfl rfl ?_;refine su (qgc rfl rfl rfl (by decide)) rfl ?_;refine sa rfl rfl ?_;refine qc ?_;refine qa [.p, .p, .p] ?_;refine sm rfl rfl ?_;refine su (zn rfl rfl rfl iG) rfl ?_;refine sa rfl rfl ?_;refine qc ?_;exact ⟨rfl, (k4, IntKind.i64.wrap (Int.tdiv x1 2), x2 + 1), ⟨rfl, rfl, rfl, trivial⟩, trivial, rfl, ⟨iB, iB, hR⟩, by simp⟩
  ·replace h1 : (decide (x2 < a1)) = false := h1;replace h1 := decF h1
   obtain rfl : k4 = 0 := by omega
   rw [qh7] at hR;refine zt ?_;refine qb ?_;refine qa [.p, .p, .p, .p] ?_;refine sm rfl rfl ?_;refine su (qmp rfl rfl rfl (by decide)) rfl ?_;refine su (jr rfl rfl rfl) rfl ?_;refine sa rfl rfl ?_;refine qc ?_;refine qo ?_;subst hR;exact zb rfl (rv_g rfl)
def qdv (a1 : ByteArray) : List ByteArray → Nat → Int
 | [], k2 => (-1)
 | y3 :: t4, k2 => (bif decide (a1 = y3) then ((k2 : Nat) : Int) else qdv a1 t4 (k2 + 1))
def s148 (a0 : List ByteArray) (a1 : ByteArray) : Int :=
 qdv a1 a0 0
theorem c148 {g : GL} (a0 : List ByteArray) (a1 : ByteArray)    : Con (EG g) 168 [G.sl 1 (List.map cStr a0), G.str a1] (G.int (s148 a0 a1)) := by
 generalize hR : s148 a0 a1 = R;unfold s148 at hR;refine qm Tryz.func168 rfl rfl fun w0 M0 => ?_;refine zp (f := cStr) (l := a0) 0 rfl fun hla0 => ?_;refine qb ?_;refine qa [.p] ?_;refine sa rfl rfl ?_;refine qc ?_;refine qb ?_;refine qb ?_;refine qa [.p, .p, .p] ?_;refine sm rfl rfl ?_;refine su (za (f := cStr) (l := a0) rfl Tryz.underlying35 rfl) rfl ?_;refine sm rfl rfl ?_;refine qc ?_;refine qq ?_;refine zh (γ := Nat × (List ByteArray)) (fun g => ([(0, .g (G.sl 1 (List.map cStr a0))), (1, .g (G.str a1)), (7, .g (G.int (List.length a0 : Int))), (8, .g (G.int ((g.1 : Nat) : Int)))], [])) (fun g => a0.drop g.1 = g.2 ∧ qdv a1 g.2 g.1 = R) (fun g => List.length g.2) ⟨rfl, (0, a0), jA, trivial, rfl, ⟨rfl, (by exact hR)⟩, trivial⟩ ?_
 ·rintro ⟨k2, t4⟩ ⟨hd, hR⟩;replace hd : a0.drop k2 = t4 := hd;replace hR : qdv a1 t4 k2 = R := hR;refine qb ?_;refine qa [.p] ?_;refine su (zg rfl rfl rfl) rfl ?_;refine qc ?_;refine zp (f := cStr) (l := a0) 0 rfl fun hlz1 => ?_;refine qb ?_;refine ql _ rfl (fun h1 => ?_) (fun h1 => ?_)
  ·replace h1 : (decide (((k2 : Nat) : Int) < (List.length a0 : Int))) = true := h1;obtain ⟨y3, t4, rfl, hx1, hd⟩ := zq hd (decT h1);replace h1 := decT h1;rw [qdv] at hR;(try dsimp only at hR);refine qn ?_;refine qb ?_;refine qq ?_;refine qb ?_;refine qa [.p, .p] ?_;refine sm rfl rfl ?_;refine sa rfl rfl ?_;refine qc ?_;refine qb ?_;refine qa [.p, .p, .p, .p, .p, .p] ?_;refine sm rfl rfl ?_;refine sm rfl rfl ?_;refine sm rfl rfl ?_;refine su (jd (f := cStr) (l := a0) (a := y3) rfl Tryz.underlying35 ty9 rfl rfl (Int.natCast_nonneg _) hx1) rfl ?_;refine su (qg rfl ty9 rfl) rfl ?_;refine su (vz rfl rfl rfl) rfl ?_;refine qc ?_;refine ql _ rfl (fun h3 => ?_) (fun h3 => ?_)
   ·replace hR := zk hR h3;refine qb ?_;refine qa [.p, .p] ?_;refine sm rfl rfl ?_;refine sa rfl rfl ?_;refine qc ?_;refine qo ?_;subst hR;exact zb rfl (rv_g rfl)
   ·replace h3 : (decide (a1 = y3)) = false := h3;replace hR := zl hR h3;(try simp only [bB] at h3);refine qn ?_;refine qa [.p, .p] ?_;refine su (zn rfl rfl rfl iE) rfl ?_;refine sm rfl rfl ?_;refine qc ?_;exact ⟨rfl, (k2 + 1, t4), jA, trivial, rfl, ⟨hd, hR⟩, by simp⟩
  ·replace h1 : (decide (((k2 : Nat) : Int) < (List.length a0 : Int))) = false := h1;obtain rfl := z8 hd (decF h1);rw [qdv] at hR;refine zt ?_;refine qb ?_;refine qa [.p] ?_;refine sa rfl rfl ?_;refine qc ?_;refine qo ?_;subst hR;exact zb rfl (rv_g rfl)
def s88 (a0 : List ByteArray) (a1 : ByteArray) : Bool :=
 decide (0 ≤ (s148 a0 a1))
theorem c88 {g : GL} (a0 : List ByteArray) (a1 : ByteArray)    : Con (EG g) 115 [G.sl 1 (List.map cStr a0), G.str a1] (G.bool (s88 a0 a1)) := by
 generalize hR : s88 a0 a1 = R;unfold s88 at hR;refine qm Tryz.func115 rfl rfl fun w0 M0 => ?_;refine zp (f := cStr) (l := a0) 0 rfl fun hla0 => ?_;refine qb ?_;refine qa [.p] ?_;refine sa rfl rfl ?_;refine qc ?_;refine qb ?_;refine qa [.p, .p, .p, .p, .p] ?_;refine sm rfl rfl ?_;refine sm rfl rfl ?_;refine su (qf rfl K148 rfl (c148 a0 a1) (qe rfl (qe rfl qj))) rfl ?_;refine su (wj rfl rfl rfl) rfl ?_;refine sa rfl rfl ?_;refine qc ?_;refine qo ?_;subst hR;exact zb rfl (rv_g rfl)
theorem q8s {f t x : Int} (hf : 0 ≤ f) (ht : t ≤ 1000000) (h : ((decide (f ≤ x) && decide (x ≤ t)) == true) = true) : 0 ≤ s188 x := by
 have h1 : f ≤ x ∧ x ≤ t := by simpa using h
 unfold s188;rw [wrap_i64 (by unfold I64; omega)];exact Int.tmod_nonneg 7 (by omega)
def G.slX (k : Nat) (xs : List (List G)) : G :=
 ⟨fun w M u => (∀ c ∈ xs, c.length = k) ∧ ((xs = [] ∧ u = .slice none 0 0) ∨ ∃ b cap cur e, u = .slice (some ⟨b, 0, none⟩) xs.length cap ∧ xs.length ≤ cap ∧ cap ≤ maxLen ∧ ¬ M b ∧ w.heap[b]? = some (.cells cur e (0, 0)) ∧ cur.size = cap * k ∧ Fits w M xs.flatten (cur.toList.take (xs.length * k))), fun {w w' M M' u} h hh hM => by
  obtain ⟨h0, h⟩ := h;refine ⟨h0, ?_⟩
  rcases h with h | ⟨b, cap, cur, e, h1, h2, h3, h4, h5, h6, h7⟩
  ·exact .inl h
  ·have hlt := (Array.getElem?_eq_some_iff.1 h5).1
   exact .inr ⟨b, cap, cur, e, h1, h2, h3, fun hm => h4 (hM b hlt hm), (hh b hlt h4).trans h5, h6, h7.mono hh hM⟩⟩
instance (k : Nat) (xs : List (List G)) : One (.slX k xs) := ⟨fun ⟨_, h⟩ => by
 rcases h with ⟨_, h⟩ | ⟨_, _, _, _, h, _⟩ <;> rw [h] <;> rfl⟩
theorem q5n {w : World} {M : Nat → Prop} {k : Nat} {xs : List (List G)} {u : Value} (h : (G.slX k xs).p w M u) : (G.sl k xs).p w M u := by
 obtain ⟨h0, h⟩ := h
 rcases h with ⟨rfl, rfl⟩ | ⟨b, cap, cur, e, h1, h2, h3, h4, h5, h6, h7⟩
 ·exact ⟨none, 0, rfl, Nat.le_refl _, Nat.zero_le _, h0, .inl ⟨rfl, fun _ => rfl⟩⟩
 ·exact ⟨some ⟨b, 0, none⟩, cap, h1, h2, h3, h0, .inr ⟨b, 0, rfl, h4, by
   have hl := qa1 h0;have hls := h7.length
   have : ∀ j v, (cur.toList.take (xs.length * k))[j]? = some v → w.cell? ⟨b, 0 + j, none⟩ = some v := by
    intro j v hj;rw [List.getElem?_take] at hj
    split at hj
    ·rw [cell_of_row w _ _ _ _ _ h5, Nat.zero_add]; simpa using hj
    ·cases hj
   exact cells_of_get h7 this⟩⟩
where cells_of_get {w : World} {M : Nat → Prop} {b : Nat} : ∀ {cs : List G} {vs : List Value} {o : Nat}, Fits w M cs vs → (∀ j v, vs[j]? = some v → w.cell? ⟨b, o + j, none⟩ = some v) → Cells w M b o cs
 | [], _, _, _, _ => trivial
 | c :: cs, [], _, h, _ => h.elim
 | c :: cs, v :: vs, o, h, hg => ⟨⟨v, hg 0 v rfl, h.1.1, h.1.2⟩, cells_of_get h.2 fun j u hj => by
   have := hg (j + 1) u (by simpa using hj)
   rwa [show o + (j + 1) = o + 1 + j by omega] at this⟩
theorem q2y (k : Nat) : ∀ w M, (G.slX k []).p w M (.slice none 0 0) := fun _ _ => ⟨by simp, .inl ⟨rfl, rfl⟩⟩
theorem qwh (l : List Int) : (l.map cInt).flatten = (l.map (Value.int .i64)).map G.lit := by
 induction l with
 | nil => rfl
 | cons x l ih => simp [ih]
theorem qr6 {w : World} {M : Nat → Prop} : ∀ {vs : List Value}, (∀ v ∈ vs, v.oneCell' = true) → Fits w M (vs.map G.lit) vs
 | [], _ => trivial
 | v :: vs, h => ⟨⟨rfl, h v List.mem_cons_self⟩, qr6 fun u hu => h u (List.mem_cons_of_mem _ hu)⟩
theorem q2z {w w' : World} {M : Nat → Prop} {e : TypeId} {v : Value} {n0 : Nat} {l : List Int} (hM : ∀ b, M b → b < w.heap.size) (hn : w.heap.size ≤ n0) (h : w'.ownsRow n0 e 1 v l.length (l.map (Value.int .i64))) : (G.slX 1 (l.map cInt)).p w' M v := by
 obtain ⟨h1, h2⟩ := h;refine ⟨fun c hc => ?_, ?_⟩
 ·obtain ⟨x, _, rfl⟩ := List.mem_map.1 hc; rfl
 rcases h2 with ⟨rfl, h2⟩ | ⟨gg, cap, cur, rfl, g1, g2, g3, g4, g5, g6⟩
 ·exact .inl ⟨by rw [List.eq_nil_of_length_eq_zero h2]; rfl, rfl⟩
 ·refine .inr ⟨gg, cap, cur, e, by simp, by simpa using g3, g4, fun hm => by have := hM _ hm; omega, g2, g5, ?_⟩;rw [List.length_map, g6, qwh]
  exact qr6 fun v hv => by obtain ⟨x, _, rfl⟩ := List.mem_map.1 hv; rfl
theorem q8t {g : GL} (f t m : Int) (hf : 0 ≤ f) (ht : t ≤ 1000000) : Con (EG g) 174 [G.fn (.func 193) [] [G.ref [G.int f, G.int t, G.int m]], G.lit (.func (.func 176) #[] #[])] (G.slX 1 (List.map cInt (dayL m (t + 1 - f).toNat f))) := by
 intro w M vs hM hgl hv
 match vs, hv with
 | [v1, v2], hv =>
  obtain ⟨⟨fs, cs, rfl, hfs, hcs⟩, rfl, _⟩ := hv
  cases fs with
  | cons _ _ => exact hfs.elim
  | nil =>
   match cs, hcs with
   | [c], hcs =>
    obtain ⟨b, o, rfl, hnm, hc⟩ := hcs.1
    have hnm : ¬ M b := by rcases hnm with h | h; cases h; exact h
    obtain ⟨⟨_, e1, e1', _⟩, ⟨_, e2, e2', _⟩, ⟨_, e3, e3', _⟩, _⟩ := hc;have e1' : _ = _ := e1'; have e2' : _ = _ := e2'; have e3' : _ = _ := e3';subst e1'; subst e2'; subst e3';have hb : b < w.heap.size := block_lt_of_cell e1;refine (callsIn_wide.1 (qpf b o f t m hf ht w hb e1 e2 e3)).mono ?_;rintro e W' ⟨v, rfl, h1, _, h3⟩;exact ⟨v, rfl, h3, q2z hM (Nat.le_succ _) h1⟩
theorem c136 {g : GL} (f t m : Int) : Con (EG g) 175 [G.agg [G.int f, G.int t, G.int m]] (G.fn (.func 193) [] [G.ref [G.int f, G.int t, G.int m]]) := by
 refine qm Tryz.func175 rfl rfl fun w0 M0 => ?_;refine qb ?_;refine qa [.p, .p] ?_;refine st rfl rfl (zi rfl rfl) rfl ?_;refine st rfl rfl (zr rfl rfl) rfl ?_;refine qc ?_;refine qb ?_;refine qa [.p, .p] ?_;refine st rfl rfl (ww rfl rfl rfl) rfl ?_;refine st rfl rfl (zr rfl rfl) rfl ?_;refine qc ?_;refine qo ?_;exact zb rfl (rv_g rfl)
theorem q02 (a b : Int) (h : s152 [a, b] = 0) : a = 0 ∧ b = 0 := by
 simp only [s152, qcl] at h
 by_cases ha : a = 0
 ·by_cases hb : b = 0
  ·exact ⟨ha, hb⟩
  ·simp [ha, hb] at h
 ·simp [ha] at h
theorem q5o (a b c : Int) (h : s152 [a, b, c] = 0) : a = 0 ∧ b = 0 ∧ c = 0 := by
 simp only [s152, qcl] at h
 by_cases ha : a = 0
 ·by_cases hb : b = 0
  ·by_cases hc : c = 0
   ·exact ⟨ha, hb, hc⟩
   ·simp [ha, hb, hc] at h
  ·simp [ha, hb] at h
 ·simp [ha] at h
theorem rng0 (n lo hi : Int) (h : s155 n lo hi = 0) : lo ≤ n ∧ n ≤ hi := by
 simp only [s155, s154] at h
 by_cases h1 : n < lo
 ·simp [h1] at h
 ·by_cases h2 : hi < n
  ·simp [h2] at h
  ·omega
theorem q5p (b : Bool) (e : Int) (he : e ≠ 0) (h : s154 b e = 0) : b = false := by
 cases b with
 | false => rfl
 | true => exact absurd h he
theorem wv (p : S45) (h : s102 p = 0) : 0 ≤ p.fFrom ∧ p.fFrom ≤ p.fTo ∧ p.fTo ≤ 99999 ∧ p.fTo - p.fFrom ≤ 400 ∧ 1 ≤ p.Days ∧ p.Days ≤ 127 := by
 unfold s102 at h
 by_cases h1 : s152 [s153 p.fFrom, s153 p.fTo] = 0
 ·rw [decide_eq_false (by simpa using h1)] at h;rw [cond_false] at h;obtain ⟨a1, a2⟩ := q02 _ _ h1;obtain ⟨b1, b2, b3⟩ := q5o _ _ _ h;have c1 := rng0 _ _ _ a1;have c2 := rng0 _ _ _ a2;have c3 := rng0 _ _ _ b3;have d1 := q5p _ _ (by decide) b1;have d2 := q5p _ _ (by decide) b2;simp only [decide_eq_false_iff_not] at d1 d2;rw [wrap_i64 (by unfold I64; omega)] at d2
  omega
 ·rw [decide_eq_true (by simpa using h1)] at h;exact absurd h h1
end Go.Sim
set_option maxRecDepth 10000
namespace Go.Sim
open Go.Proofs
def wy  : List Int → Nat → Int
 | [], k2 => 0
 | y3 :: t4, k2 => (bif decide (y3 ≠ 0) then y3 else wy  t4 (k2 + 1))
def vx (a0 : List Int) : Int :=
 wy a0 0
theorem qkq {g : GL} (a0 : List Int)    : Con (EG g) 40 [G.sl 1 (List.map cInt a0)] (G.int (vx a0)) := by
 generalize hR : vx a0 = R;unfold vx at hR;refine qm Tryz.func40 rfl rfl fun w0 M0 => ?_;refine zp (f := cInt) (l := a0) 0 rfl fun hla0 => ?_;refine qb ?_;refine qa [.p] ?_;refine sa rfl rfl ?_;refine qc ?_;refine qb ?_;refine qb ?_;refine qa [.p, .p, .p] ?_;refine sm rfl rfl ?_;refine su (za (f := cInt) (l := a0) rfl Tryz.underlying170 rfl) rfl ?_;refine sm rfl rfl ?_;refine qc ?_;refine qq ?_;refine zh (γ := Nat × (List Int)) (fun g => ([(5, .g (G.sl 1 (List.map cInt a0))), (6, .g (G.int (List.length a0 : Int))), (7, .g (G.int ((g.1 : Nat) : Int)))], [])) (fun g => a0.drop g.1 = g.2 ∧ wy  g.2 g.1 = R) (fun g => List.length g.2) ⟨rfl, (0, a0), ⟨rfl, rfl, rfl, trivial⟩, trivial, rfl, ⟨rfl, (by exact hR)⟩, trivial⟩ ?_
 ·rintro ⟨k2, t4⟩ ⟨hd, hR⟩;replace hd : a0.drop k2 = t4 := hd;replace hR : wy  t4 k2 = R := hR;refine qb ?_;refine qa [.p] ?_;refine su (zg rfl rfl rfl) rfl ?_;refine qc ?_;refine zp (f := cInt) (l := a0) 5 rfl fun hlz1 => ?_;refine qb ?_;refine ql _ rfl (fun h1 => ?_) (fun h1 => ?_)
  ·replace h1 : (decide (((k2 : Nat) : Int) < (List.length a0 : Int))) = true := h1;obtain ⟨y3, t4, rfl, hx1, hd⟩ := zq hd (decT h1);replace h1 := decT h1;rw [wy] at hR;(try dsimp only at hR);refine qn ?_;refine qb ?_;refine qq ?_;refine qb ?_;refine qa [.p, .p, .p] ?_;refine su (jd (f := cInt) (l := a0) (a := y3) rfl Tryz.underlying170 ty37 rfl rfl (Int.natCast_nonneg _) hx1) rfl ?_;refine su (qg rfl ty37 rfl) rfl ?_;refine sa rfl rfl ?_;refine qc ?_;refine qb ?_;refine qa [.p, .p] ?_;refine sm rfl rfl ?_;refine su (zy rfl rfl rfl) rfl ?_;refine qc ?_;refine ql _ rfl (fun h3 => ?_) (fun h3 => ?_)
   ·replace hR := zk hR h3;refine qb ?_;refine qa [.p, .p] ?_;refine sm rfl rfl ?_;refine sa rfl rfl ?_;refine qc ?_;refine qo ?_;subst hR;exact zb rfl (rv_g rfl)
   ·replace h3 : (decide (y3 ≠ 0)) = false := h3;replace hR := zl hR h3;(try simp only [bB] at h3);refine qn ?_;refine qa [.p, .p] ?_;refine su (zn rfl rfl rfl iE) rfl ?_;refine sm rfl rfl ?_;refine qc ?_;exact ⟨rfl, (k2 + 1, t4), ⟨rfl, rfl, rfl, trivial⟩, trivial, rfl, ⟨hd, hR⟩, by simp⟩
  ·replace h1 : (decide (((k2 : Nat) : Int) < (List.length a0 : Int))) = false := h1;obtain rfl := z8 hd (decF h1);rw [wy] at hR;refine zt ?_;refine qb ?_;refine qa [.p] ?_;refine sa rfl rfl ?_;refine qc ?_;refine qo ?_;subst hR;exact zb rfl (rv_g rfl)
def xa (a0 : Bool) (a1 : Int) : Int :=
 (bif a0 then a1 else 0)
theorem qi5 {g : GL} (a0 : Bool) (a1 : Int)    : Con (EG g) 98 [G.bool a0, G.int a1] (G.int (xa a0 a1)) := by
 generalize hR : xa a0 a1 = R;unfold xa at hR;refine qm Tryz.func98 rfl rfl fun w0 M0 => ?_;refine qb ?_;refine qa [.p] ?_;refine sa rfl rfl ?_;refine qc ?_;refine qb ?_;refine qb ?_;refine qa [.p] ?_;refine sm rfl rfl ?_;refine qc ?_;refine ql _ rfl (fun h1 => ?_) (fun h1 => ?_)
 ·replace hR := zk hR h1;refine qb ?_;refine qa [.p, .p] ?_;refine sm rfl rfl ?_;refine sa rfl rfl ?_;refine qc ?_;refine qo ?_;subst hR;exact zb rfl (rv_g rfl)
 ·replace hR := zl hR h1;refine qn ?_;refine qb ?_;refine qa [.p] ?_;refine sa rfl rfl ?_;refine qc ?_;refine qo ?_;subst hR;exact zb rfl (rv_g rfl)
def qbi (a0 : Int) (a1 : Int) (a2 : Int) : Int :=
 (xa ((decide (a0 < a1)) || (decide (a2 < a0))) 3)
theorem qld {g : GL} (a0 : Int) (a1 : Int) (a2 : Int)    : Con (EG g) 61 [G.int a0, G.int a1, G.int a2] (G.int (qbi a0 a1 a2)) := by
 generalize hR : qbi a0 a1 a2 = R;unfold qbi at hR;refine qm Tryz.func61 rfl rfl fun w0 M0 => ?_;refine qb ?_;refine qa [.p] ?_;refine sa rfl rfl ?_;refine qc ?_;refine qb ?_;refine qa [.p, .p, .p, .p, .p, .p, .p, .p, .p, .p] ?_;refine sm rfl rfl ?_;refine sm rfl rfl ?_;refine su (zg rfl rfl rfl) rfl ?_;refine sm rfl rfl ?_;refine sg rfl rfl (fun h => qk rfl rfl) rfl ?_;refine sg rfl rfl (fun h => qk rfl rfl) rfl ?_;refine sg rfl rfl (fun h => ja rfl (gd h rfl) (gd h rfl)) rfl ?_;refine su (jl rfl rfl rfl rfl) rfl ?_;refine su (qf rfl qi6 rfl (qi5 ((decide (a0 < a1)) || (decide (a2 < a0))) 3) (qe rfl (qe rfl qj))) rfl ?_;refine sa rfl rfl ?_;refine qc ?_;refine qo ?_;subst hR;exact zb rfl (rv_g rfl)
def qng (a0 : ByteArray) : Int :=
 (xa ((!decide (a0 = (⟨#[65]⟩))) && (!decide (a0 = (⟨#[68]⟩)))) 13)
theorem q5q {g : GL} (a0 : ByteArray)    : Con (EG g) 95 [G.str a0] (G.int (qng a0)) := by
 generalize hR : qng a0 = R;unfold qng at hR;refine qm Tryz.func95 rfl rfl fun w0 M0 => ?_;refine qb ?_;refine qa [.p] ?_;refine sa rfl rfl ?_;refine qc ?_;refine qb ?_;refine qa [.p, .p, .p, .p, .p, .p, .p, .p] ?_;refine sm rfl rfl ?_;refine su (qbj rfl rfl rfl) rfl ?_;refine sm rfl rfl ?_;refine sg rfl rfl (fun h => qk rfl rfl) rfl ?_;refine sg rfl rfl (fun h => qbj rfl (gd h rfl) rfl) rfl ?_;refine su (zx rfl rfl rfl rfl) rfl ?_;refine su (qf rfl qi6 rfl (qi5 ((!decide (a0 = (⟨#[65]⟩))) && (!decide (a0 = (⟨#[68]⟩)))) 13) (qe rfl (qe rfl qj))) rfl ?_;refine sa rfl rfl ?_;refine qc ?_;refine qo ?_;subst hR;exact zb rfl (rv_g rfl)
def qkr (a0 : ByteArray) : Int :=
 (xa ((!decide (a0 = (⟨#[]⟩))) && (!(s147 a0))) 8)
theorem q20 {g : GL} (a0 : ByteArray)    : Con (EG g) 96 [G.str a0] (G.int (qkr a0)) := by
 generalize hR : qkr a0 = R;unfold qkr at hR;refine qm Tryz.func96 rfl rfl fun w0 M0 => ?_;refine qb ?_;refine qa [.p] ?_;refine sa rfl rfl ?_;refine qc ?_;refine qb ?_;refine qa [.p, .p, .p, .p, .p, .p, .p, .p, .p] ?_;refine sm rfl rfl ?_;refine su (qbj rfl rfl rfl) rfl ?_;refine sm rfl rfl ?_;refine sg rfl rfl (fun h => qk rfl rfl) rfl ?_;refine sg rfl rfl (fun h => qf rfl K147 rfl (c147 a0) (qe (gd h rfl) qj)) rfl ?_;refine sg rfl rfl (fun h => jk rfl (gd h rfl)) rfl ?_;refine su (zx rfl rfl rfl rfl) rfl ?_;refine su (qf rfl qi6 rfl (qi5 ((!decide (a0 = (⟨#[]⟩))) && (!(s147 a0))) 8) (qe rfl (qe rfl qj))) rfl ?_;refine sa rfl rfl ?_;refine qc ?_;refine qo ?_;subst hR;exact zb rfl (rv_g rfl)
def qnh (a0 : Int) (a1 : Int) (a2 : Int) : Int :=
 (vx [(qbi a0 0 999), (qbi a1 0 9), (qbi a2 0 99)])
theorem q5r {g : GL} (a0 : Int) (a1 : Int) (a2 : Int)    : Con (EG g) 97 [G.int a0, G.int a1, G.int a2] (G.int (qnh a0 a1 a2)) := by
 generalize hR : qnh a0 a1 a2 = R;unfold qnh at hR;refine qm Tryz.func97 rfl rfl fun w0 M0 => ?_;refine qb ?_;refine qa [.p] ?_;refine sa rfl rfl ?_;refine qc ?_;refine qb ?_;refine qa [.p, .p, .p, .p, .p, .p, .p, .p, .p] ?_;refine sm rfl rfl ?_;refine su (qf rfl qle rfl (qld a0 0 999) (qe rfl (qe rfl (qe rfl qj)))) rfl ?_;refine sm rfl rfl ?_;refine su (qf rfl qle rfl (qld a1 0 9) (qe rfl (qe rfl (qe rfl qj)))) rfl ?_;refine sm rfl rfl ?_;refine su (qf rfl qle rfl (qld a2 0 99) (qe rfl (qe rfl (qe rfl qj)))) rfl ?_;refine su (qv rfl Tryz.underlying170 ty37 z37 rfl (qw rfl (qw rfl (qw rfl jo))) rfl (by simp []) (by decide)) rfl ?_;refine su (qf rfl qks rfl (qkq [(qbi a0 0 999), (qbi a1 0 9), (qbi a2 0 99)]) (qe rfl qj)) rfl ?_;refine sa rfl rfl ?_;refine qc ?_;refine qo ?_;subst hR;exact zb rfl (rv_g rfl)
def qcp (a0 : S115) : Int :=
 (vx [(xa (!(s147 a0.Name)) 8), (qng a0.Kind), (qkr a0.Terminal), (s102 a0.Period), (qbi a0.Minute 0 1439), (qnh a0.Seats a0.Size a0.Noise)])
theorem q5s {g : GL} (a0 : S115)    : Con (EG g) 126 [G.agg (S115.c a0)] (G.int (qcp a0)) := by
 generalize hR : qcp a0 = R;unfold qcp at hR;refine qm Tryz.func126 rfl rfl fun w0 M0 => ?_;refine qb ?_;refine qa [.p, .p] ?_;refine su (zi rfl rfl) rfl ?_;refine sa rfl rfl ?_;refine qc ?_;refine qb ?_;refine zw [.p, .p, .p, .p, .p, .p, .p, .p, .p, .p, .p, .p, .p, .p, .p, .p, .p, .p, .p, .p, .p, .p, .p, .p, .p, .p, .p] (by kernel_rfl) ?_;refine su (qd rfl kr rfl) rfl ?_;refine su (qg rfl ty9 rfl) rfl ?_;refine su (qf rfl K147 rfl (c147 a0.Name) (qe rfl qj)) rfl ?_;refine su (jk rfl rfl) rfl ?_;refine su (qf rfl qi6 rfl (qi5 (!(s147 a0.Name)) 8) (qe rfl (qe rfl qj))) rfl ?_;refine su (qd rfl qfs rfl) rfl ?_;refine su (qg rfl ty9 rfl) rfl ?_;refine su (qf rfl q5t rfl (q5q a0.Kind) (qe rfl qj)) rfl ?_;refine su (qd rfl qh4 rfl) rfl ?_;refine su (qg rfl ty9 rfl) rfl ?_;refine su (qf rfl q21 rfl (q20 a0.Terminal) (qe rfl qj)) rfl ?_;refine su (qd rfl wt rfl) rfl ?_;refine su (qp rfl ty46 rfl rfl rfl) rfl ?_;refine su (qf rfl K102 rfl (c102 a0.Period) (qe rfl qj)) rfl ?_;refine su (qd rfl qko rfl) rfl ?_;refine su (qg rfl ty3 rfl) rfl ?_;refine su (qf rfl qle rfl (qld a0.Minute 0 1439) (qe rfl (qe rfl (qe rfl qj)))) rfl ?_;refine su (qd rfl qnd rfl) rfl ?_;refine su (qg rfl ty3 rfl) rfl ?_;refine su (qd rfl qne rfl) rfl ?_;refine su (qg rfl ty3 rfl) rfl ?_;refine su (qd rfl qjj rfl) rfl ?_;refine su (qg rfl ty3 rfl) rfl ?_;refine su (qf rfl q5u rfl (q5r a0.Seats a0.Size a0.Noise) (qe rfl (qe rfl (qe rfl qj)))) rfl ?_;refine su (qv rfl Tryz.underlying170 ty37 z37 rfl (qw rfl (qw rfl (qw rfl (qw rfl (qw rfl (qw rfl jo)))))) rfl (by simp []) (by decide)) rfl ?_;refine su (qf rfl qks rfl (qkq [(xa (!(s147 a0.Name)) 8), (qng a0.Kind), (qkr a0.Terminal), (s102 a0.Period), (qbi a0.Minute 0 1439), (qnh a0.Seats a0.Size a0.Noise)]) (qe rfl qj)) rfl ?_;refine sa rfl rfl ?_;refine qc ?_;refine qo ?_;subst hR;exact zb rfl (rv_g rfl)
def qgp (a0 : Int) (a1 : Int) (a2 : Int) : Bool :=
 (decide (a0 < a1)) || (decide (a2 < a0))
theorem qwi {g : GL} (a0 : Int) (a1 : Int) (a2 : Int)    : Con (EG g) 131 [G.int a0, G.int a1, G.int a2] (G.bool (qgp a0 a1 a2)) := by
 generalize hR : qgp a0 a1 a2 = R;unfold qgp at hR;refine qm Tryz.func131 rfl rfl fun w0 M0 => ?_;refine qb ?_;refine qa [.p] ?_;refine sa rfl rfl ?_;refine qc ?_;refine qb ?_;refine qa [.p, .p, .p, .p, .p, .p, .p, .p, .p] ?_;refine sm rfl rfl ?_;refine sm rfl rfl ?_;refine su (zg rfl rfl rfl) rfl ?_;refine sm rfl rfl ?_;refine sg rfl rfl (fun h => qk rfl rfl) rfl ?_;refine sg rfl rfl (fun h => qk rfl rfl) rfl ?_;refine sg rfl rfl (fun h => ja rfl (gd h rfl) (gd h rfl)) rfl ?_;refine su (jl rfl rfl rfl rfl) rfl ?_;refine sa rfl rfl ?_;refine qc ?_;refine qo ?_;subst hR;exact zb rfl (rv_g rfl)
def qqc (a0 : ByteArray) : Bool :=
 (decide (a0 = (⟨#[]⟩))) || (s91 a0)
theorem q8u {g : GL} (a0 : ByteArray)    : Con (EG g) 130 [G.str a0] (G.bool (qqc a0)) := by
 generalize hR : qqc a0 = R;unfold qqc at hR;refine qm Tryz.func130 rfl rfl fun w0 M0 => ?_;refine qb ?_;refine qa [.p] ?_;refine sa rfl rfl ?_;refine qc ?_;refine qb ?_;refine qa [.p, .p, .p, .p, .p, .p, .p] ?_;refine sm rfl rfl ?_;refine su (vz rfl rfl rfl) rfl ?_;refine sm rfl rfl ?_;refine sg rfl rfl (fun h => qk rfl rfl) rfl ?_;refine sg rfl rfl (fun h => qf rfl K91 rfl (c91 a0) (qe (gd h rfl) qj)) rfl ?_;refine su (jl rfl rfl rfl rfl) rfl ?_;refine sa rfl rfl ?_;refine qc ?_;refine qo ?_;subst hR;exact zb rfl (rv_g rfl)
section
variable {E : Env} {w0 : World} {M0 : Nat → Prop}
variable {K V : Type} [DecidableEq K] {kf : K → Value} {vf : V → G} {d : TypeDesc} [MKey kf d] {o : Oper} {mem : Mem} {ev : Operand → TV} {t kt et : TypeId} {x ix : Operand} {m : List (K × V)} {k : K} {z : V}
theorem qkt {w : World} {M : Nat → Prop} (ht : E.P.underlying t = some (.map kt et)) (hk : E.P.underlying kt = some d) {zv : Value} (hz : (E.P.info? et).bind (·.zero) = some zv) (hz0 : ∀ w M, (vf z).p w M zv)
  {v : Value} (hv : (G.mpf (m.map fun p => (kf p.1, vf p.2))).p w M v) (ok : Bool) : ∃ u, (vf (vd m k z)).p w M u ∧ (Instr.lookup t v (kf k) ok).run E.P w = .ok (if ok then .tuple #[u, .bool (mhas m k)] else u) w := by
 obtain ⟨b, en, cl, rfl, _, h2, h3, _⟩ := hv
 have hzr : (zeroValue et).run E.P w = .ok zv w := by
  cases hi : E.P.info? et with
  | none => rw [hi] at hz; cases hz
  | some i =>
   rw [hi] at hz;have hz : i.zero = some zv := hz
   simp [zeroValue, typeInfo, hi, hz]
 have hck := MapKept.run_checkKey (w := w) hk (MKey.isKey (kf := kf) k) en.isEmpty 9999
 rcases qy1 (kf := kf) (vf := vf) (k := k) 0 h3 with ⟨g1, g2, _⟩ | ⟨j, e, b, g1, g2, g3, g4, g5, _⟩
 ·refine ⟨zv, by simp only [vd, g1]; exact hz0 _ _, ?_⟩
  simp [Instr.lookup, run_underlying ht, MapKept.run_getObj_map h2, hck, MapKept.run_findKey hk g2, hzr, mhas, g1]
 ·refine ⟨e.val, by simp only [vd, g1]; exact g5, ?_⟩
  simp [Instr.lookup, run_underlying ht, MapKept.run_getObj_map h2, hck, MapKept.run_findKey hk g2, mhas, g1]
theorem qqv {zv : Value} (ho : o.op = .lookup t x ix false) (ht : E.P.underlying t = some (.map kt et)) (hk : E.P.underlying kt = some d) (hz : (E.P.info? et).bind (·.zero) = some zv) (hz0 : ∀ w M, (vf z).p w M zv)
  (hx : ev x = .g (G.mpf (m.map fun p => (kf p.1, vf p.2)))) (hi : ev ix = .g (.lit (kf k))) (mem : Mem) : Eff E o mem ev (.g (vf (vd m k z))) := by
 intro w0 M0 ρ w e hm he;have h1 := he x (by rw [ho]; simp [Op.operands]);rw [hx] at h1;have h2 := he ix (by rw [ho]; simp [Op.operands]);rw [hi] at h2;have h2' : e ix = kf k := h2;obtain ⟨u, g1, g2⟩ := qkt (E := E) (z := z) (k := k) ht hk hz hz0 h1 false
 have : (execOp e o).run E.P w = .ok (.value u) w := by simp only [execOp, ho, h2', Sem.run_bind, g2, Result.andThen_ok, Sem.run_pure]; rfl
 rw [this];exact ⟨Grow.refl w, g1⟩
theorem qpg {zv : Value} (ho : o.op = .lookup t x ix true) (ht : E.P.underlying t = some (.map kt et)) (hk : E.P.underlying kt = some d) (hz : (E.P.info? et).bind (·.zero) = some zv) (hz0 : ∀ w M, (vf z).p w M zv)
  (hx : ev x = .g (G.mpf (m.map fun p => (kf p.1, vf p.2)))) (hi : ev ix = .g (.lit (kf k))) (mem : Mem) : Eff E o mem ev (.g (.tup [vf (vd m k z), G.bool (mhas m k)])) := by
 intro w0 M0 ρ w e hm he;have h1 := he x (by rw [ho]; simp [Op.operands]);rw [hx] at h1;have h2 := he ix (by rw [ho]; simp [Op.operands]);rw [hi] at h2;have h2' : e ix = kf k := h2;obtain ⟨u, g1, g2⟩ := qkt (E := E) (z := z) (k := k) ht hk hz hz0 h1 true
 have : (execOp e o).run E.P w = .ok (.value (.tuple #[u, .bool (mhas m k)])) w := by simp only [execOp, ho, h2', Sem.run_bind, g2, Result.andThen_ok, Sem.run_pure]; rfl
 rw [this];exact ⟨Grow.refl w, [u, .bool (mhas m k)], rfl, g1, rfl, trivial⟩
end
end Go.Sim
set_option maxRecDepth 10000
namespace Go.Sim
open Go.Proofs
theorem q5v : ze Tryz.prog 169 := ⟨_, Tryz.func169, by kernel_rfl, by kernel_rfl⟩
theorem qza : vu Tryz.prog 184 = some [.nilFunc] := by kernel_rfl
theorem qwj : qaj Tryz.prog 184 = some [(0, 1)] := by kernel_rfl
def kfn : Option (Option ByteArray) → G
 | none => G.lit .nilFunc
 | some (some s) => G.fn (.func 170) [] [G.ref [G.str s]]
 | some none => G.lit (.func (.func 171) #[] #[])
def kv (v : Option (Option ByteArray)) : G := G.agg [kfn v]
def kindL : List (ByteArray × Option (Option ByteArray)) := [(⟨#[65]⟩, some (some ⟨#[65]⟩)), (⟨#[68]⟩, some (some ⟨#[68]⟩)), (⟨#[84]⟩, some none)]
theorem q5w {g : GL} (s : ByteArray) : Con (EG g) 169 [G.str s] (G.fn (.func 170) [] [G.ref [G.str s]]) := by
 refine qm Tryz.func169 rfl rfl fun w0 M0 => ?_;refine qb ?_;refine qa [.p, .p] ?_;refine st rfl rfl (zi rfl rfl) rfl ?_;refine st rfl rfl (zr rfl rfl) rfl ?_;refine qc ?_;refine qb ?_;refine qa [.p, .p] ?_;refine st rfl rfl (ww rfl rfl rfl) rfl ?_;refine st rfl rfl (zr rfl rfl) rfl ?_;refine qc ?_;refine qo ?_;exact zb rfl (rv_g rfl)
theorem q5x {g : GL} : Con (EG g) 120 [] (G.mpf (kindL.map fun p => (Value.string p.1, kv p.2))) := by
 refine qm Tryz.func120 rfl rfl fun w0 M0 => ?_;refine qb ?_;refine qa [.p] ?_;refine st rfl rfl (zr rfl rfl) rfl ?_;refine qc ?_;refine qb ?_;refine qa [.p] ?_;refine st rfl rfl (zr rfl rfl) rfl ?_;refine qc ?_;refine qb ?_;refine qa [.w, .p, .p, .p, .w, .p, .p, .p, .w, .p, .w, .p, .p] ?_;refine st_w rfl rfl (qfo 2 rfl rfl) rfl ?_;refine st rfl rfl (qk rfl rfl) rfl ?_;refine st rfl rfl (xm (args := [G.str ⟨#[65]⟩]) rfl qe0 q5v rfl (q5w ⟨#[65]⟩) rfl) rfl ?_;refine st rfl rfl (jg rfl qza rfl qwj (zz rfl kx) rfl) rfl ?_;refine jb rfl rfl (qdg (kf := Value.string) (vf := kv) (m := []) (k := ⟨#[65]⟩) (v := some (some ⟨#[65]⟩)) (ins := true) rfl Tryz.underlying186 Tryz.underlying9 rfl rfl rfl rfl) ?_;refine st rfl rfl (qk rfl rfl) rfl ?_;refine st rfl rfl (xm (args := [G.str ⟨#[68]⟩]) rfl qe0 q5v rfl (q5w ⟨#[68]⟩) rfl) rfl ?_;refine st rfl rfl (jg rfl qza rfl qwj (zz rfl kx) rfl) rfl ?_;refine jb rfl rfl (qdg (kf := Value.string) (vf := kv) (k := ⟨#[68]⟩) (v := some (some ⟨#[68]⟩)) (ins := true) rfl Tryz.underlying186 Tryz.underlying9 rfl rfl rfl rfl) ?_;refine st rfl rfl (jg rfl qza rfl qwj (zz rfl kx) rfl) rfl ?_;refine jb rfl rfl (qdg (kf := Value.string) (vf := kv) (k := ⟨#[84]⟩) (v := some none) (ins := true) rfl Tryz.underlying186 Tryz.underlying9 rfl rfl rfl rfl) ?_;refine st rfl rfl (qci rfl rfl) rfl ?_;refine st rfl rfl (qfr rfl rfl) rfl ?_;refine qc ?_;refine qo ?_;exact zb rfl (q5c rfl rfl)
theorem q03 : (Tryz.prog.info? 184).bind (·.zero) = some (.agg #[.nilFunc]) := by kernel_rfl
theorem kz0 : ∀ w M, (kv none).p w M (.agg #[.nilFunc]) := fun _ _ => ⟨[.nilFunc], rfl, ⟨rfl, rfl⟩, trivial⟩
theorem q8v : ze Tryz.prog 170 := ⟨_, Tryz.func170, by kernel_rfl, by kernel_rfl⟩
theorem q8w : ze Tryz.prog 171 := ⟨_, Tryz.func171, by kernel_rfl, by kernel_rfl⟩
theorem q8x {g : GL} (m s : ByteArray) : Con (EG g) 170 [G.str m, G.ref [G.str s]] (G.bool (decide (m = s))) := by
 refine qm Tryz.func170 rfl rfl fun w0 M0 => ?_;refine qb ?_;refine qa [.p] ?_;refine st rfl rfl (zr rfl rfl) rfl ?_;refine qc ?_;refine qb ?_;refine qa [.p, .p, .p, .p] ?_;refine st rfl rfl (qk rfl rfl) rfl ?_;refine st rfl rfl (qg rfl ty9 rfl) rfl ?_;refine st rfl rfl (vz rfl rfl rfl) rfl ?_;refine st rfl rfl (zr rfl rfl) rfl ?_;refine qc ?_;refine qo ?_;exact zb rfl (rv_g rfl)
theorem q8y {g : GL} (m : ByteArray) : Con (EG g) 171 [G.str m] (G.bool true) := by
 refine qm Tryz.func171 rfl rfl fun w0 M0 => ?_;refine qb ?_;refine qa [.p] ?_;refine st rfl rfl (zr rfl rfl) rfl ?_;refine qc ?_;refine qb ?_;refine qa [.p] ?_;refine st rfl rfl (zr rfl rfl) rfl ?_;refine qc ?_;refine qo ?_;exact zb rfl (rv_g rfl)
theorem q5y : jc Tryz.prog 184 0 = some (0, 1, false) := by kernel_rfl
theorem q5z : tyK Tryz.prog 184 = some (1, true) := by kernel_rfl
def kcnt (k m : ByteArray) : Bool := match vd kindL k none with
 | some (some s) => decide (m = s)
 | some none => true
 | none => false
theorem qwk {g : GL} {o : Oper} {ev : Operand → TV} {x : Operand} {ops : Array Operand} {ts : Array TypeId} {k m : ByteArray} (ho : o.op = .call ⟨.value x, ops, ts⟩) (hk : (vd kindL k none).isSome = true)
  (hev : ev x = .g (kfn (vd kindL k none))) (ha : ops.toList.map ev = [TV.g (G.str m)]) (mem : Mem) : Eff (EG g) o mem ev (.g (G.bool (kcnt k m))) := by
 unfold kcnt;generalize vd kindL k none = v at *
 match v, hk, hev with
 | some (some s), _, hev => exact xm (args := [G.str m]) ho qkl q8v hev (q8x m s) ha mem
 | some none, _, hev => exact xm (args := [G.str m]) ho qe0 q8w hev (q8y m) ha mem
theorem qwl {k : ByteArray} : (vd kindL k none).isSome = true ↔ k = (⟨#[65]⟩ : ByteArray) ∨ k = (⟨#[68]⟩ : ByteArray) ∨ k = (⟨#[84]⟩ : ByteArray) := by
 unfold vd kindL;simp only [mget]
 by_cases h1 : (⟨#[65]⟩ : ByteArray) = k
 ·subst h1; simp
 ·by_cases h2 : (⟨#[68]⟩ : ByteArray) = k
  ·subst h2; simp [h1]
  ·by_cases h3 : (⟨#[84]⟩ : ByteArray) = k
   ·subst h3; simp [h1, h2]
   ·have e1 : ¬ k = (⟨#[65]⟩ : ByteArray) := fun e => h1 e.symm;have e2 : ¬ k = (⟨#[68]⟩ : ByteArray) := fun e => h2 e.symm;have e3 : ¬ k = (⟨#[84]⟩ : ByteArray) := fun e => h3 e.symm
    simp [h1, h2, h3, e1, e2, e3]
end Go.Sim
set_option maxRecDepth 10000
namespace Go.Sim
open Go.Proofs
def qbm (a0 : S2062) (a1 : ByteArray) (a2 : ByteArray) : Bool :=
 (kcnt a0.Kind a1) && ((decide (a0.Terminal = (⟨#[]⟩))) || (decide (a0.Terminal = a2)))
theorem q22 {g : GL} (a0 : S2062) (a1 : ByteArray) (a2 : ByteArray)  (hk : (vd kindL a0.Kind none).isSome = true)  : Con (EG g) 102 [G.agg (S2062.c a0), G.str a1, G.str a2] (G.bool (qbm a0 a1 a2)) := by
 generalize hR : qbm a0 a1 a2 = R;unfold qbm at hR;refine qm Tryz.func102 rfl rfl fun w0 M0 => ?_;refine qb ?_;refine qa [.p, .p] ?_;refine su (zi rfl rfl) rfl ?_;refine sa rfl rfl ?_;refine qc ?_;refine qb ?_;refine zw [.p, .p, .p, .p, .p, .p, .p, .p, .p, .p, .p, .p, .p, .p, .p, .p, .p, .p, .p] (by kernel_rfl) ?_;refine su (qf rfl q50 rfl (q5x) qj) rfl ?_;refine su (qd rfl qr7 rfl) rfl ?_;refine su (qg rfl ty9 rfl) rfl ?_;refine su (qqv (kf := Value.string) (vf := kv) (m := kindL) (k := a0.Kind) (z := none) rfl Tryz.underlying186 Tryz.underlying9 q03 kz0 rfl rfl) rfl ?_;refine su (qoj rfl q5y rfl rfl) rfl ?_;refine sm rfl rfl ?_;refine su (qwk rfl hk rfl rfl) rfl ?_;refine sm rfl rfl ?_;refine sg rfl rfl (fun h => qd rfl qni rfl) rfl ?_;refine sg rfl rfl (fun h => qg rfl ty9 (gd h rfl)) rfl ?_;refine sg rfl rfl (fun h => vz rfl (gd h rfl) rfl) rfl ?_;refine sg rfl rfl (fun h => qk rfl (gd h rfl)) rfl ?_;refine st_g rfl rfl rfl (jz _ _ _) (fun h => qd rfl qni rfl) rfl ?_;refine st_g rfl rfl rfl (jz _ _ _) (fun h => qg rfl ty9 (gd h rfl)) rfl ?_;refine st_g rfl rfl rfl (jz _ _ _) (fun h => qk rfl rfl) rfl ?_;refine st_g rfl rfl rfl (jz _ _ _) (fun h => vz rfl (gd h rfl) (gd h rfl)) rfl ?_;refine sg rfl rfl (fun h => jl rfl (gd h rfl) rfl (gd2 h rfl)) rfl ?_;refine su (zx rfl rfl rfl rfl) rfl ?_;refine sa rfl rfl ?_;refine qc ?_;refine qo ?_;subst hR;exact zb rfl (rv_g rfl)
end Go.Sim
set_option maxRecDepth 10000
namespace Go.Sim
open Go.Proofs
def qdi (a0 : S1079) : Int :=
 (vx [(qbi a0.Moment 0 143999999), (qng a0.Kind), (qkr a0.Terminal), (qnh a0.Seats a0.Size a0.Noise), (xa (!(s147 a0.Name)) 8)])
theorem q51 {g : GL} (a0 : S1079)    : Con (EG g) 42 [G.agg (S1079.c a0)] (G.int (qdi a0)) := by
 generalize hR : qdi a0 = R;unfold qdi at hR;refine qm Tryz.func42 rfl rfl fun w0 M0 => ?_;refine qb ?_;refine qa [.p, .p] ?_;refine su (zi rfl rfl) rfl ?_;refine sa rfl rfl ?_;refine qc ?_;refine qb ?_;refine zw [.p, .p, .p, .p, .p, .p, .p, .p, .p, .p, .p, .p, .p, .p, .p, .p, .p, .p, .p, .p, .p, .p, .p, .p] (by kernel_rfl) ?_;refine su (qd rfl qba rfl) rfl ?_;refine su (qg rfl ty3 rfl) rfl ?_;refine su (qf rfl qle rfl (qld a0.Moment 0 143999999) (qe rfl (qe rfl (qe rfl qj)))) rfl ?_;refine su (qd rfl qe1 rfl) rfl ?_;refine su (qg rfl ty9 rfl) rfl ?_;refine su (qf rfl q5t rfl (q5q a0.Kind) (qe rfl qj)) rfl ?_;refine su (qd rfl qjk rfl) rfl ?_;refine su (qg rfl ty9 rfl) rfl ?_;refine su (qf rfl q21 rfl (q20 a0.Terminal) (qe rfl qj)) rfl ?_;refine su (qd rfl qzb rfl) rfl ?_;refine su (qg rfl ty3 rfl) rfl ?_;refine su (qd rfl qzc rfl) rfl ?_;refine su (qg rfl ty3 rfl) rfl ?_;refine su (qd rfl qzd rfl) rfl ?_;refine su (qg rfl ty3 rfl) rfl ?_;refine su (qf rfl q5u rfl (q5r a0.Seats a0.Size a0.Noise) (qe rfl (qe rfl (qe rfl qj)))) rfl ?_;refine su (qd rfl qnj rfl) rfl ?_;refine su (qg rfl ty9 rfl) rfl ?_;refine su (qf rfl K147 rfl (c147 a0.Name) (qe rfl qj)) rfl ?_;refine su (jk rfl rfl) rfl ?_;refine su (qf rfl qi6 rfl (qi5 (!(s147 a0.Name)) 8) (qe rfl (qe rfl qj))) rfl ?_;refine su (qv rfl Tryz.underlying170 ty37 z37 rfl (qw rfl (qw rfl (qw rfl (qw rfl (qw rfl jo))))) rfl (by simp []) (by decide)) rfl ?_;refine su (qf rfl qks rfl (qkq [(qbi a0.Moment 0 143999999), (qng a0.Kind), (qkr a0.Terminal), (qnh a0.Seats a0.Size a0.Noise), (xa (!(s147 a0.Name)) 8)]) (qe rfl qj)) rfl ?_;refine sa rfl rfl ?_;refine qc ?_;refine qo ?_;subst hR;exact zb rfl (rv_g rfl)
def wz (a0 : List S1079) : List S1079 → Nat → Option Int
 | [], k2 => some 0
 | y3 :: t4, k2 => zf (bif decide (0 < ((k2 : Nat) : Int)) then ixO a0 (max 0 (IntKind.i64.wrap (((k2 : Nat) : Int) - 1))) else some default) fun y5 => (bif decide ((vx [(qdi y3), (xa ((decide (0 < ((k2 : Nat) : Int))) && (decide (y3.Moment < y5.Moment))) 11)]) ≠ 0) then some (vx [(qdi y3), (xa ((decide (0 < ((k2 : Nat) : Int))) && (decide (y3.Moment < y5.Moment))) 11)]) else wz a0 t4 (k2 + 1))
def qbk (a0 : List S1079) : Option Int :=
 (bif decide (30000 < (List.length a0 : Int)) then some 5 else wz a0 a0 0)
theorem qwm {g : GL} (a0 : List S1079) {R : Int}   (hR : qbk a0 = some R) : Con (EG g) 60 [G.sl 7 (List.map S1079.c a0)] (G.int R) := by
 unfold qbk at hR;refine qm Tryz.func60 rfl rfl fun w0 M0 => ?_;refine zp (f := S1079.c) (l := a0) 0 rfl fun hla0 => ?_;refine qb ?_;refine qa [.p] ?_;refine sa rfl rfl ?_;refine qc ?_;refine qb ?_;refine qb ?_;refine qa [.p, .p, .p] ?_;refine sm rfl rfl ?_;refine su (za (f := S1079.c) (l := a0) rfl Tryz.underlying48 rfl) rfl ?_;refine su (ja rfl rfl rfl) rfl ?_;refine qc ?_;refine ql _ rfl (fun h1 => ?_) (fun h1 => ?_)
 ·replace hR := zk hR h1;refine qb ?_;refine qa [.p] ?_;refine sa rfl rfl ?_;refine qc ?_;refine qo ?_;obtain rfl := Option.some.inj hR;exact zb rfl (rv_g rfl)
 ·replace h1 : (decide (30000 < (List.length a0 : Int))) = false := h1;replace hR := zl hR h1;(try simp only [bB] at h1);refine qn ?_;refine qb ?_;refine qb ?_;refine qa [.p, .p, .p] ?_;refine sm rfl rfl ?_;refine su (za (f := S1079.c) (l := a0) rfl Tryz.underlying48 rfl) rfl ?_;refine sm rfl rfl ?_;refine qc ?_;refine qq ?_;refine zh (γ := Nat × (List S1079)) (fun g => ([(0, .g (G.sl 7 (List.map S1079.c a0))), (9, .g (G.sl 7 (List.map S1079.c a0))), (10, .g (G.int (List.length a0 : Int))), (11, .g (G.int ((g.1 : Nat) : Int)))], [])) (fun g => a0.drop g.1 = g.2 ∧ wz a0 g.2 g.1 = some R) (fun g => List.length g.2) ⟨rfl, (0, a0), jA, trivial, rfl, ⟨rfl, (by exact hR)⟩, trivial⟩ ?_
  ·rintro ⟨k2, t4⟩ ⟨hd, hR⟩;replace hd : a0.drop k2 = t4 := hd;replace hR : wz a0 t4 k2 = some R := hR;refine qb ?_;refine qa [.p] ?_;refine su (zg rfl rfl rfl) rfl ?_;refine qc ?_;refine zp (f := S1079.c) (l := a0) 0 rfl fun hlz1 => ?_;refine qb ?_;refine ql _ rfl (fun h2 => ?_) (fun h2 => ?_)
   ·replace h2 : (decide (((k2 : Nat) : Int) < (List.length a0 : Int))) = true := h2;obtain ⟨y3, t4, rfl, hx1, hd⟩ := zq hd (decT h2);replace h2 := decT h2;rw [wz] at hR;(try dsimp only at hR);refine qn ?_;refine qb ?_;refine qq ?_;refine qb ?_;refine qa [.p, .p, .p, .w, .p, .w] ?_;refine sm rfl rfl ?_;refine su (jd (f := S1079.c) (l := a0) (a := y3) rfl Tryz.underlying48 jf rfl rfl (Int.natCast_nonneg _) hx1) rfl ?_;refine su (qp rfl jf rfl rfl rfl) rfl ?_;refine sw (zc 4 rfl qqw rfl rfl) rfl ?_;refine sa rfl rfl ?_;refine jb rfl rfl (qu (tv := .g (G.agg (S1079.c y3))) rfl jf rfl rfl rfl rfl rfl) ?_;refine qc ?_;refine qb ?_;obtain ⟨y5, by5, hR⟩ := qi hR;refine zw [.r, .p, .p, .p, .p, .p, .r, .p, .p, .p, .p, .p, .p, .p, .p, .p, .p, .p, .p, .p] (by kernel_rfl) ?_;refine sr (zm rfl jf rfl rfl rfl rfl) rfl ?_;refine su (qf rfl q52 rfl (q51 y3) (qe rfl qj)) rfl ?_;refine sm rfl rfl ?_;refine su (ja rfl rfl rfl) rfl ?_;refine sm rfl rfl ?_;refine sg rfl rfl (fun h => qy rfl qba rfl) rfl ?_;refine qgb rfl rfl rfl (z6 _ _) (fun h => zo rfl ty3 (gd h rfl) rfl rfl) rfl ?_;refine sg rfl rfl (fun h => qk rfl rfl) rfl ?_;refine sg rfl rfl (fun h => qk rfl rfl) rfl ?_;refine sg rfl rfl (fun h => kw rfl (gd h rfl) rfl) rfl ?_;refine sg rfl rfl (fun h => qh0 rfl rfl (gd h rfl)) rfl ?_;refine sg rfl rfl (fun h => jd (f := S1079.c) (l := a0) (a := y5) rfl Tryz.underlying48 jf (gd h rfl) (gd h rfl) (jm (xi by5 h)) (zj (xi by5 h))) rfl ?_;refine sg rfl rfl (fun h => qd rfl qba (gd h rfl)) rfl ?_;refine sg rfl rfl (fun h => qg rfl ty3 (gd h rfl)) rfl ?_;refine sg rfl rfl (fun h => zg rfl (gd h rfl) (gd h rfl)) rfl ?_;refine su (zx rfl rfl rfl rfl) rfl ?_;refine su (qf rfl qi6 rfl (qi5 ((decide (0 < ((k2 : Nat) : Int))) && (decide (y3.Moment < y5.Moment))) 11) (qe rfl (qe rfl qj))) rfl ?_;refine su (qv rfl Tryz.underlying170 ty37 z37 rfl (qw rfl (qw rfl jo)) rfl (by simp []) (by decide)) rfl ?_;refine su (qf rfl qks rfl (qkq [(qdi y3), (xa ((decide (0 < ((k2 : Nat) : Int))) && (decide (y3.Moment < y5.Moment))) 11)]) (qe rfl qj)) rfl ?_;refine sa rfl rfl ?_;refine qc ?_;refine qb ?_;refine qa [.p, .p] ?_;refine sm rfl rfl ?_;refine su (zy rfl rfl rfl) rfl ?_;refine qc ?_;refine ql _ rfl (fun h4 => ?_) (fun h4 => ?_)
    ·replace hR := zk hR h4;refine qb ?_;refine qa [.p, .p] ?_;refine sm rfl rfl ?_;refine sa rfl rfl ?_;refine qc ?_;refine qo ?_;obtain rfl := Option.some.inj hR;exact zb rfl (rv_g rfl)
    ·replace h4 : (decide ((vx [(qdi y3), (xa ((decide (0 < ((k2 : Nat) : Int))) && (decide (y3.Moment < y5.Moment))) 11)]) ≠ 0)) = false := h4;replace hR := zl hR h4;(try simp only [bB] at h4);refine qn ?_;refine qa [.p, .p] ?_;refine su (zn rfl rfl rfl iE) rfl ?_;refine sm rfl rfl ?_;refine qc ?_;exact ⟨rfl, (k2 + 1, t4), jA, trivial, rfl, ⟨hd, hR⟩, by simp⟩
   ·replace h2 : (decide (((k2 : Nat) : Int) < (List.length a0 : Int))) = false := h2;obtain rfl := z8 hd (decF h2);rw [wz] at hR;refine zt ?_;refine qb ?_;refine qa [.p] ?_;refine sa rfl rfl ?_;refine qc ?_;refine qo ?_;obtain rfl := Option.some.inj hR;exact zb rfl (rv_g rfl)
def qf5 (a0 : S2062) : Int :=
 (vx [(xa (!(s147 a0.Name)) 8), (xa (!(mhas kindL a0.Kind)) 13), (qkr a0.Terminal), (qbi a0.Length 1 1440), (qbi a0.Step 1 1440), (qbi a0.fFrom 0 1439), (qbi a0.fTo 0 1439), (xa (decide (a0.fTo < a0.fFrom)) 11), (s102 a0.Period), (qbi a0.Most 0 999999999)])
theorem q8z {g : GL} (a0 : S2062)    : Con (EG g) 59 [G.agg (S2062.c a0)] (G.int (qf5 a0)) := by
 generalize hR : qf5 a0 = R;unfold qf5 at hR;refine qm Tryz.func59 rfl rfl fun w0 M0 => ?_;refine qb ?_;refine qa [.p, .p] ?_;refine su (zi rfl rfl) rfl ?_;refine sa rfl rfl ?_;refine qc ?_;refine qb ?_;refine zw [.p, .p, .p, .p, .p, .p, .p, .w, .w, .p] (by kernel_rfl) ?_;refine su (qf rfl q50 rfl (q5x) qj) rfl ?_;refine su (qd rfl qr7 rfl) rfl ?_;refine su (qg rfl ty9 rfl) rfl ?_;refine su (qpg (kf := Value.string) (vf := kv) (m := kindL) (k := a0.Kind) (z := none) rfl Tryz.underlying186 Tryz.underlying9 q03 kz0 rfl rfl) rfl ?_;refine sm rfl rfl ?_;refine su (qt rfl rfl rfl) rfl ?_;refine su (qt rfl rfl rfl) rfl ?_;refine sw (zc 3 rfl qza rfl rfl) rfl ?_;refine jb rfl rfl (qu (tv := .g (G.agg [kfn (vd kindL a0.Kind none)])) rfl q5z rfl rfl rfl rfl rfl) ?_;refine sa rfl rfl ?_;refine qc ?_;refine qb ?_;refine zw [.p, .p, .p, .p, .p, .p, .p, .p, .p, .p, .p, .p, .p, .p, .p, .p, .p, .p, .p, .p, .p, .p, .p, .p, .p, .p, .p, .p, .p, .p, .p, .p, .p, .p, .p, .p, .p, .p] (by kernel_rfl) ?_;refine su (qd rfl qnk rfl) rfl ?_;refine su (qg rfl ty9 rfl) rfl ?_;refine su (qf rfl K147 rfl (c147 a0.Name) (qe rfl qj)) rfl ?_;refine su (jk rfl rfl) rfl ?_;refine su (qf rfl qi6 rfl (qi5 (!(s147 a0.Name)) 8) (qe rfl (qe rfl qj))) rfl ?_;refine sm rfl rfl ?_;refine su (jk rfl rfl) rfl ?_;refine su (qf rfl qi6 rfl (qi5 (!(mhas kindL a0.Kind)) 13) (qe rfl (qe rfl qj))) rfl ?_;refine su (qd rfl qni rfl) rfl ?_;refine su (qg rfl ty9 rfl) rfl ?_;refine su (qf rfl q21 rfl (q20 a0.Terminal) (qe rfl qj)) rfl ?_;refine su (qd rfl qe2 rfl) rfl ?_;refine su (qg rfl ty3 rfl) rfl ?_;refine su (qf rfl qle rfl (qld a0.Length 1 1440) (qe rfl (qe rfl (qe rfl qj)))) rfl ?_;refine su (qd rfl qgq rfl) rfl ?_;refine su (qg rfl ty3 rfl) rfl ?_;refine su (qf rfl qle rfl (qld a0.Step 1 1440) (qe rfl (qe rfl (qe rfl qj)))) rfl ?_;refine su (qd rfl qnl rfl) rfl ?_;refine su (qg rfl ty3 rfl) rfl ?_;refine su (qf rfl qle rfl (qld a0.fFrom 0 1439) (qe rfl (qe rfl (qe rfl qj)))) rfl ?_;refine su (qd rfl qnm rfl) rfl ?_;refine su (qg rfl ty3 rfl) rfl ?_;refine su (qf rfl qle rfl (qld a0.fTo 0 1439) (qe rfl (qe rfl (qe rfl qj)))) rfl ?_;refine su (qd rfl qnl rfl) rfl ?_;refine su (qg rfl ty3 rfl) rfl ?_;refine su (qd rfl qnm rfl) rfl ?_;refine su (qg rfl ty3 rfl) rfl ?_;refine su (ja rfl rfl rfl) rfl ?_;refine su (qf rfl qi6 rfl (qi5 (decide (a0.fTo < a0.fFrom)) 11) (qe rfl (qe rfl qj))) rfl ?_;refine su (qd rfl qe3 rfl) rfl ?_;refine su (qp rfl ty46 rfl rfl rfl) rfl ?_;refine su (qf rfl K102 rfl (c102 a0.Period) (qe rfl qj)) rfl ?_;refine su (qd rfl qjl rfl) rfl ?_;refine su (qg rfl ty3 rfl) rfl ?_;refine su (qf rfl qle rfl (qld a0.Most 0 999999999) (qe rfl (qe rfl (qe rfl qj)))) rfl ?_;refine su (qv rfl Tryz.underlying170 ty37 z37 rfl (qw rfl (qw rfl (qw rfl (qw rfl (qw rfl (qw rfl (qw rfl (qw rfl (qw rfl (qw rfl jo)))))))))) rfl (by simp []) (by decide)) rfl ?_;refine su (qf rfl qks rfl (qkq [(xa (!(s147 a0.Name)) 8), (xa (!(mhas kindL a0.Kind)) 13), (qkr a0.Terminal), (qbi a0.Length 1 1440), (qbi a0.Step 1 1440), (qbi a0.fFrom 0 1439), (qbi a0.fTo 0 1439), (xa (decide (a0.fTo < a0.fFrom)) 11), (s102 a0.Period), (qbi a0.Most 0 999999999)]) (qe rfl qj)) rfl ?_;refine sa rfl rfl ?_;refine qc ?_;refine qo ?_;subst hR;exact zb rfl (rv_g rfl)
end Go.Sim
set_option maxRecDepth 10000
namespace Go.Sim
open Go.Proofs
def qph (a0 : Int) (a1 : Int) : Bool :=
 ((s202 a0) && (!(s202 a1))) || (decide (a0 < a1))
theorem q80 {g : GL} (a0 : Int) (a1 : Int)    : Con (EG g) 191 [G.int a0, G.int a1] (G.bool (qph a0 a1)) := by
 generalize hR : qph a0 a1 = R;unfold qph at hR;refine qm Tryz.func191 rfl rfl fun w0 M0 => ?_;refine qb ?_;refine qa [.p] ?_;refine sa rfl rfl ?_;refine qc ?_;refine qb ?_;refine qa [.p, .p, .p, .p, .p, .p, .p, .p, .p, .p, .p, .p, .p] ?_;refine sm rfl rfl ?_;refine su (qf rfl K202 rfl (c202 a0) (qe rfl qj)) rfl ?_;refine sm rfl rfl ?_;refine sg rfl rfl (fun h => qk rfl rfl) rfl ?_;refine sg rfl rfl (fun h => qf rfl K202 rfl (c202 a1) (qe (gd h rfl) qj)) rfl ?_;refine sg rfl rfl (fun h => jk rfl (gd h rfl)) rfl ?_;refine su (zx rfl rfl rfl rfl) rfl ?_;refine sm rfl rfl ?_;refine sg rfl rfl (fun h => qk rfl rfl) rfl ?_;refine sg rfl rfl (fun h => qk rfl rfl) rfl ?_;refine sg rfl rfl (fun h => zg rfl (gd h rfl) (gd h rfl)) rfl ?_;refine su (jl rfl rfl rfl rfl) rfl ?_;refine sa rfl rfl ?_;refine qc ?_;refine qo ?_;subst hR;exact zb rfl (rv_g rfl)
def qwn (a0 : Int) : Bool :=
 decide (a0 ≠ a0)
theorem q53 {g : GL} (a0 : Int)    : Con (EG g) 192 [G.int a0] (G.bool (qwn a0)) := by
 generalize hR : qwn a0 = R;unfold qwn at hR;refine qm Tryz.func192 rfl rfl fun w0 M0 => ?_;refine qb ?_;refine qa [.p] ?_;refine sa rfl rfl ?_;refine qc ?_;refine qb ?_;refine qa [.p, .p, .p, .p] ?_;refine sm rfl rfl ?_;refine sm rfl rfl ?_;refine su (zy rfl rfl rfl) rfl ?_;refine sa rfl rfl ?_;refine qc ?_;refine qo ?_;subst hR;exact zb rfl (rv_g rfl)
def qze (a0 : S45) (a1 : Int) : Bool :=
 ((decide (a0.fFrom ≤ a1)) && (decide (a1 ≤ a0.fTo))) && (s187 a0.Days (s188 a1))
theorem q81 {g : GL} (a0 : S45) (a1 : Int)  (hf : 0 ≤ a0.fFrom) (ht : a0.fTo ≤ 1000000)  : Con (EG g) 172 [G.agg (S45.c a0), G.int a1] (G.bool (qze a0 a1)) := by
 generalize hR : qze a0 a1 = R;unfold qze at hR;refine qm Tryz.func172 rfl rfl fun w0 M0 => ?_;refine qb ?_;refine qa [.p, .p] ?_;refine su (zi rfl rfl) rfl ?_;refine sa rfl rfl ?_;refine qc ?_;refine qb ?_;refine zw [.p, .p, .p, .p, .p, .p, .p, .p, .p, .p, .p, .p, .p, .p, .p, .p, .p, .p] (by kernel_rfl) ?_;refine sm rfl rfl ?_;refine su (qd rfl qck rfl) rfl ?_;refine su (qg rfl ty3 rfl) rfl ?_;refine su (wj rfl rfl rfl) rfl ?_;refine sm rfl rfl ?_;refine sg rfl rfl (fun h => qk rfl rfl) rfl ?_;refine sg rfl rfl (fun h => qd rfl qbh rfl) rfl ?_;refine sg rfl rfl (fun h => qg rfl ty3 (gd h rfl)) rfl ?_;refine sg rfl rfl (fun h => vp rfl (gd h rfl) (gd h rfl)) rfl ?_;refine su (zx rfl rfl rfl rfl) rfl ?_;refine sm rfl rfl ?_;refine sg rfl rfl (fun h => qd rfl qr5 rfl) rfl ?_;refine sg rfl rfl (fun h => qg rfl ty3 (gd h rfl)) rfl ?_;refine sg rfl rfl (fun h => qk rfl rfl) rfl ?_;refine sg rfl rfl (fun h => qf rfl K188 rfl (c188 a1) (qe (gd h rfl) qj)) rfl ?_;refine sg rfl rfl (fun h => qf rfl K187 rfl (c187 a0.Days (s188 a1) (q8s hf ht h)) (qe (gd h rfl) (qe (gd h rfl) qj))) rfl ?_;refine su (zx rfl rfl rfl rfl) rfl ?_;refine sa rfl rfl ?_;refine qc ?_;refine qo ?_;subst hR;exact zb rfl (rv_g rfl)
def qtw (a0 : S45) (a1 : Int) : Bool × Int :=
 (bif decide ((s152 [(s102 a0), (s153 a1)]) ≠ 0) then (false, (s152 [(s102 a0), (s153 a1)])) else ((qze a0 a1), 0))
theorem q82 {g : GL} (a0 : S45) (a1 : Int)    : Con (EG g) 121 [G.agg (S45.c a0), G.int a1] (G.tup [G.bool ((qtw a0 a1).1), G.int ((qtw a0 a1).2)]) := by
 generalize hR : qtw a0 a1 = R;unfold qtw at hR;refine qm Tryz.func121 rfl rfl fun w0 M0 => ?_;refine qb ?_;refine qa [.p, .p, .p] ?_;refine su (zi rfl rfl) rfl ?_;refine sa rfl rfl ?_;refine sa rfl rfl ?_;refine qc ?_;refine qb ?_;refine qb ?_;refine qa [.p, .p, .p, .p, .p, .p, .p] ?_;refine su (qp rfl ty46 rfl rfl rfl) rfl ?_;refine su (qf rfl K102 rfl (c102 a0) (qe rfl qj)) rfl ?_;refine sm rfl rfl ?_;refine su (qf rfl K153 rfl (c153 a1) (qe rfl qj)) rfl ?_;refine su (qv rfl Tryz.underlying170 ty37 z37 rfl (qw rfl (qw rfl jo)) rfl (by simp []) (by decide)) rfl ?_;refine su (qf rfl K152 rfl (c152 [(s102 a0), (s153 a1)]) (qe rfl qj)) rfl ?_;refine sa rfl rfl ?_;refine qc ?_;refine qb ?_;refine qa [.p, .p] ?_;refine sm rfl rfl ?_;refine su (zy rfl rfl rfl) rfl ?_;refine qc ?_;refine ql _ rfl (fun h1 => ?_) (fun h1 => ?_)
 ·replace h1 : (decide ((s152 [(s102 a0), (s153 a1)]) ≠ 0)) = true := h1;replace hR := zk hR h1;(try simp only [bB] at h1);refine qb ?_;refine qa [.p, .p, .p] ?_;refine sm rfl rfl ?_;refine sa rfl rfl ?_;refine sa rfl rfl ?_;refine qc ?_;refine qo ?_;subst hR;exact resN rfl ⟨rv_g rfl, rv_g rfl, trivial⟩ (by simp)
 ·replace h1 : (decide ((s152 [(s102 a0), (s153 a1)]) ≠ 0)) = false := h1;replace hR := zl hR h1;(try simp only [bB] at h1);obtain ⟨hp, _⟩ := q02 _ _ (Decidable.not_not.1 h1);have hq := wv a0 hp;refine qn ?_;refine qb ?_;refine qa [.p, .p, .p, .p, .p] ?_;refine su (qp rfl ty46 rfl rfl rfl) rfl ?_;refine sm rfl rfl ?_;refine su (qf rfl q83 rfl (q81 a0 a1 (by first | assumption | omega | (simp [qh]; done) | (simp [qh]; omega)) (by first | assumption | omega | (simp [qh]; done) | (simp [qh]; omega))) (qe rfl (qe rfl qj))) rfl ?_;refine sa rfl rfl ?_;refine sa rfl rfl ?_;refine qc ?_;refine qo ?_;subst hR;exact resN rfl ⟨rv_g rfl, rv_g rfl, trivial⟩ (by simp)
def qpi (a0 : S2062) (a1 : Int) : Bool :=
 (decide ((qtw a0.Period a1).2 = 0)) && ((qtw a0.Period a1).1)
theorem q84 {g : GL} (a0 : S2062) (a1 : Int)    : Con (EG g) 62 [G.agg (S2062.c a0), G.int a1] (G.bool (qpi a0 a1)) := by
 generalize hR : qpi a0 a1 = R;unfold qpi at hR;refine qm Tryz.func62 rfl rfl fun w0 M0 => ?_;refine qb ?_;refine qa [.p, .p] ?_;refine su (zi rfl rfl) rfl ?_;refine sa rfl rfl ?_;refine qc ?_;refine qb ?_;refine qa [.p, .p, .p, .p, .p, .p, .p, .p, .p] ?_;refine su (qd rfl qe3 rfl) rfl ?_;refine su (qp rfl ty46 rfl rfl rfl) rfl ?_;refine sm rfl rfl ?_;refine su (qf rfl q85 rfl (q82 a0.Period a1) (qe rfl (qe rfl qj))) rfl ?_;refine sm rfl rfl ?_;refine su (qt rfl rfl rfl) rfl ?_;refine su (qt rfl rfl rfl) rfl ?_;refine sa rfl rfl ?_;refine sa rfl rfl ?_;refine qc ?_;refine qb ?_;refine qa [.p, .p, .p, .p, .p, .p] ?_;refine sm rfl rfl ?_;refine su (jr rfl rfl rfl) rfl ?_;refine sm rfl rfl ?_;refine sg rfl rfl (fun h => qk rfl rfl) rfl ?_;refine su (zx rfl rfl rfl rfl) rfl ?_;refine sa rfl rfl ?_;refine qc ?_;refine qo ?_;subst hR;exact zb rfl (rv_g rfl)
def qb8 (a0 : List Int) (a1 : Int) : Nat → Int → Int → Option (Int × Bool)
 | 0, _, _ => none
 | k3 + 1, x1, x2 => (bif decide (x1 < x2) then zf (ixO a0 ((x1 + x2) / 2)) fun y4 => (bif (qph y4 a1) then qb8 a0 a1 k3 (((x1 + x2) / 2) + 1) x2 else qb8 a0 a1 k3 x1 ((x1 + x2) / 2)) else zf (bif decide (x1 < (List.length a0 : Int)) then ixO a0 x1 else some default) fun y5 => zf (bif (decide (x1 < (List.length a0 : Int))) && (!(decide (y5 = a1))) then ixO a0 x1 else some default) fun y6 => some (x1, (decide (x1 < (List.length a0 : Int))) && ((decide (y5 = a1)) || ((qwn y6) && (qwn a1)))))
def qzf (a0 : List Int) (a1 : Int) : Option (Int × Bool) :=
 qb8 a0 a1 ((((List.length a0 : Int) - 0).toNat) + 1) 0 (List.length a0 : Int)
theorem q86 {g : GL} (a0 : List Int) (a1 : Int) {R : Int × Bool}  (hb : a0.length ≤ 1000) (hR : qzf a0 a1 = some R) : Con (EG g) 173 [G.sl 1 (List.map cInt a0), G.int a1] (G.tup [G.int R.1, G.bool R.2]) := by
 unfold qzf at hR;refine qm Tryz.func173 rfl rfl fun w0 M0 => ?_;refine zp (f := cInt) (l := a0) 0 rfl fun hla0 => ?_;refine qb ?_;refine qa [.p, .p] ?_;refine sa rfl rfl ?_;refine sa rfl rfl ?_;refine qc ?_;refine qb ?_;refine qa [.p, .p, .p] ?_;refine sm rfl rfl ?_;refine su (za (f := cInt) (l := a0) rfl Tryz.underlying132 rfl) rfl ?_;refine sa rfl rfl ?_;refine qc ?_;refine qb ?_;refine qa [.p, .p, .p] ?_;refine sm rfl rfl ?_;refine sa rfl rfl ?_;refine sa rfl rfl ?_;refine qc ?_;refine qb ?_;refine qq ?_;refine zh (γ := Nat × Int × Int) (fun g => ([(0, .g (G.sl 1 (List.map cInt a0))), (1, .g (G.int a1)), (6, .g (G.int (List.length a0 : Int))), (7, .g (G.int g.2.1)), (8, .g (G.int g.2.2))], [])) (fun g => (g.2.2 - g.2.1).toNat < g.1 ∧ 0 ≤ g.2.1 ∧ g.2.1 ≤ g.2.2 ∧ g.2.2 ≤ (List.length a0 : Int) ∧ qb8 a0 a1 g.1 g.2.1 g.2.2 = some R) (fun g => g.1) ⟨rfl, ((((List.length a0 : Int) - 0).toNat) + 1, 0, (List.length a0 : Int)), jA, trivial, rfl, ⟨Nat.lt_succ_self _, iD, iD, iD, (by exact hR)⟩, trivial⟩ ?_
 ·rintro ⟨k3, x1, x2⟩ ⟨hk1, iv1_0, iv1_1, iv1_2, hR⟩;replace hk1 : (x2 - x1).toNat < k3 := hk1;replace hR : qb8 a0 a1 k3 x1 x2 = some R := hR;replace iv1_0 : 0 ≤ x1 := iv1_0;replace iv1_1 : x1 ≤ x2 := iv1_1;replace iv1_2 : x2 ≤ (List.length a0 : Int) := iv1_2;obtain ⟨k3, rfl⟩ : ∃ m, k3 = m + 1 := ⟨k3 - 1, by omega⟩;rw [qb8] at hR;(try dsimp only at hR);refine qb ?_;refine qb ?_;refine qa [.p, .p, .p] ?_;refine sm rfl rfl ?_;refine sm rfl rfl ?_;refine su (zg rfl rfl rfl) rfl ?_;refine qc ?_;refine ql _ rfl (fun h1 => ?_) (fun h1 => ?_)
  ·replace h1 : (decide (x1 < x2)) = true := h1;replace hR := zk hR h1;(try simp only [bB] at h1);refine qn ?_;refine qq ?_;refine qb ?_;refine qa [.p, .p, .p, .p, .p, .p, .p] ?_;refine sm rfl rfl ?_;refine sm rfl rfl ?_;refine su (zn rfl rfl rfl iF) rfl ?_;refine su (qef rfl Tryz.underlying3 Tryz.underlying233 rfl (by (try dsimp only); omega) (by (try dsimp only); omega)) rfl ?_;refine su (qgr rfl rfl rfl (by (try dsimp only); omega)) rfl ?_;refine su (qeg rfl Tryz.underlying233 Tryz.underlying3 rfl iF) rfl ?_;refine sa rfl rfl ?_;refine qc ?_;refine qb ?_;obtain ⟨y4, by4, hR⟩ := qi hR;refine qa [.p, .p, .p, .p, .p, .p] ?_;refine sm rfl rfl ?_;refine sm rfl rfl ?_;refine su (jd (f := cInt) (l := a0) (a := y4) rfl Tryz.underlying132 ty3 rfl rfl (jm by4) (zj by4)) rfl ?_;refine su (qg rfl ty3 rfl) rfl ?_;refine sm rfl rfl ?_;refine su (qf rfl q87 rfl (q80 y4 a1) (qe rfl (qe rfl qj))) rfl ?_;refine qc ?_;refine ql _ rfl (fun h2 => ?_) (fun h2 => ?_)
   ·replace h2 : ((qph y4 a1)) = true := h2;replace hR := zk hR h2;(try simp only [bB] at h2);refine qa [.p, .p, .p] ?_;refine sm rfl rfl ?_;refine su (zn rfl rfl rfl iF) rfl ?_;refine sa rfl rfl ?_;refine qc ?_;exact ⟨rfl, (k3, ((x1 + x2) / 2) + 1, x2), jA, trivial, rfl, ⟨iB, iB, iB, iB, hR⟩, by simp⟩
   ·replace h2 : ((qph y4 a1)) = false := h2;replace hR := zl hR h2;(try simp only [bB] at h2);refine qa [.p, .p] ?_;refine sm rfl rfl ?_;refine sa rfl rfl ?_;refine qc ?_;exact ⟨rfl, (k3, x1, (x1 + x2) / 2), jA, trivial, rfl, ⟨iB, iB, iB, iB, hR⟩, by simp⟩
  ·replace h1 : (decide (x1 < x2)) = false := h1;replace hR := zl hR h1;(try simp only [bB] at h1);refine zt ?_;refine qb ?_;obtain ⟨y5, by5, hR⟩ := qi hR;obtain ⟨y6, by6, hR⟩ := qi hR;refine qa [.p, .p, .p, .p, .p, .p, .p, .p, .p, .p, .p, .p, .p, .p, .p, .p, .p, .p, .p, .p, .p, .p, .p, .p, .p] ?_;refine sm rfl rfl ?_;refine sm rfl rfl ?_;refine sm rfl rfl ?_;refine su (zg rfl rfl rfl) rfl ?_;refine sm rfl rfl ?_;refine sg rfl rfl (fun h => qk rfl rfl) rfl ?_;refine sg rfl rfl (fun h => qk rfl rfl) rfl ?_;refine sg rfl rfl (fun h => jd (f := cInt) (l := a0) (a := y5) rfl Tryz.underlying132 ty3 (gd h rfl) (gd h rfl) (jm (xi by5 h)) (zj (xi by5 h))) rfl ?_;refine sg rfl rfl (fun h => qg rfl ty3 (gd h rfl)) rfl ?_;refine sg rfl rfl (fun h => qk rfl rfl) rfl ?_;refine sg rfl rfl (fun h => jr rfl (gd h rfl) (gd h rfl)) rfl ?_;refine sg rfl rfl (fun h => qk rfl (gd h rfl)) rfl ?_;refine st_g rfl rfl rfl (jz _ _ _) (fun h => qk rfl rfl) rfl ?_;refine st_g rfl rfl rfl (jz _ _ _) (fun h => qk rfl rfl) rfl ?_;refine st_g rfl rfl rfl (jz _ _ _) (fun h => jd (f := cInt) (l := a0) (a := y6) rfl Tryz.underlying132 ty3 (gd h rfl) (gd h rfl) (jm (q5b by6 h)) (zj (q5b by6 h))) rfl ?_;refine st_g rfl rfl rfl (jz _ _ _) (fun h => qg rfl ty3 (gd h rfl)) rfl ?_;refine st_g rfl rfl rfl (jz _ _ _) (fun h => qf rfl q54 rfl (q53 y6) (qe (gd h rfl) qj)) rfl ?_;refine st_g rfl rfl rfl (jz _ _ _) (fun h => qk rfl (gd h rfl)) rfl ?_;refine st_g rfl rfl rfl (jz _ _ _) (fun h => qk rfl rfl) rfl ?_;refine st_g rfl rfl rfl (jz _ _ _) (fun h => qf rfl q54 rfl (q53 a1) (qe (gd h rfl) qj)) rfl ?_;refine st_g rfl rfl rfl (jz _ _ _) (fun h => zx rfl (gd h rfl) rfl (gd2 h rfl)) rfl ?_;refine sg rfl rfl (fun h => jl rfl (gd h rfl) rfl (gd2 h rfl)) rfl ?_;refine su (zx rfl rfl rfl rfl) rfl ?_;refine sa rfl rfl ?_;refine sa rfl rfl ?_;refine qc ?_;refine qo ?_;obtain rfl := Option.some.inj hR;exact resN rfl ⟨rv_g rfl, rv_g rfl, trivial⟩ (by simp)
def qtx (a0 : List Int) (a1 : Int) : Option Int :=
 zf (qzf a0 a1) fun r1 => some r1.1
theorem q55 {g : GL} (a0 : List Int) (a1 : Int) {R : Int}  (hb : a0.length ≤ 1000) (hR : qtx a0 a1 = some R) : Con (EG g) 123 [G.sl 1 (List.map cInt a0), G.int a1] (G.int R) := by
 unfold qtx at hR;refine qm Tryz.func123 rfl rfl fun w0 M0 => ?_;refine zp (f := cInt) (l := a0) 0 rfl fun hla0 => ?_;refine qb ?_;refine qa [.p] ?_;refine sa rfl rfl ?_;refine qc ?_;refine qb ?_;obtain ⟨r1, br1, hR⟩ := qi hR;refine qa [.p, .p, .p, .p, .p, .p, .p, .p] ?_;refine sm rfl rfl ?_;refine sm rfl rfl ?_;refine su (qf rfl q88 rfl (q86 a0 a1 (by first | assumption | omega | (simp [qh]; done) | (simp [qh]; omega)) br1) (qe rfl (qe rfl qj))) rfl ?_;refine sm rfl rfl ?_;refine su (qt rfl rfl rfl) rfl ?_;refine su (qt rfl rfl rfl) rfl ?_;refine sa rfl rfl ?_;refine sa rfl rfl ?_;refine qc ?_;refine qb ?_;refine qa [.p, .p] ?_;refine sm rfl rfl ?_;refine sa rfl rfl ?_;refine qc ?_;refine qo ?_;obtain rfl := Option.some.inj hR;exact zb rfl (rv_g rfl)
def qzg (a0 : List Int) (a1 : Int) (a2 : Int) : Option Int :=
 zf (qtx a0 (IntKind.i64.wrap (a1 + a2))) fun r1 => zf (qtx a0 a1) fun r2 => some (IntKind.i64.wrap (r1 - r2))
theorem q23 {g : GL} (a0 : List Int) (a1 : Int) (a2 : Int) {R : Int}  (hb : a0.length ≤ 1000) (hR : qzg a0 a1 a2 = some R) : Con (EG g) 65 [G.sl 1 (List.map cInt a0), G.int a1, G.int a2] (G.int R) := by
 unfold qzg at hR;refine qm Tryz.func65 rfl rfl fun w0 M0 => ?_;refine zp (f := cInt) (l := a0) 0 rfl fun hla0 => ?_;refine qb ?_;refine qa [.p] ?_;refine sa rfl rfl ?_;refine qc ?_;refine qb ?_;obtain ⟨r1, br1, hR⟩ := qi hR;obtain ⟨r2, br2, hR⟩ := qi hR;refine qa [.p, .p, .p, .p, .p, .p, .p, .p, .p, .p] ?_;refine sm rfl rfl ?_;refine sm rfl rfl ?_;refine sm rfl rfl ?_;refine su (kp rfl rfl rfl) rfl ?_;refine su (qf rfl q56 rfl (q55 a0 (IntKind.i64.wrap (a1 + a2)) (by first | assumption | omega | (simp [qh]; done) | (simp [qh]; omega)) br1) (qe rfl (qe rfl qj))) rfl ?_;refine sm rfl rfl ?_;refine sm rfl rfl ?_;refine su (qf rfl q56 rfl (q55 a0 a1 (by first | assumption | omega | (simp [qh]; done) | (simp [qh]; omega)) br2) (qe rfl (qe rfl qj))) rfl ?_;refine su (kw rfl rfl rfl) rfl ?_;refine sa rfl rfl ?_;refine qc ?_;refine qo ?_;obtain rfl := Option.some.inj hR;exact zb rfl (rv_g rfl)
def qs8 (a0 : S2062) (a1 : ByteArray) : Bool :=
 decide (a0.Name = a1)
theorem q89 {g : GL} (a0 : S2062) (a1 : ByteArray)    : Con (EG g) 152 [G.agg (S2062.c a0), G.ref [G.str a1]] (G.bool (qs8 a0 a1)) := by
 generalize hR : qs8 a0 a1 = R;unfold qs8 at hR;refine qm Tryz.func152 rfl rfl fun w0 M0 => ?_;refine qb ?_;refine qa [.p, .p] ?_;refine su (zi rfl rfl) rfl ?_;refine sa rfl rfl ?_;refine qc ?_;refine qb ?_;refine qa [.p, .p, .p, .p, .p] ?_;refine su (qd rfl qnk rfl) rfl ?_;refine su (qg rfl ty9 rfl) rfl ?_;refine su (qg rfl ty9 rfl) rfl ?_;refine su (vz rfl rfl rfl) rfl ?_;refine sa rfl rfl ?_;refine qc ?_;refine qo ?_;subst hR;exact zb rfl (rv_g rfl)
def qb2 (a1 : S2062 → Bool) : List S2062 → Nat → Int
 | [], k2 => (-1)
 | y3 :: t4, k2 => (bif (a1 y3) then ((k2 : Nat) : Int) else qb2 a1 t4 (k2 + 1))
def qu7 (a0 : List S2062) (a1 : S2062 → Bool) : Int :=
 qb2 a1 a0 0
theorem q9a {g : GL} (a0 : List S2062) (a1 : S2062 → Bool) {ca1 : G} {ia1 : FuncId} {ka1 : List G} (ha1 : FnIs ca1 ia1 ka1) (Ka1 : ze Tryz.prog ia1) (Ha1 : ∀ (x0 : S2062), Con (EG g) ia1 ([G.agg (S2062.c x0)] ++ ka1) (G.bool (a1 x0)))   : Con (EG g) 151 [G.sl 11 (List.map S2062.c a0), ca1] (G.int (qu7 a0 a1)) := by
 generalize hR : qu7 a0 a1 = R;unfold qu7 at hR;refine qm Tryz.func151 rfl rfl fun w0 M0 => ?_;refine zp (f := S2062.c) (l := a0) 0 rfl fun hla0 => ?_;refine qb ?_;refine qa [.p] ?_;refine sa rfl rfl ?_;refine qc ?_;refine qb ?_;refine qb ?_;refine qa [.p, .p, .p] ?_;refine sm rfl rfl ?_;refine su (za (f := S2062.c) (l := a0) rfl Tryz.underlying22 rfl) rfl ?_;refine sm rfl rfl ?_;refine qc ?_;refine qq ?_;refine zh (γ := Nat × (List S2062)) (fun g => ([(0, .g (G.sl 11 (List.map S2062.c a0))), (1, .g (ca1)), (7, .g (G.int (List.length a0 : Int))), (8, .g (G.int ((g.1 : Nat) : Int)))], [])) (fun g => a0.drop g.1 = g.2 ∧ qb2 a1 g.2 g.1 = R) (fun g => List.length g.2) ⟨rfl, (0, a0), jA, trivial, rfl, ⟨rfl, (by exact hR)⟩, trivial⟩ ?_
 ·rintro ⟨k2, t4⟩ ⟨hd, hR⟩;replace hd : a0.drop k2 = t4 := hd;replace hR : qb2 a1 t4 k2 = R := hR;refine qb ?_;refine qa [.p] ?_;refine su (zg rfl rfl rfl) rfl ?_;refine qc ?_;refine zp (f := S2062.c) (l := a0) 0 rfl fun hlz1 => ?_;refine qb ?_;refine ql _ rfl (fun h1 => ?_) (fun h1 => ?_)
  ·replace h1 : (decide (((k2 : Nat) : Int) < (List.length a0 : Int))) = true := h1;obtain ⟨y3, t4, rfl, hx1, hd⟩ := zq hd (decT h1);replace h1 := decT h1;rw [qb2] at hR;(try dsimp only at hR);refine qn ?_;refine qb ?_;refine qq ?_;refine qb ?_;refine qa [.p, .p] ?_;refine sm rfl rfl ?_;refine sa rfl rfl ?_;refine qc ?_;refine qb ?_;refine qa [.p, .p, .p, .p, .p, .p] ?_;refine sm rfl rfl ?_;refine sm rfl rfl ?_;refine sm rfl rfl ?_;refine su (jd (f := S2062.c) (l := a0) (a := y3) rfl Tryz.underlying22 kz rfl rfl (Int.natCast_nonneg _) hx1) rfl ?_;refine su (qp rfl kz rfl rfl rfl) rfl ?_;refine su (xm rfl ha1 Ka1 rfl (Ha1 y3) (qe rfl qj)) rfl ?_;refine qc ?_;refine ql _ rfl (fun h3 => ?_) (fun h3 => ?_)
   ·replace hR := zk hR h3;refine qb ?_;refine qa [.p, .p] ?_;refine sm rfl rfl ?_;refine sa rfl rfl ?_;refine qc ?_;refine qo ?_;subst hR;exact zb rfl (rv_g rfl)
   ·replace h3 : ((a1 y3)) = false := h3;replace hR := zl hR h3;(try simp only [bB] at h3);refine qn ?_;refine qa [.p, .p] ?_;refine su (zn rfl rfl rfl iE) rfl ?_;refine sm rfl rfl ?_;refine qc ?_;exact ⟨rfl, (k2 + 1, t4), jA, trivial, rfl, ⟨hd, hR⟩, by simp⟩
  ·replace h1 : (decide (((k2 : Nat) : Int) < (List.length a0 : Int))) = false := h1;obtain rfl := z8 hd (decF h1);rw [qb2] at hR;refine zt ?_;refine qb ?_;refine qa [.p] ?_;refine sa rfl rfl ?_;refine qc ?_;refine qo ?_;subst hR;exact zb rfl (rv_g rfl)
def qj4 (a0 : List S2062) (a1 : ByteArray) : Int :=
 (qu7 a0 (fun x0 => qs8 x0 a1))
theorem q9b {g : GL} (a0 : List S2062) (a1 : ByteArray)    : Con (EG g) 107 [G.sl 11 (List.map S2062.c a0), G.str a1] (G.int (qj4 a0 a1)) := by
 generalize hR : qj4 a0 a1 = R;unfold qj4 at hR;refine qm Tryz.func107 rfl rfl fun w0 M0 => ?_;refine zp (f := S2062.c) (l := a0) 0 rfl fun hla0 => ?_;refine qb ?_;refine qa [.p, .p] ?_;refine su (zi rfl rfl) rfl ?_;refine sa rfl rfl ?_;refine qc ?_;refine qb ?_;refine qa [.p, .p, .p, .p] ?_;refine sm rfl rfl ?_;refine su (ww rfl rfl rfl) rfl ?_;refine su (qf rfl q9c rfl (q9a a0 (fun x0 => qs8 x0 a1) qkl q9d (fun x0 => q89 x0 a1)) (qe rfl (qe rfl qj))) rfl ?_;refine sa rfl rfl ?_;refine qc ?_;refine qo ?_;subst hR;exact zb rfl (rv_g rfl)
def qa7 (a0 : List S2062) : List S2062 → Nat → Int
 | [], k2 => 0
 | y3 :: t4, k2 => (bif decide ((vx [(qf5 y3), (xa (decide (0 ≤ (qj4 (List.take (Int.toNat ((k2 : Nat) : Int)) a0) y3.Name))) 9)]) ≠ 0) then (vx [(qf5 y3), (xa (decide (0 ≤ (qj4 (List.take (Int.toNat ((k2 : Nat) : Int)) a0) y3.Name))) 9)]) else qa7 a0 t4 (k2 + 1))
def wm (a0 : List S2062) : Int :=
 (bif decide (32 < (List.length a0 : Int)) then 5 else qa7 a0 a0 0)
theorem q24 {g : GL} (a0 : List S2062)    : Con (EG g) 50 [G.sl 11 (List.map S2062.c a0)] (G.int (wm a0)) := by
 generalize hR : wm a0 = R;unfold wm at hR;refine qm Tryz.func50 rfl rfl fun w0 M0 => ?_;refine zp (f := S2062.c) (l := a0) 0 rfl fun hla0 => ?_;refine qb ?_;refine qa [.p] ?_;refine sa rfl rfl ?_;refine qc ?_;refine qb ?_;refine qb ?_;refine qa [.p, .p, .p] ?_;refine sm rfl rfl ?_;refine su (za (f := S2062.c) (l := a0) rfl Tryz.underlying22 rfl) rfl ?_;refine su (ja rfl rfl rfl) rfl ?_;refine qc ?_;refine ql _ rfl (fun h1 => ?_) (fun h1 => ?_)
 ·replace hR := zk hR h1;refine qb ?_;refine qa [.p] ?_;refine sa rfl rfl ?_;refine qc ?_;refine qo ?_;subst hR;exact zb rfl (rv_g rfl)
 ·replace h1 : (decide (32 < (List.length a0 : Int))) = false := h1;replace hR := zl hR h1;(try simp only [bB] at h1);refine qn ?_;refine qb ?_;refine qb ?_;refine qa [.p, .p, .p] ?_;refine sm rfl rfl ?_;refine su (za (f := S2062.c) (l := a0) rfl Tryz.underlying22 rfl) rfl ?_;refine sm rfl rfl ?_;refine qc ?_;refine qq ?_;refine zh (γ := Nat × (List S2062)) (fun g => ([(0, .g (G.sl 11 (List.map S2062.c a0))), (9, .g (G.sl 11 (List.map S2062.c a0))), (10, .g (G.int (List.length a0 : Int))), (11, .g (G.int ((g.1 : Nat) : Int)))], [])) (fun g => a0.drop g.1 = g.2 ∧ qa7 a0 g.2 g.1 = R) (fun g => List.length g.2) ⟨rfl, (0, a0), jA, trivial, rfl, ⟨rfl, (by exact hR)⟩, trivial⟩ ?_
  ·rintro ⟨k2, t4⟩ ⟨hd, hR⟩;replace hd : a0.drop k2 = t4 := hd;replace hR : qa7 a0 t4 k2 = R := hR;refine qb ?_;refine qa [.p] ?_;refine su (zg rfl rfl rfl) rfl ?_;refine qc ?_;refine zp (f := S2062.c) (l := a0) 0 rfl fun hlz1 => ?_;refine qb ?_;refine ql _ rfl (fun h2 => ?_) (fun h2 => ?_)
   ·replace h2 : (decide (((k2 : Nat) : Int) < (List.length a0 : Int))) = true := h2;obtain ⟨y3, t4, rfl, hx1, hd⟩ := zq hd (decT h2);replace h2 := decT h2;rw [qa7] at hR;(try dsimp only at hR);refine qn ?_;refine qb ?_;refine qq ?_;refine qb ?_;refine qa [.p, .p, .p, .w, .p, .w] ?_;refine sm rfl rfl ?_;refine su (jd (f := S2062.c) (l := a0) (a := y3) rfl Tryz.underlying22 kz rfl rfl (Int.natCast_nonneg _) hx1) rfl ?_;refine su (qp rfl kz rfl rfl rfl) rfl ?_;refine sw (zc 4 rfl qwo rfl rfl) rfl ?_;refine sa rfl rfl ?_;refine jb rfl rfl (qu (tv := .g (G.agg (S2062.c y3))) rfl kz rfl rfl rfl rfl rfl) ?_;refine qc ?_;refine qb ?_;refine zw [.r, .p, .p, .p, .p, .p, .r, .p, .p, .p, .p, .p, .p] (by kernel_rfl) ?_;refine sr (zm rfl kz rfl rfl rfl rfl) rfl ?_;refine su (qf rfl q9e rfl (q8z y3) (qe rfl qj)) rfl ?_;refine sm rfl rfl ?_;refine sm rfl rfl ?_;refine su (qh1 (f := S2062.c) (l := a0) rfl Tryz.underlying22 kz rfl qcy (qcz rfl (Int.natCast_nonneg _)) (Nat.zero_le _) (qou hx1)) rfl ?_;refine su (qy rfl qnk rfl) rfl ?_;refine sr (zo rfl ty9 rfl rfl rfl) rfl ?_;refine su (qf rfl q9f rfl (q9b (List.take (Int.toNat ((k2 : Nat) : Int)) a0) y3.Name) (qe rfl (qe rfl qj))) rfl ?_;refine su (wj rfl rfl rfl) rfl ?_;refine su (qf rfl qi6 rfl (qi5 (decide (0 ≤ (qj4 (List.take (Int.toNat ((k2 : Nat) : Int)) a0) y3.Name))) 9) (qe rfl (qe rfl qj))) rfl ?_;refine su (qv rfl Tryz.underlying170 ty37 z37 rfl (qw rfl (qw rfl jo)) rfl (by simp []) (by decide)) rfl ?_;refine su (qf rfl qks rfl (qkq [(qf5 y3), (xa (decide (0 ≤ (qj4 (List.take (Int.toNat ((k2 : Nat) : Int)) a0) y3.Name))) 9)]) (qe rfl qj)) rfl ?_;refine sa rfl rfl ?_;refine qc ?_;refine qb ?_;refine qa [.p, .p] ?_;refine sm rfl rfl ?_;refine su (zy rfl rfl rfl) rfl ?_;refine qc ?_;refine ql _ rfl (fun h4 => ?_) (fun h4 => ?_)
    ·replace hR := zk hR h4;refine qb ?_;refine qa [.p, .p] ?_;refine sm rfl rfl ?_;refine sa rfl rfl ?_;refine qc ?_;refine qo ?_;subst hR;exact zb rfl (rv_g rfl)
    ·replace h4 : (decide ((vx [(qf5 y3), (xa (decide (0 ≤ (qj4 (List.take (Int.toNat ((k2 : Nat) : Int)) a0) y3.Name))) 9)]) ≠ 0)) = false := h4;replace hR := zl hR h4;(try simp only [bB] at h4);refine qn ?_;refine qa [.p, .p] ?_;refine su (zn rfl rfl rfl iE) rfl ?_;refine sm rfl rfl ?_;refine qc ?_;exact ⟨rfl, (k2 + 1, t4), jA, trivial, rfl, ⟨hd, hR⟩, by simp⟩
   ·replace h2 : (decide (((k2 : Nat) : Int) < (List.length a0 : Int))) = false := h2;obtain rfl := z8 hd (decF h2);rw [qa7] at hR;refine zt ?_;refine qb ?_;refine qa [.p] ?_;refine sa rfl rfl ?_;refine qc ?_;refine qo ?_;subst hR;exact zb rfl (rv_g rfl)
open Go.WideMaps (KeyLaw)
structure KOk (P : Program) (kt : TypeId) {K : Type} (kf : K → Value) (ok : K → Prop) : Prop where
 law : KeyLaw P kt
 key : ∀ k, ok k → ∃ l, keyOf P kt (kf k) = some l
 inj : ∀ a b, kf a = kf b → a = b
section
variable {E : Env} {w0 : World} {M0 : Nat → Prop}
section find
variable {P : Program} {kt : TypeId} {K V : Type} [DecidableEq K] {kf : K → Value} {ok : K → Prop} {vf : V → G} {M : Nat → Prop}
theorem qqx {k : K} (inj : ∀ a b, kf a = kf b → a = b) {w : World} : ∀ {m : List (K × V)} {l : List MapEntry}, MFits w M (m.map fun p => (kf p.1, vf p.2)) l → (l.map (·.key)).Nodup →
  (mget m k = none ∧ (∀ x ∈ l, x.key ≠ kf k) ∧ ∀ v, mset m k v = m ++ [(k, v)]) ∨
  ∃ j e b, mget m k = some b ∧ l[j]? = some e ∧ e.key = kf k ∧ (vf b).p w M e.val ∧ (∀ v, mset m k v = m.set j (k, v)) ∧ ∀ j' e', l[j']? = some e' → e'.key = kf k → j' = j
 | [], [], _, _ => .inl ⟨rfl, by simp, fun _ => rfl⟩
 | (a, b) :: m, e :: l, h, hn => by
  obtain ⟨⟨h1, h2⟩, h3⟩ := h;rw [List.map_cons, List.nodup_cons] at hn
  by_cases hak : a = k
  ·subst hak;refine .inr ⟨0, e, b, by simp [mget], rfl, h1, h2, fun v => by simp [mset], fun j' e' hj hk => ?_⟩
   cases j' with
   | zero => rfl
   | succ j' =>
    exfalso
    apply hn.1
    have hm : e' ∈ l := List.mem_of_getElem? (by simpa using hj);rw [show e.key = e'.key from h1.trans hk.symm];exact List.mem_map_of_mem hm
  ·have hne : e.key ≠ kf k := fun q => hak (inj a k (h1.symm.trans q))
   rcases qqx (k := k) inj h3 hn.2 with ⟨g1, g3, g4⟩ | ⟨j, e', b', g1, g3, g4, g5, g6, g7⟩
   ·exact .inl ⟨by simp [mget, hak, g1], fun x hx => by
     rcases List.mem_cons.1 hx with rfl | hx
     ·exact hne
     ·exact g3 x hx, fun v => by simp [mset, hak, g4]⟩
   ·refine .inr ⟨j + 1, e', b', by simp [mget, hak, g1], by simpa using g3, g4, g5, fun v => by simp [mset, hak, g6], fun j' e2 hj hk => ?_⟩
    cases j' with
    | zero => simp at hj; subst hj; exact absurd hk hne
    | succ j' => rw [g7 j' e2 (by simpa using hj) hk]
 | [], _ :: _, h, _ => h.elim
 | _ :: _, [], h, _ => h.elim
theorem q04 {k : K} (KO : KOk P kt kf ok) (hk : ok k) (w : World) {m : List (K × V)} {l : List MapEntry} (h : MFits w M (m.map fun p => (kf p.1, vf p.2)) l) (hn : (l.map (·.key)).Nodup) (hm : ∀ p ∈ m, ok p.1) :
  (mget m k = none ∧ (Instr.findKey kt (kf k) l).run P w = .ok none w ∧ (∀ x ∈ l, x.key ≠ kf k) ∧ ∀ v, mset m k v = m ++ [(k, v)]) ∨
  ∃ j e b, mget m k = some b ∧ (Instr.findKey kt (kf k) l).run P w = .ok (some (j, e.val)) w ∧ l[j]? = some e ∧ e.key = kf k ∧ (vf b).p w M e.val ∧ ∀ v, mset m k v = m.set j (k, v) := by
 obtain ⟨lk, hlk⟩ := KO.key k hk
 have hkeys : ∀ e ∈ l, ∃ q, keyOf P kt e.key = some q := by
  have : ∀ {m : List (K × V)} {l : List MapEntry}, (∀ p ∈ m, ok p.1) → MFits w M (m.map fun p => (kf p.1, vf p.2)) l → ∀ e ∈ l, ∃ q, keyOf P kt e.key = some q := by
   intro m
   induction m with
   | nil => intro l hm h e he; cases l with
    | nil => cases he
    | cons => exact h.elim
   | cons p m ih => intro l hm h e he; cases l with
    | nil => cases he
    | cons e0 l =>
     rcases List.mem_cons.1 he with rfl | he
     ·obtain ⟨q, hq⟩ := KO.key p.1 (hm p List.mem_cons_self);exact ⟨q, by rw [h.1.1]; exact hq⟩
     ·exact ih (fun q hq => hm q (List.mem_cons_of_mem _ hq)) h.2 e he
  exact this hm h
 rcases KO.law.find w hlk l hkeys with ⟨f1, f2⟩ | ⟨j, e, f1, f2, f3⟩
 ·rcases qqx (k := k) KO.inj h hn with ⟨g1, g3, g4⟩ | ⟨j, e, b, g1, g3, g4, g5, g6, g7⟩
  ·exact .inl ⟨g1, f1, g3, g4⟩
  ·exact absurd g4 (f2 e (List.mem_of_getElem? g3))
 ·rcases qqx (k := k) KO.inj h hn with ⟨g1, g3, g4⟩ | ⟨j', e', b, g1, g3, g4, g5, g6, g7⟩
  ·exact absurd f3 (g3 e (List.mem_of_getElem? f2))
  ·have hj := g7 j e f2 f3;subst hj;rw [f2] at g3
   cases g3
   exact .inr ⟨j, e, b, g1, f1, f2, g4, g5, g6⟩
end find
section ops
variable {K V : Type} [DecidableEq K] {kf : K → Value} {ok : K → Prop} {vf : V → G} {o : Oper} {mem : Mem} {ev : Operand → TV} {t kt et : TypeId} {x ix : Operand} {id : Nat} {m : List (K × V)} {k : K} {z : V}
theorem qqy (KO : KOk E.P kt kf ok) (hk : ok k) (hmk : ∀ p ∈ m, ok p.1) {ρ : Rho} {w : World} (hm : MRel E w0 M0 ρ mem w) (ht : E.P.underlying t = some (.map kt et)) {zv : Value} (hz : (E.P.info? et).bind (·.zero) = some zv) (hz0 : ∀ w M, (vf z).p w M zv)
  (hb : qr mem id = some (mpB kf vf m)) {v : Value} (hv : TRel w (qz M0 ρ) ρ (.omap id) v) (ok : Bool) : ∃ u, (vf (vd m k z)).p w (qz M0 ρ) u ∧ (Instr.lookup t v (kf k) ok).run E.P w = .ok (if ok then .tuple #[u, .bool (mhas m k)] else u) w := by
 obtain ⟨ow, en, cl, h1, rfl, h2, h3, h4⟩ := qkd hm hb hv
 have hzr : (zeroValue et).run E.P w = .ok zv w := by
  cases hi : E.P.info? et with
  | none => rw [hi] at hz; cases hz
  | some i =>
   rw [hi] at hz;have hz : i.zero = some zv := hz
   simp [zeroValue, typeInfo, hi, hz]
 obtain ⟨lk, hlk⟩ := KO.key k hk;have hck := KO.law.check w en.isEmpty hlk
 rcases q04 (k := k) KO hk w h3 h4.2.2 hmk with ⟨g1, g2, _⟩ | ⟨j, e, b, g1, g2, g3, g4, g5, _⟩
 ·refine ⟨zv, by simp only [vd, g1]; exact hz0 _ _, ?_⟩
  simp [Instr.lookup, run_underlying ht, MapKept.run_getObj_map h2, hck, g2, hzr, mhas, g1]
 ·refine ⟨e.val, by simp only [vd, g1]; exact g5, ?_⟩
  simp [Instr.lookup, run_underlying ht, MapKept.run_getObj_map h2, hck, g2, mhas, g1]
theorem qpj (KO : KOk E.P kt kf ok) (hk : ok k) (hmk : ∀ p ∈ m, ok p.1) {zv : Value} (ho : o.op = .lookup t x ix true) (ht : E.P.underlying t = some (.map kt et)) (hz : (E.P.info? et).bind (·.zero) = some zv) (hz0 : ∀ w M, (vf z).p w M zv)
  (hx : ev x = .omap id) (hi2 : ∀ w M ρ u, TRel w M ρ (ev ix) u → u = kf k) (hb : qr mem id = some (mpB kf vf m)) : Eff E o mem ev (.g (.tup [vf (vd m k z), G.bool (mhas m k)])) := by
 intro w0 M0 ρ w e hm he;have h1 := he x (by rw [ho]; simp [Op.operands]);rw [hx] at h1;have h2 := he ix (by rw [ho]; simp [Op.operands]);have h2' : e ix = kf k := hi2 _ _ _ _ h2;obtain ⟨u, g1, g2⟩ := qqy (z := z) (k := k) KO hk hmk hm ht hz hz0 hb h1 true
 have : (execOp e o).run E.P w = .ok (.value (.tuple #[u, .bool (mhas m k)])) w := by simp only [execOp, ho, h2', Sem.run_bind, g2, Result.andThen_ok, Sem.run_pure]; rfl
 rw [this];exact ⟨Grow.refl w, [u, .bool (mhas m k)], rfl, g1, rfl, trivial⟩
theorem qqz (KO : KOk E.P kt kf ok) (hk : ok k) (hmk : ∀ p ∈ m, ok p.1) {y : Operand} {v : V} {ins : Bool} (ho : o.op = (if ins then .insert t x ix y else .mapUpdate t x ix y)) (ht : E.P.underlying t = some (.map kt et))
  (hx : ev x = .omap id) (hi2 : ∀ w M ρ u, TRel w M ρ (ev ix) u → u = kf k) (hy : ev y = .g (vf v)) (hb : qr mem id = some (mpB kf vf m)) : EffW E o mem ev wu ((id, mpB kf vf (mset m k v)) :: mem) none := by
 intro w0 M0 ρ w e' hm he
 have hop : ∀ (P : Op → Prop), P (.insert t x ix y) → P (.mapUpdate t x ix y) → P o.op := fun P h1 h2 => by rw [ho]; cases ins <;> assumption
 have hmem : ∀ q, q = x ∨ q = ix ∨ q = y → q ∈ o.op.operands := fun q hq => by
  rw [ho]; cases ins <;> simp [Op.operands] <;> exact hq
 have h1 := he x (hmem _ (.inl rfl));rw [hx] at h1;have h2 := he ix (hmem _ (.inr (.inl rfl)));have h2' : e' ix = kf k := hi2 _ _ _ _ h2;have h3 := he y (hmem _ (.inr (.inr rfl)));rw [hy] at h3;have h3' : (vf v).p w (qz M0 ρ) (e' y) := h3;obtain ⟨ow, en, cl, g1, g2, g3, g4, g5⟩ := qkd hm hb h1;obtain ⟨lk, hlk⟩ := KO.key k hk;have hck := KO.law.check w false hlk
 have hexec : execOp e' o = (do Instr.mapUpdate t (e' x) (e' ix) (e' y); pure .skip) := by cases ins <;> simp [execOp, ho]
 have hset : ∀ (ob : Obj), (w.heap.setIfInBounds ow.b ob).size = w.heap.size := fun ob => by simp
 have hlt : ow.b < w.heap.size := (Array.getElem?_eq_some_iff.1 g3).1
 -- what the new map is
 obtain ⟨en', cl', hrun, hf, hst⟩ : ∃ en' cl', (Instr.mapUpdate t (e' x) (e' ix) (e' y)).run E.P w = .ok () { w with heap := w.heap.setIfInBounds ow.b (.map en' cl') } ∧ MFits w (qz M0 ρ) ((mset m k v).map fun p => (kf p.1, vf p.2)) en'.toList ∧ MapKept.Stamped en' cl' := by
  rcases q04 (k := k) KO hk w g4 g5.2.2 hmk with ⟨q1, q2, q3, q4⟩ | ⟨j, e, b, q1, q2, q3, q4, q5, q6⟩
  ·refine ⟨en.push { key := kf k, val := e' y, born := cl }, cl + 1, ?_, ?_, MapKept.stamped_push g5 q3⟩
   ·simp [Instr.mapUpdate, g2, h2', run_underlying ht, MapKept.run_getObj_map g3, hck, q2, MapKept.run_setObj_map _ g3]
   ·rw [q4 v, List.map_append, Array.toList_push];exact MFits.push g4 rfl h3'
  ·have hj : en[j]? = some e := by simpa using q3
   refine ⟨en.modify j fun e => { e with key := kf k, val := e' y }, cl, ?_, ?_, MapKept.stamped_modify g5 _ _ (fun _ _ => rfl) (fun e0 _ he0 => by rw [hj] at he0; cases he0; exact q4.symm)⟩
   ·simp [Instr.mapUpdate, g2, h2', run_underlying ht, MapKept.run_getObj_map g3, hck, q2, hj, q4, KO.law.stays w hlk, MapKept.run_setObj_map _ g3]
   ·rw [q6 v, qgh q3, List.map_set];exact MFits.set j g4 rfl h3'
 have hrun2 : (execOp e' o).run E.P w = .ok .skip { w with heap := w.heap.setIfInBounds ow.b (.map en' cl') } := by rw [hexec, Sem.run_bind, hrun]; rfl
 rw [hrun2];have hoth := (MapKept.heap_set (o' := .map en' cl') g3).2;have hd : Diff ρ id w { w with heap := w.heap.setIfInBounds ow.b (.map en' cl') } := ⟨rfl, rfl, rfl, by simp, fun b _ hne => hoth b (hne ow g1)⟩
 have hM : ∀ b, b < w.heap.size → qz M0 (ji ρ id (some ow)) b → qz M0 ρ b := by
  rintro b hb (h | ⟨i, o, h, rfl⟩)
  ·exact .inl h
  ·by_cases hi : i = id
   ·subst hi; rw [qx] at h; cases h; exact .inr ⟨i, ow, g1, rfl⟩
   ·exact .inr ⟨i, o, by simpa [ji, hi] using h, rfl⟩
 have hh : ∀ b, b < w.heap.size → ¬ qz M0 ρ b → ({ w with heap := w.heap.setIfInBounds ow.b (.map en' cl') } : World).heap[b]? = w.heap[b]? := fun b _ hno => hoth b fun he => hno (.inr ⟨id, ow, g1, he.symm⟩);obtain ⟨k1, k2⟩ := j9 (id := id) (x := some ow) (blk' := mpB kf vf (mset m k v)) none hm hd (fun o ho => by cases ho; exact ⟨.inr ⟨ow, g1, rfl⟩, by simpa using hlt⟩) (.inr ⟨rfl, .inr g1⟩) (fun _ b _ _ => z5 b) (.inl rfl)
  ⟨ow, en', cl', qx _ _ _, (MapKept.heap_set (o' := .map en' cl') g3).1, hf.mono hh hM, hst⟩
 exact ⟨_, k1, k2, rfl⟩
end ops
end
end Go.Sim
set_option maxRecDepth 10000
namespace Go.Sim
open Go.Proofs
def kf2 (p : ByteArray × ByteArray) : Value := .agg #[.string p.1, .string p.2]
def ok2 (p : ByteArray × ByteArray) : Prop := p.1.size ≤ 1000 ∧ p.2.size ≤ 1000
theorem lay2 : laidOutB Tryz.prog = true := by kernel_rfl
theorem u167 : Tryz.prog.underlying 191 = some (.array 2 9) := by kernel_rfl
theorem q9g : Tryz.prog.keyType 191 = true := by kernel_rfl
theorem q57 : Tryz.prog.cellsOf 191 = 2 := by kernel_rfl
theorem co9 : Tryz.prog.cellsOf 9 = 1 := by kernel_rfl
theorem sz0 : ∃ n, Tryz.prog.types.size + 1 = n + 2 := ⟨Tryz.prog.types.size - 1, by
 have : 1 ≤ Tryz.prog.types.size := of_decide_eq_true (by kernel_rfl)
 omega⟩
theorem ko2 : KOk Tryz.prog 191 kf2 ok2 where
 law := deep_law_laid lay2 (m := 3) (by decide) (k := 191) (of_decide_eq_true (by kernel_rfl)) (by kernel_rfl) (by kernel_rfl)
 key := fun p hp => by
  obtain ⟨n, hn⟩ := sz0
  have h1 : p.1.size ≤ maxLen := by have := hp.1; unfold maxLen; omega
  have h2 : p.2.size ≤ maxLen := by have := hp.2; unfold maxLen; omega
  have hf : (kf2 p).formed Tryz.prog 191 = true := by
   unfold kf2 Value.formed;rw [u167, q57]; rfl
  have hl : (Tryz.prog.keyLits (n + 2) 191 (kf2 p).cells.toList) = some [Lit.string p.1.data.toList, Lit.string p.2.data.toList] := by
   unfold Program.keyLits;rw [u167];simp only [q57, co9, kf2, Value.cells, List.length_cons, List.length_nil, Nat.zero_add, ↓reduceIte];have hr : List.range 2 = [0, 1] := rfl;unfold Program.keyLits;rw [hr, Tryz.underlying9]
   simp [h1, h2]
  unfold keyOf;rw [u167];simp only [q9g, hf, Bool.and_self, ↓reduceIte, hn, hl, Option.map_some];exact ⟨_, rfl⟩
 inj := fun a b h => by
  unfold kf2 at h
  injection h with h
  have h := congrArg Array.toList h;simp only [List.cons.injEq, Value.string.injEq, and_true] at h;exact Prod.ext h.1 h.2
section
variable {E : Env} {w0 : World} {M0 : Nat → Prop}
def q58 {γ : Type} (E : Env) (w0 : World) (M0 : Nat → Prop) (Q : Exit → ASt → Prop) (n : Nat) (t : Nat → TV) (m : γ → Mem) (K : γ → Prop) (m0 : Mem) : Exit → ASt → Prop
 | .normal, s => ∃ g, K g ∧ MemL s (m g)
 | .ret, s => ∃ mx, AWp E w0 M0 .ret Q ⟨n, t, mx⟩ ∧ qc6 m0 mx ∧ qqq mx = true ∧ MemL s mx
 | .exit id, s => ∃ mx, AWp E w0 M0 (.exit id) Q ⟨n, t, mx⟩ ∧ qc6 m0 mx ∧ qqq mx = true ∧ MemL s mx
 | _, _ => False
end
section
variable {E : Env}
theorem qnn {s : ASt} {t : Nat} {ty : TypeId} {k id : Nat} {tv : TV} {g : G} (hp : s.get t = .ptr id 0) (hb : qr s.mem id = some (.box [tv])) (ht : tyK E.P ty = some (k, false)) (hv : qc8 s.mem tv = some g) (hbw : qtg E tv = true := by rfl) : RVal E s (.cell t ty) g := by
 intro w0 M0 ρ w tmps hm hx;have h1 := hx t;rw [hp] at h1;obtain ⟨ow, h2, h3⟩ := h1;obtain ⟨ow', e, vs, g1, g2, g3, g4⟩ := hm.blk id _ hb
 have : ow' = ow := by rw [h2] at g1; simpa using g1.symm
 subst this;obtain ⟨v, h4, h5, _⟩ := TFits.get 0 g4 rfl
 have hc : w.cell? ⟨ow'.b, ow'.o + 0, none⟩ = some v := by rw [cell_of_row w _ _ _ _ _ g3, g2]; simpa using h4
 refine ⟨v, ?_, qel hm h5 hv (qji hm hbw), ?_⟩
 ·simp only [qfy, h3, asAddr, Sem.run_bind, Sem.run_pure, Result.andThen_ok];exact xt ht hc
 ·intro w' hw;simp only [qfy, h3, asAddr, Sem.run_bind, Sem.run_pure, Result.andThen_ok];exact xt ht (hw _ _ hc)
end
section
def SeqN (E : Env) (g : FuncId) (caps : List G) {α : Type} (enc : α → Value) (xs : List α) : Prop :=
 ∀ (w : World) (M : Nat → Prop) (cs : List Value) (l : Nat) (J : (Nat → Prop) → List α → Bool → World → Prop), (∀ b, M b → b < w.heap.size) → GlOk E w M → FitsT w M caps cs →
  (∀ N pre st W W', J N pre st W → BelowX N W W' → J N pre st W') → (∀ N N' pre st W, J N pre st W → (∀ b, N' b → N b ∨ W.heap.size ≤ b) → J N' pre st W) →
  (∀ N pre x post W1, xs = pre ++ x :: post → BelowX M w W1 → (∀ b, N b → w.heap.size ≤ b ∧ b < W1.heap.size) → J N pre false W1 → YieldAt Fence.wide 0 E.P l #[enc x] W1 fun e W' =>
   BelowX M W1 W' ∧ ∃ b, e = .returned (.bool b) ∧ J N (pre ++ [x]) (!b) W') →
  J (fun _ => False) [] false w → CallsIn Fence.wide 0 E.P g (#[.func (.yield l) #[] #[]] ++ cs.toArray) w fun e W' => (∃ v, e = .returned v) ∧ (J (fun _ => False) xs false W' ∨ ∃ pre, J (fun _ => False) pre true W')
theorem BelowX.none {L : Nat → Prop} {a b : World} (h : Grow a b) : BelowX L a b := BelowX.of_grow h
structure ItC (P : Program) {α : Type} (l : Nat) (enc : α → Value) (xs : List α) where
 w : World
 lo : Nat
 M : Nat → Prop
 J : (Nat → Prop) → List α → Bool → World → Prop
 N0 : Nat → Prop
 hM : ∀ b, M b → b < lo
 hlo : lo ≤ w.heap.size
 turn : ∀ N pre st W W', J N pre st W → BelowX N W W' → J N pre st W'
 take : ∀ N N' pre st W, J N pre st W → (∀ b, N' b → N b ∨ W.heap.size ≤ b) → J N' pre st W
 yield : ∀ N pre x post W1, xs = pre ++ x :: post → BelowX M w W1 → (∀ b, N b → lo ≤ b ∧ b < W1.heap.size) → J N pre false W1 → YieldAt Fence.wide 0 P l #[enc x] W1 fun e W' =>
   BelowX M W1 W' ∧ ∃ b, e = .returned (.bool b) ∧ J N (pre ++ [x]) (!b) W'
def ItC.at {P : Program} {α : Type} {l : Nat} {enc : α → Value} {xs : List α} (C : ItC P l enc xs) (w' : World) (h : BelowX C.M C.w w') (N0 : Nat → Prop) : ItC P l enc xs :=
 ⟨w', C.lo, C.M, C.J, N0, C.hM, Nat.le_trans C.hlo h.size, C.turn, C.take, fun N pre x post W1 hx hB hN hJ => C.yield N pre x post W1 hx (h.trans hB) hN hJ⟩
def qwp (N : Nat → Prop) (ds : List Deferred) (W : World) : Prop := ds.Nodup ∧ ∀ d ∈ ds, ∃ D, d = { target := .collected D, args := #[] } ∧ N D ∧ W.heap[D]? = some (.deferred (some []))
variable {α : Type} {E : Env} {l : Nat} {enc : α → Value} {xs : List α}
def IRel (E : Env) {l : Nat} {enc : α → Value} {xs : List α} (C : ItC E.P l enc xs) (s : ASt) (p : List α × Bool) (a : Act) (W : World) : Prop :=
 ∃ N W1, C.J N p.1 p.2 W1 ∧ (∀ b, N b → C.lo ≤ b ∧ b < W1.heap.size) ∧ BelowX C.M C.w W1 ∧ qwp N a.defers W1 ∧ ARel E W1 (fun b => C.M b ∨ N b) s ⟨a.tmps, []⟩ W ∧ ∀ b, C.N0 b → N b
def IWp (E : Env) {l : Nat} {enc : α → Value} {xs : List α} (C : ItC E.P l enc xs) (c : Code) (Q : Exit → ASt → List α × Bool → Prop) (s : ASt) (p : List α × Bool) : Prop :=
 ∀ a W, IRel E C s p a W → c.wpIn E.F 0 E.P (fun e a' W' => ∃ s' p', IRel E C s' p' a' W' ∧ Q e s' p') a W
def q59 (K : ASt → List α × Bool → Prop) (Q : Exit → ASt → List α × Bool → Prop) : Exit → ASt → List α × Bool → Prop
 | .normal, s, p => K s p
 | e, s, p => Q e s p
def q05 (id : Nat) (Q : Exit → ASt → List α × Bool → Prop) : Exit → ASt → List α × Bool → Prop
 | .exit id', s, p => if id' = id then Q .normal s p else Q (.exit id') s p
 | e, s, p => Q e s p
variable {C : ItC E.P l enc xs} {Q : Exit → ASt → List α × Bool → Prop} {s : ASt} {p : List α × Bool}
theorem js {x y : Code} (h : IWp E C x (q59 (IWp E C y Q) Q) s p) : IWp E C (.seq x y) Q s p :=
 fun a w ha => wpIn_seq (wpIn_mono (h a w ha) fun e a' w' ⟨s', p', h1, h2⟩ => by
  cases e <;> first | exact h2 a' w' h1 | exact ⟨s', p', h1, h2⟩)
theorem qaa (h : Q .normal s p) : IWp E C .skip Q s p := fun _ _ ha => wpIn_skip ⟨s, p, ha, h⟩
theorem ql1 (h : Q .ret s p) : IWp E C .ret Q s p := fun _ _ ha => wpIn_ret ⟨s, p, ha, h⟩
theorem qft {id : Nat} (h : Q (.exit id) s p) : IWp E C (.exit id) Q s p := fun _ _ ha => wpIn_exit ⟨s, p, ha, h⟩
theorem vr {id : Nat} {c : Code} (h : IWp E C c (q05 id Q) s p) : IWp E C (.block id c) Q s p :=
 fun a w ha => wpIn_block (wpIn_mono (h a w ha) fun e a' w' ⟨s', p', h1, h2⟩ => by
  cases e with
  | exit id' =>
   unfold q05 at h2;unfold Exit.inBlock;dsimp only at h2 ⊢
   split
   ·rename_i he; rw [if_pos he] at h2; exact ⟨s', p', h1, h2⟩
   ·rename_i he; rw [if_neg he] at h2; exact ⟨s', p', h1, h2⟩
  | _ => exact ⟨s', p', h1, h2⟩)
theorem qab {c : Operand} {x y : Code} (b : Bool) (hb : s.eval E c = .g (.lit (.bool b))) (ht : b = true → IWp E C x Q s p) (hf : b = false → IWp E C y Q s p) : IWp E C (.cond c x y) Q s p := by
 intro a w ha;obtain ⟨N, W1, h1, h2, h3, h4, h5, h6⟩ := id ha;obtain ⟨ρ, _, hx⟩ := h5.rel;have hc := hx c;rw [hb] at hc;have hc' : a.eval c = .bool b := hc
 cases b with
 | true => exact wpIn_cond_true hc' (ht rfl a w ha)
 | false => exact wpIn_cond_false hc' (hf rfl a w ha)
theorem IRel.weak {l1 : List (Nat × TV)} {m : Mem} {a : Act} {w : World} (h1 : qj0 s l1) (h2 : MemL s m) (h3 : wk l1 m = true) (hbw : E.bow = []) (h : IRel E C s p a w) : IRel E C (stt s.n l1 m) p a w := by
 obtain ⟨N, W1, k1, k2, k3, k4, k5, k6⟩ := h;exact ⟨N, W1, k1, k2, k3, k4, k5.weak h1 h2 h3 (by unfold qla; rw [hbw]; rfl), k6⟩
theorem q25 {c : Code} {l1 : List (Nat × TV)} {m : Mem} (h1 : qj0 s l1) (h2 : MemL s m) (h3 : wk l1 m = true) (h : IWp E C c Q (stt s.n l1 m) p) (hbw : E.bow = [] := by rfl) : IWp E C c Q s p :=
 fun a w ha => h a w (ha.weak h1 h2 h3 hbw)
def q6a {γ : Type} (S : γ → List (Nat × TV)) (Pp : γ → List α × Bool) (P : γ → Prop) (n : Nat) (ok : γ → Prop) (s : ASt) (p : List α × Bool) : Prop := s.n = n ∧ ∃ g, qj0 s (S g) ∧ wk (S g) [] = true ∧ p = Pp g ∧ P g ∧ ok g
theorem qdj {γ : Type} {c : Code} (S : γ → List (Nat × TV)) (Pp : γ → List α × Bool) (P : γ → Prop) (μ : γ → Nat) (h0 : q6a S Pp P s.n (fun _ => True) s p)
  (round : ∀ g, P g → IWp E C c (q59 (q6a S Pp P s.n (fun g' => μ g' < μ g)) Q) (stt s.n (S g) []) (Pp g)) (hbw : E.bow = [] := by rfl) : IWp E C (.loop c) Q s p := by
 intro a w ha;obtain ⟨_, g0, h1, h3, rfl, h4, _⟩ := h0;have ha' := ha.weak h1 (m := []) trivial h3 hbw;refine wpIn_loop_ghost (fun n a w => ∃ g, μ g = n ∧ P g ∧ IRel E C (stt s.n (S g) []) (Pp g) a w) (μ g0) ⟨g0, rfl, h4, ha'⟩ ?_;rintro n a w ⟨g, rfl, hP, hg⟩;refine wpIn_mono (round g hP a w hg) ?_;rintro e a' w' ⟨s', p', hs', hq⟩
 cases e with
 | normal =>
  obtain ⟨k0, g', k1, k3, rfl, k4, k5⟩ := hq;refine ⟨μ g', k5, g', rfl, k4, ?_⟩;have := hs'.weak k1 (m := []) trivial k3 hbw;rw [k0] at this;exact this
 | _ => exact ⟨s', p', hs', hq⟩
theorem qty {F : Fence} {n : Nat} {P : Program} {o : Oper} {a : Act} {w : World} {K : Act → World → Prop} {Q' : Exit → Act → World → Prop}
  (h : o.wpIn F n P ⟨a.tmps, []⟩ w (fun a' w' => a'.defers = [] ∧ K ⟨a'.tmps, a.defers⟩ w') (fun _ _ _ => False)) : o.wpIn F n P a w K Q' := by
 obtain ⟨h1, h2⟩ := h;refine ⟨h1, ?_⟩;have h2 : o.uponIn F n P ⟨a.tmps, []⟩ (fun a' w' => a'.defers = [] ∧ K ⟨a'.tmps, a.defers⟩ w') (fun _ _ _ => False) ((o.semAt F.round a.eval).run P w) := h2
 have hput : ∀ v, (⟨((⟨a.tmps, []⟩ : Act).put o.dst v).tmps, a.defers⟩ : Act) = a.put o.dst v := fun v => by cases o.dst <;> rfl
 have hp : ∀ v w', (fun (a' : Act) (w' : World) => a'.defers = [] ∧ K ⟨a'.tmps, a.defers⟩ w') ((⟨a.tmps, []⟩ : Act).put o.dst v) w' → K (a.put o.dst v) w' := fun v w' h => by
  have := h.2;rw [hput] at this;exact this
 generalize (o.semAt F.round a.eval).run P w = res at *
 cases res with
 | halt x w' =>
  cases x <;> exact h2.elim
 | ok n w' =>
  cases n with
  | value v => exact hp _ _ h2
  | skip => exact hp _ _ h2
  | defer d =>
   have := h2.1
   exfalso
   cases hd : o.dst <;> simp [Act.put, hd] at this
  | enter f args =>
   obtain ⟨h3, h4⟩ := h2;refine ⟨h3, h4.mono ?_⟩;intro e w'' h
   cases e with
   | returned v => exact hp _ _ h
   | panicked c => exact h.elim
   | outgrown => obtain ⟨_, _, h⟩ := h; exact h.elim
  | row r args =>
   obtain ⟨h3, h4⟩ := h2;exact ⟨h3, RowsIn.mono h4 (fun v w'' h => hp _ _ h)⟩
  | round l' f tmps assign body =>
   obtain ⟨h3, h4⟩ := h2;refine ⟨h3, h4.mono ?_⟩;intro e w'' h
   cases e with
   | returned v => exact hp _ _ h
   | panicked c => exact h.elim
   | outgrown => obtain ⟨_, _, h⟩ := h; exact h.elim
  | _ => exact h2.elim
theorem IRel.step {ops : Array Oper} {o : Oper} {c : Cls} {s' : ASt} (h : AStep E ops o c s s') (hmk : E.mks = false) {a : Act} {w : World} (ha : IRel E C s p a w) {K : Act → World → Prop} {Q' : Exit → Act → World → Prop}
  (hK : ∀ a' w', IRel E C s' p a' w' → K a' w') :
  if Region.wanted o (yielded ops a.tmps) then o.wpIn E.F 0 E.P a w K Q' else (∀ f, o.about E.P w a.eval = some f → E.F.fn f) ∧ K (a.put o.dst undef) w := by
 obtain ⟨N, W1, k1, k2, k3, k4, k5, k6⟩ := ha
 have hs := h.sound (w0 := W1) (M0 := fun b => C.M b ∨ N b) k5 (K := fun a' w' => a'.defers = [] ∧ K ⟨a'.tmps, a.defers⟩ w') (Q := fun _ _ _ => False) (fun a' w' h' => by
  have hd := h'.defers hmk;refine ⟨hd, hK _ _ ⟨N, W1, k1, k2, k3, k4, ?_, k6⟩⟩;obtain ⟨t, d⟩ := a';simp only at hd;subst hd
  exact h')
 have hput : ∀ v, (⟨((⟨a.tmps, []⟩ : Act).put o.dst v).tmps, a.defers⟩ : Act) = a.put o.dst v := fun v => by cases o.dst <;> rfl
 have hs : if Region.wanted o (yielded ops a.tmps) then o.wpIn E.F 0 E.P ⟨a.tmps, []⟩ w (fun a' w' => a'.defers = [] ∧ K ⟨a'.tmps, a.defers⟩ w') (fun _ _ _ => False) else (∀ f, o.about E.P w a.eval = some f → E.F.fn f) ∧
  (fun (a' : Act) (w' : World) => a'.defers = [] ∧ K ⟨a'.tmps, a.defers⟩ w') ((⟨a.tmps, []⟩ : Act).put o.dst undef) w := hs
 split
 ·rename_i hw
  rw [if_pos hw] at hs;exact qty hs
 ·rename_i hw
  rw [if_neg hw] at hs;have := hs.2.2;rw [hput] at this;exact ⟨hs.1, this⟩
theorem qq0 {E : Env} {f : FuncId} {tmps : Array Value} {assign body : Code} {w : World} {R : Ending → World → Prop} {l : Nat} (h : RoundIn Fence.wide 0 E.P l f tmps assign body w R) : RoundIn E.F 0 E.P l f tmps assign body w R := by
 obtain ⟨P, gl, ord, bow, rnd, mk⟩ := E
 cases rnd with
 | none => exact h
 | some l => exact h
theorem IRel.yield {o : Oper} {f arg : Operand} {ts : Array TypeId} {x : α} {post : List α} (hd : ∀ d, o.dst = some d → d < s.n) (ho : o.op = .call ⟨.value f, #[arg], ts⟩) (hp : p.2 = false) (hm0 : s.mem = [])
  (hf : s.eval E f = .g (G.lit (.func (.yield l) #[] #[]))) (harg : ∀ w M ρ v, TRel w M ρ (s.eval E arg) v → v = enc x) (hx : xs = p.1 ++ x :: post) (hbw : E.bow = []) {a : Act} {W : World} (ha : IRel E C s p a W)
  {K : Act → World → Prop} {Q' : Exit → Act → World → Prop} (hK : ∀ b a' W', IRel E C (s.put o.dst (.g (G.bool b))) (p.1 ++ [x], !b) a' W' → K a' W') : o.wpIn E.F 0 E.P a W K Q' := by
 obtain ⟨N, W1, k1, k2, k3, k4, k5, k6⟩ := ha;obtain ⟨ρ, hm, _, ht⟩ := k5.ex;have hg : Grow W1 W := hm.below.grow (fun _ => jy hbw);have hev := fun y => qi7 hm ht y
 have e1 : a.eval f = .func (.yield l) #[] #[] := by
  have := hev f;rw [hf] at this;exact this
 have e2 : a.eval arg = enc x := harg _ _ _ _ (hev arg);have hB : BelowX C.M C.w W := k3.trans (BelowX.of_grow hg)
 have hJ : C.J N p.1 false W := by
  rw [← hp];exact C.turn _ _ _ _ _ k1 (BelowX.of_grow hg)
 obtain ⟨fn, tmps, assign, body, y1, y2⟩ := C.yield N p.1 x post W hx hB (fun b hb => ⟨(k2 b hb).1, Nat.lt_of_lt_of_le (k2 b hb).2 hg.size⟩) hJ;refine ⟨fun _ _ => trivial, ?_⟩
 have hsem : o.semAt E.F.round a.eval = execOp a.eval o := by
  cases E.F.round with
  | none => rfl
  | some l' => exact Oper.semAt_some _ _ _ fun c hc => by rw [ho] at hc; cases hc
 have hrun : (execOp a.eval o).run E.P W = .ok (.round l fn tmps assign body) W := by
  simp [execOp, ho, resolve, e1, e2, Deferred.ofValue, invoke, y1]
 rw [hsem, hrun];refine ⟨qja, (qq0 y2).mono ?_⟩;rintro e W' ⟨hB', b, rfl, hJ'⟩;refine hK b _ _ ⟨N, W', hJ', fun b hb => ⟨(k2 b hb).1, Nat.lt_of_lt_of_le (k2 b hb).2 (Nat.le_trans hg.size hB'.size)⟩, hB.trans hB', ?_, ?_, k6⟩
 ·rw [qem];refine ⟨k4.1, fun d hd => ?_⟩;obtain ⟨D, q1, q2, q3⟩ := k4.2 d hd;have hlt := (k2 D q2).2;exact ⟨D, q1, q2, (hB'.block D (Nat.lt_of_lt_of_le hlt hg.size) (fun h => by have := C.hM D h; have := (k2 D q2).1; omega)).trans ((hg.block D hlt).trans q3)⟩
 ·have hρ : ρ = fun _ => none := by
   funext id
   cases hq : ρ id with
   | none => rfl
   | some x =>
    obtain ⟨blk, hb⟩ := hm.dom id x hq;rw [hm0] at hb
    cases hb
  subst hρ;have hh : ∀ b, b < W.heap.size → ¬ qz (fun b => C.M b ∨ N b) (fun _ => none) b → W'.heap[b]? = W.heap[b]? := fun b hb hno => hB'.block b hb fun h => hno (.inl (.inl h));refine ⟨fun _ => rfl, by rw [qi9]; cases o.dst <;> exact k5.size, fun _ => none, ⟨BelowX.refl _ W', fun b hb => hb.elim (fun hb => Nat.lt_of_lt_of_le (C.hM b hb) (Nat.le_trans C.hlo (hB.trans hB').size)) (fun hb => Nat.lt_of_lt_of_le (k2 b hb).2 (Nat.le_trans hg.size hB'.size)), hm.glob.grow hB'.size hh, (fun _ _ h => by cases h), (fun _ _ h => by cases h), (fun _ _ _ _ h => by cases h), ?_, ?_, ?_⟩, Marks.nil, fun i => ?_⟩
  ·intro id x h; rw [hbw] at h; cases h
  ·exact ⟨fun b h => absurd h (jy hbw), by have h1 := hm.lentM.2; have h2 := hm.below.size; have h3 := hB'.size; omega⟩
  ·intro id blk hb;have hb : qr (s.put o.dst (.g (G.bool b))).mem id = some blk := hb;have : (s.put o.dst (.g (G.bool b))).mem = s.mem := rfl;rw [this, hm0] at hb
   cases hb
  ·show TRel _ _ _ ((s.put o.dst (.g (G.bool b))).get i) ((a.put o.dst (.bool b)).tmps.getD i undef);rw [quk, qi8 _ _ _ (fun d h => by have := hd d h; rw [← k5.size] at this; exact this)]
   split
   ·exact rfl
   ·exact (ht i).mono none (by cases s.get i <;> rfl) hh (fun _ _ h => h) (fun _ _ _ => rfl)
def IStep (E : Env) (l : Nat) (enc : α → Value) (xs : List α) (ops : Array Oper) (o : Oper) (K : ASt → List α × Bool → Prop) (s : ASt) (p : List α × Bool) : Option Cls → Prop
 | some c => ∃ s', AStep E ops o c s s' ∧ K s' p
 | none => (∀ d, o.dst = some d → d < s.n) ∧ ∃ gb, vo ops o s gb ∧ (gb = false → K (s.put o.dst wu) p) ∧ (gb = true → p.2 = false ∧ s.mem = [] ∧ ∃ f arg ts x post, o.op = .call ⟨.value f, #[arg], ts⟩ ∧ s.eval E f = .g (G.lit (.func (.yield l) #[] #[])) ∧
   (∀ w M ρ v, TRel w M ρ (s.eval E arg) v → v = enc x) ∧ xs = p.1 ++ x :: post ∧ ∀ b, K (s.put o.dst (.g (G.bool b))) (p.1 ++ [x], !b))
theorem IStep.sound {ops : Array Oper} {o : Oper} {c : Option Cls} {K' : ASt → List α × Bool → Prop} (h : IStep E l enc xs ops o K' s p c) (hmk : E.mks = false) (hbw : E.bow = []) {a : Act} {w : World} (ha : IRel E C s p a w) {K : Act → World → Prop} {Q' : Exit → Act → World → Prop}
  (hK : ∀ s' p' a' w', K' s' p' → IRel E C s' p' a' w' → K a' w') :
  if Region.wanted o (yielded ops a.tmps) then o.wpIn E.F 0 E.P a w K Q' else (∀ f, o.about E.P w a.eval = some f → E.F.fn f) ∧ K (a.put o.dst undef) w := by
 cases c with
 | some c =>
  obtain ⟨s', h1, h2⟩ := h;exact IRel.step h1 hmk ha fun a' w' h' => hK _ _ _ _ h2 h'
 | none =>
  obtain ⟨hd, gb, hw, hf, ht⟩ := h;obtain ⟨N, W1, k1, k2, k3, k4, k5, k6⟩ := id ha;obtain ⟨ρ, hm, _, hts⟩ := k5.ex;have hwt : Region.wanted o (yielded ops a.tmps) = gb := qof hw hts;rw [hwt]
  cases gb with
  | false =>
   simp only [Bool.false_eq_true, if_false];refine ⟨fun _ _ => trivial, hK _ _ _ _ (hf rfl) ⟨N, W1, k1, k2, k3, by rw [qem]; exact k4, ?_, k6⟩⟩;have := ARel.put (r := wu) (v := undef) (kill := none) (mem' := s.mem) (dst := o.dst) k5.defers k5.size Marks.nil hts hd hm (fun _ _ _ h => h) rfl
   have e : (⟨(a.put o.dst undef).tmps, []⟩ : Act) = (⟨a.tmps, []⟩ : Act).put o.dst undef := by cases o.dst <;> rfl
   rw [e];exact this
  | true =>
   simp only [if_true];obtain ⟨hp, hm0, f, arg, ts, x, post, ho, e1, e2, hx, hk⟩ := ht rfl;exact IRel.yield hd ho hp hm0 e1 e2 hx hbw ha fun b a' W' h' => hK _ _ _ _ (hk b) h'
def IOps (E : Env) (l : Nat) (enc : α → Value) (xs : List α) (ops : Array Oper) (K : ASt → List α × Bool → Prop) : List Oper → List (Option Cls) → ASt → List α × Bool → Prop
 | [], [], s, p => K s p
 | o :: os, c :: cs, s, p => IStep E l enc xs ops o (IOps E l enc xs ops K os cs) s p c
 | _, _, _, _ => False
theorem ql2 {ops : Array Oper} (hmk : E.mks = false) (hbw : E.bow = []) : ∀ (lo : List Oper) (cs : List (Option Cls)) (s : ASt) (p : List α × Bool), IOps E l enc xs ops (Q .normal) lo cs s p → ∀ a w, IRel E C s p a w →
  wpListIn E.F 0 E.P ops (fun e a' w' => ∃ s' p', IRel E C s' p' a' w' ∧ Q e s' p') lo a w
 | [], [], s, p, h, a, w, ha => ⟨s, p, ha, h⟩
 | o :: os, c :: cs, s, p, h, a, w, ha => IStep.sound h hmk hbw ha fun s' p' a' w' h1 ha' => ql2 hmk hbw os cs s' p' h1 a' w' ha'
 | [], _ :: _, _, _, h, _, _, _ => h.elim
 | _ :: _, [], _, _, h, _, _, _ => h.elim
theorem qku {ops : Array Oper} (hmk : E.mks = false) : ∀ (lo : List Oper) (cs : List Cls) (s : ASt), AOps E ops lo cs s (fun s' => Q .normal s' p) → ∀ a w, IRel E C s p a w →
  wpListIn E.F 0 E.P ops (fun e a' w' => ∃ s' p', IRel E C s' p' a' w' ∧ Q e s' p') lo a w
 | [], [], s, h, a, w, ha => ⟨s, p, ha, h⟩
 | o :: os, c :: cs, s, h, a, w, ha => by
  obtain ⟨s', h1, h2⟩ := h;exact IRel.step h1 hmk ha fun a' w' ha' => qku hmk os cs s' h2 a' w' ha'
 | [], _ :: _, _, h, _, _, _ => h.elim
 | _ :: _, [], _, h, _, _, _ => h.elim
theorem z4 {id : Nat} {ops : Array Oper} (cs : List Cls) (h : AOps E ops ops.toList cs s (fun s' => Q .normal s' p)) (hmk : E.mks = false := by rfl) : IWp E C (.region id ops false) Q s p :=
 fun a w ha => wpIn_region_list (qku hmk _ cs s h a w ha)
theorem qe4 {id : Nat} {ops : Array Oper} (cs : List (Option Cls)) (h : IOps E l enc xs ops (Q .normal) ops.toList cs s p) (hmk : E.mks = false := by rfl) (hbw : E.bow = [] := by rfl) : IWp E C (.region id ops false) Q s p :=
 fun a w ha => wpIn_region_list (ql2 hmk hbw _ cs s p h a w ha)
theorem ist {ops : Array Oper} {K : ASt → List α × Bool → Prop} {o : Oper} {os : List Oper} {c : Cls} {cs : List (Option Cls)} (h : AOps E ops [o] [c] s (fun s' => IOps E l enc xs ops K os cs s' p)) : IOps E l enc xs ops K (o :: os) (some c :: cs) s p := by
 obtain ⟨s', h1, h2⟩ := h;exact ⟨s', h1, h2⟩
theorem qfu {ops : Array Oper} {K : ASt → List α × Bool → Prop} (h : K s p) : IOps E l enc xs ops K [] [] s p := h
theorem iy {ops : Array Oper} {K : ASt → List α × Bool → Prop} {o : Oper} {os : List Oper} {cs : List (Option Cls)} {d : Nat} {f arg : Operand} {ts : Array TypeId} {pre post : List α} (x : α) (hd : o.dst = some d) (hg : o.guard = none) (hn : Nat.blt d s.n = true)
  (ho : o.op = .call ⟨.value f, #[arg], ts⟩) (hm : s.mem = []) (hf : s.eval E f = .g (G.lit (.func (.yield l) #[] #[]))) (ha : ∀ w M ρ v, TRel w M ρ (s.eval E arg) v → v = enc x) (hx : xs = pre ++ x :: post)
  (h : ∀ b, IOps E l enc xs ops K os cs (s.put (some d) (.g (G.bool b))) (pre ++ [x], !b)) : IOps E l enc xs ops K (o :: os) (none :: cs) s (pre, false) :=
 ⟨fun d' h => by rw [hd] at h; cases h; exact Nat.le_of_ble_eq_true hn, true, (by unfold vo; rw [hg]), (fun h => by cases h), fun _ => ⟨rfl, hm, f, arg, ts, x, post, ho, hf, ha, hx, fun b => by rw [hd]; exact h b⟩⟩
theorem iy_g {ops : Array Oper} {K : ASt → List α × Bool → Prop} {o : Oper} {os : List Oper} {cs : List (Option Cls)} {d j e : Nat} {want : Bool} (gb : Bool) {f arg : Operand} {ts : Array TypeId} {pre : List α} (hd : o.dst = some d) (hg : o.guard = some (j, want)) (hj : (ops[j]?).bind (·.dst) = some e) (hb : GB (s.get e) want gb) (hn : Nat.blt d s.n = true)
  (ho : o.op = .call ⟨.value f, #[arg], ts⟩) (h0 : gb = false → IOps E l enc xs ops K os cs (s.put (some d) wu) (pre, false))
  (h1 : gb = true → s.mem = [] ∧ s.eval E f = .g (G.lit (.func (.yield l) #[] #[])) ∧ ∃ x post, (∀ w M ρ v, TRel w M ρ (s.eval E arg) v → v = enc x) ∧ xs = pre ++ x :: post ∧
   ∀ b, IOps E l enc xs ops K os cs (s.put (some d) (.g (G.bool b))) (pre ++ [x], !b)) : IOps E l enc xs ops K (o :: os) (none :: cs) s (pre, false) :=
 ⟨fun d' h => by rw [hd] at h; cases h; exact Nat.le_of_ble_eq_true hn, gb, (by unfold vo; rw [hg]; exact ⟨e, hj, hb⟩), (fun h => by rw [hd]; exact h0 h), fun h => by
  obtain ⟨hm, hf, x, post, ha, hx, hk⟩ := h1 h
  exact ⟨rfl, hm, f, arg, ts, x, post, ho, hf, ha, hx, fun b => by rw [hd]; exact hk b⟩⟩
end
section
variable {E : Env} {w0 : World} {M0 : Nat → Prop}
theorem ARel.freeze {s : ASt} {a : Act} {w : World} (id : Nat) {blk : Blk} {l : List (Nat × TV)} {m : Mem} (hb : qr s.mem id = some blk) (h1 : FrzL s id blk l) (h2 : MemL s m) (h3 : wk l m = true) (hid : qr m id = none)
  (hbw : qla E m = true) (ha : ARel E w0 M0 s a w) : ARel E w0 M0 (stt s.n l m) a w := by
 obtain ⟨ρ, hm, hmk, ht⟩ := ha.ex
 let ρ' : Rho := fun id => if (qr m id).isSome = true then ρ id else none
 have hρ : ∀ id, (qr m id).isSome = true → ρ' id = ρ id := fun id hi => by simp only [ρ', if_pos hi]
 have hρ' : ∀ id x, ρ' id = some x → ρ id = some x ∧ (qr m id).isSome = true := by
  intro id x hx;simp only [ρ'] at hx
  split at hx
  ·rename_i hi; exact ⟨hx, hi⟩
  ·cases hx
 have hM : ∀ b, qz M0 ρ' b → qz M0 ρ b := by
  rintro b (hb | ⟨id, o, ho, rfl⟩)
  ·exact .inl hb
  ·exact .inr ⟨id, o, (hρ' id _ ho).1, rfl⟩
 have hlent : qr E.bow id = none := by
  cases hq : qr E.bow id with
  | none => rfl
  | some x =>
   have := List.all_eq_true.1 hbw (id, x) (jn _ hq);simp only [hid] at this
   cases this
 have hno : ∀ ow, ρ id = some (some ow) → ¬ qz M0 ρ' ow.b := by
  rintro ow ho (hM0 | ⟨i, o, hi, he⟩)
  ·exact qag hm ho hlent (.inl hM0)
  ·have := hm.inj i id o ow (hρ' i _ hi).1 ho he;subst this;have := (hρ' i _ hi).2;rw [hid] at this; cases this
 simp only [wk, Bool.and_eq_true, List.all_eq_true] at h3;refine ⟨ha.defers, ha.size, ρ', ⟨hm.below, hm.m0, ?_, ?_, ?_, ?_, ?_, hm.lentM, ?_⟩, hmk.sub hM, ?_⟩
 ·intro g vs hg;have := hm.glob g vs hg;exact ⟨⟨fun hb => this.1.1 (hM _ hb), this.1.2⟩, this.2.mono (fun _ _ _ => rfl) (fun b _ => hM b) this.1.1⟩
 ·intro id x hx;have := (hρ' id x hx).2
  cases hl : qr m id with
  | none => rw [hl] at this; cases this
  | some b => exact ⟨b, hl⟩
 ·exact fun id ow ho => hm.fresh id ow (hρ' id _ ho).1
 ·exact fun id id' ow ow' ho ho' => hm.inj id id' ow ow' (hρ' id _ ho).1 (hρ' id' _ ho').1
 ·intro id x hx;rw [hρ id (List.all_eq_true.1 hbw (id, x) (jn _ hx))];exact hm.keep id x hx
 ·intro i blk' hb0;have hb0 : qr m i = some blk' := hb0
  have hi : (qr m i).isSome = true := by rw [hb0]; rfl
  have := hm.blk i blk' (qd5 h2 i blk' hb0)
  cases blk' with
  | box cs =>
   obtain ⟨ow, e, vs, g1, g2, g3, g4⟩ := this;have hcl := h3.2 (i, .box cs) (jn _ hb0);exact ⟨ow, e, vs, by rw [hρ i hi]; exact g1, g2, g3, g4.sub hM hρ (by simpa [qs4] using hcl)⟩
  | arr e k xs =>
   rcases this with ⟨g1, g2⟩ | ⟨ow, vs, g1, g2, g3, g4, g5, g6, g7⟩
   ·exact .inl ⟨by rw [hρ i hi]; exact g1, g2⟩
   ·exact .inr ⟨ow, vs, by rw [hρ i hi]; exact g1, g2, g3, g4, g5, g6, g7.mono (fun _ _ _ => rfl) (fun b _ => hM b)⟩
  | mp es =>
   obtain ⟨ow, en, cl, g1, g2, g3, g4⟩ := this;exact ⟨ow, en, cl, by rw [hρ i hi]; exact g1, g2, g3.mono (fun _ _ _ => rfl) (fun b _ => hM b), g4⟩
  | obj o =>
   obtain ⟨ow, g1, g2, g3⟩ := this;exact ⟨ow, by rw [hρ i hi]; exact g1, g2, g3⟩
  | mit es seen =>
   obtain ⟨ow, g1, g2, g3⟩ := this;exact ⟨ow, by rw [hρ i hi]; exact g1, g2, g3.mono rfl (fun _ _ _ => rfl) (fun b _ => hM b)⟩
  | gone => trivial
 ·intro i;show TRel _ _ _ (xx l i) _
  rcases qm6 h1 i with h4 | ⟨⟨v, h5, h6⟩, h7⟩
  ·rw [h4]; trivial
  ·rcases h7 with ⟨h8, h9⟩ | h8
   ·have := ht i;rw [h8] at this;exact this.sub (m := m) (by rw [h6]; exact h3.1 (i, v) h5) hM hρ
   ·have hv := ht i
    rcases h8 with ⟨k, xs, e, N, rfl, hN, ha1, hb1, hk⟩ | ⟨cs, gs, off, rfl, hu, hne, ha1, hb1⟩ | ⟨es, rfl, ha1, hb1⟩
    ·rw [ha1] at hv;rw [hb1];subst hN;have hview := qjh hm hb hv (Nat.zero_le _) (Nat.le_refl _);obtain ⟨a', cap, e1, g1, g2, g3, g4, g5, g6⟩ := hview;simp only [Nat.sub_zero, List.drop_zero, List.take_length] at e1 g1 g4 g5 g6;refine ⟨a', cap, e1, g1, g2, g5, ?_⟩
     rcases g6 with g6 | ⟨b, o, cur, news, rfl, ⟨ow, k0, rfl⟩, k1, k2, k3⟩
     ·have : xs = [] := List.eq_nil_of_length_eq_zero g6;subst this;exact .inl ⟨rfl, fun ha => (g3 ha).1⟩
     ·exact .inr ⟨ow.b, o, rfl, hno ow k0, jx k1 (k2.mono (fun _ _ _ => rfl) (fun b _ => hM b)) k3⟩
    ·rw [ha1] at hv;rw [hb1];obtain ⟨ow, g1, g2⟩ := hv;obtain ⟨ow', e, vs, g3, g4, g5, g6⟩ := hm.blk id _ hb
     have : ow' = ow := by rw [g1] at g3; simpa using g3.symm
     subst this;refine ⟨ow'.b, ow'.o + off, g2, .inr (hno ow' g1), ?_⟩;have g7 := g6;rw [qg2 hu] at g7;have g8 := (qbq g7).mono (w' := w) (M' := qz M0 ρ') (fun _ _ _ => rfl) (fun b _ => hM b);have hcells : Cells w (qz M0 ρ') ow'.b 0 gs := jx g5 g8 (fun j v hj => by simpa using hj);rw [g4];exact hcells.drop off
    ·rw [ha1] at hv;rw [hb1];obtain ⟨ow, g1, g2⟩ := hv;obtain ⟨ow', en, cl, g3, g4, g5, g6⟩ := hm.blk id _ hb
     have : ow' = ow := by rw [g1] at g3; simpa using g3.symm
     subst this;exact ⟨ow'.b, en, cl, g2, hno ow' g1, g4, g5.mono (fun _ _ _ => rfl) (fun b _ => hM b), g6⟩
end
section
variable {α : Type} {E : Env} {l : Nat} {enc : α → Value} {xs : List α} {C : ItC E.P l enc xs} {Q : Exit → ASt → List α × Bool → Prop} {s : ASt} {p : List α × Bool}
theorem qcm {c : Code} (id : Nat) {blk : Blk} {l1 : List (Nat × TV)} {m : Mem} (hb : qr s.mem id = some blk) (h1 : FrzL s id blk l1) (h2 : MemL s m) (h3 : wk l1 m = true) (hid : qr m id = none)
  (h : IWp E C c Q (stt s.n l1 m) p) (hbw : E.bow = [] := by rfl) : IWp E C c Q s p := by
 rintro a w ⟨N, W1, k1, k2, k3, k4, k5, k6⟩;exact h a w ⟨N, W1, k1, k2, k3, k4, k5.freeze id hb h1 h2 h3 hid (by unfold qla; rw [hbw]; rfl), k6⟩
def IEnd (xs : List α) : Exit → ASt → List α × Bool → Prop
 | .normal, _, p => p.2 = true ∨ p.1 = xs
 | .ret, _, p => p.2 = true ∨ p.1 = xs
 | _, _, _ => False
theorem qwq {P : Program} {fn : Func} {tmps : Array Value} {N : Nat → Prop} {J J' : World → Prop} (hJJ : ∀ W, J W → J' W) (hr : ∀ w, (results fn tmps).run P w = .ok (.tuple #[]) w) (hJ : ∀ W D o, N D → J W → J (W.putObj D o)) : ∀ (ds : List Deferred) (w1 : World), qwp N ds w1 → J w1 →
  LeavesInM Fence.wide 0 P fn tmps (fun e w'' => (∃ v, e = .returned v) ∧ J' w'') ds .returning w1
 | [], w1, _, hj => ⟨_, hr w1, ⟨_, rfl⟩, hJJ _ hj⟩
 | d :: ds, w1, ⟨hn, hd⟩, hj => by
  obtain ⟨D, rfl, hN, hD⟩ := hd _ List.mem_cons_self;obtain ⟨hn1, hn2⟩ := List.nodup_cons.1 hn;refine ⟨by simp, .inl ⟨D, _, rfl, run_takeDeferred hD, ?_⟩⟩;refine qwq hJJ hr hJ ds _ ⟨hn2, fun d' hd' => ?_⟩ (hJ _ _ _ hN hj);obtain ⟨D', rfl, hN', hD'⟩ := hd d' (List.mem_cons_of_mem _ hd');exact ⟨D', rfl, hN', (World.putObj_heap_other (fun e => hn1 (by rw [← e]; exact hd'))).trans hD'⟩
theorem qdk {g : FuncId} {fn : Func} {c : Code} {caps : List G} (hf : E.P.funcs[g]? = some fn) (hb : fn.body = some c) (hn0 : Nat.ble (caps.length + 1) fn.ntmps = true) (hres : fn.results = #[])
  (h : ∀ (l : Nat) (C : ItC E.P l enc xs), IWp E C c (IEnd xs) ⟨fn.ntmps, qah (G.lit (.func (.yield l) #[] #[]) :: caps), []⟩ ([], false)) (hbw : E.bow = [] := by rfl) (hrn : E.rnd = none := by rfl) (hnb : E.nb = 0 := by rfl) : SeqN E g caps enc xs := by
 intro w M vs l J hM hgl hv hturn htake hy h0;have hn := Nat.le_of_ble_eq_true hn0;have hlen := hv.length
 have hF : E.F = Fence.wide := by unfold Env.F; rw [hrn]; rfl
 let C : ItC E.P l enc xs := ⟨w, w.heap.size, M, J, fun _ => False, hM, Nat.le_refl _, hturn, htake, hy⟩
 refine callsIn_of_wp_marks hf hb trivial ?_ rfl
 have hv' : FitsT w (qz (fun b => M b ∨ False) (fun _ => none)) (G.lit (.func (.yield l) #[] #[]) :: caps) ((Value.func (.yield l) #[] #[]) :: vs) :=
  ⟨rfl, hv.mono (fun _ _ _ => rfl) (by rintro b _ (h | ⟨_, _, h, _⟩); exact h.resolve_right id; cases h)⟩
 have ha : IRel E C ⟨fn.ntmps, qah (G.lit (.func (.yield l) #[] #[]) :: caps), []⟩ ([], false) { tmps := (#[Value.func (.yield l) #[] #[]] ++ vs.toArray) ++ Array.replicate (fn.ntmps - (#[Value.func (.yield l) #[] #[]] ++ vs.toArray).size) undef, defers := [] } w := by
  refine ⟨fun _ => False, w, h0, (fun _ h => h.elim), BelowX.refl _ w, ⟨.nil, fun _ h => by cases h⟩, ⟨fun _ => rfl, ?_, fun _ => none, ⟨BelowX.refl _ w, (fun b h => hM b (h.resolve_right id)), ?_, ?_, ?_, ?_, (fun id x h => by rw [hbw] at h; cases h), ⟨(fun b h => absurd h (jy hbw)), Nat.le_trans (Nat.le_of_eq hnb) (Nat.zero_le _)⟩, ?_⟩, Marks.nil, ?_⟩, fun _ h => h⟩
  ·simp; omega
  ·intro g vs hg;have := hgl g vs hg
   have hiff : ∀ b, qz (fun b => M b ∨ False) (fun _ => none) b → M b := by rintro b (h | ⟨_, _, h, _⟩); exact h.resolve_right id; cases h
   exact ⟨⟨fun h => this.1.1 (hiff _ h), this.1.2⟩, this.2.mono (fun _ _ _ => rfl) (fun b _ h => hiff b h) this.1.1⟩
  ·intro _ _ h; cases h
  ·intro _ _ h; cases h
  ·intro _ _ _ _ h; cases h
  ·intro _ _ h; cases h
  ·intro i;have := qai (ρ := fun _ => none) (fn.ntmps - (vs.length + 1)) hv' i;show TRel _ _ _ (qah _ i) _;rw [Array.getD_eq_getD_getElem?];rw [show ((#[Value.func (.yield l) #[] #[]] ++ vs.toArray) ++ Array.replicate (fn.ntmps - (#[Value.func (.yield l) #[] #[]] ++ vs.toArray).size) undef) = ((Value.func (.yield l) #[] #[] :: vs) ++ List.replicate (fn.ntmps - (vs.length + 1)) undef).toArray by simp [Nat.add_comm]];rw [List.getElem?_toArray];exact this
 have hw := h l C _ w ha;rw [hF] at hw;refine wpIn_mono hw ?_;rintro e a' w' ⟨s', p', ⟨N, W1, k1, k2, k3, k4, k5, k6⟩, hq⟩;obtain ⟨ρ, hm, _, _⟩ := k5.ex;have hg : Grow W1 w' := hm.below.grow (fun _ => jy hbw)
 have hk : qwp N a'.defers w' := ⟨k4.1, fun d hd => by
  obtain ⟨D, q1, q2, q3⟩ := k4.2 d hd
  exact ⟨D, q1, q2, (hg.block D (k2 D q2).2).trans q3⟩⟩
 have fin : (p'.2 = true ∨ p'.1 = xs) → LeavesInM Fence.wide 0 E.P fn a'.tmps (fun e w'' => (∃ v, e = .returned v) ∧ (J (fun _ => False) xs false w'' ∨ ∃ pre, J (fun _ => False) pre true w'')) a'.defers .returning w' := by
  intro hq;have hJ : J N p'.1 p'.2 w' := hturn _ _ _ _ _ k1 (BelowX.of_grow hg);refine qwq (P := E.P) (fn := fn) (tmps := a'.tmps) (N := N) (J := fun W => J N p'.1 p'.2 W) (fun W hj => ?_) (fun w => results_none hres _ _ w) (fun W D o hN hj => hturn _ _ _ _ _ hj (wc _ _ _ hN)) a'.defers w' hk hJ;have hj := htake _ (fun _ => False) _ _ _ hj (fun _ h => h.elim);obtain ⟨pre, st⟩ := p'
  cases st with
  | true => exact .inr ⟨pre, hj⟩
  | false =>
   rcases hq with h | h
   ·cases h
   ·rw [show pre = xs from h] at hj; exact .inl hj
 cases e with
 | ret => exact fin hq
 | normal => exact fin hq
 | _ => exact hq.elim
end
end Go.Sim
