/-
  What is proved: lemmas and contracts of functions on the way to the law topChockBack (part 6).
-/
import Derived.Test.YtfmnmoiaemejjaaGreatVrA5
import Derived.Test.YtfmnmoiaemejjaaGreatVrA3
import Derived.DeepKeys4
import Derived.Scope
import Derived.RangeFuncBound
set_option linter.unusedSectionVars false
set_option linter.unusedSimpArgs false
set_option linter.unusedVariables false
set_option linter.unnecessarySimpa false
set_option linter.deprecated false
set_option maxRecDepth 10000
namespace Go.Sim
open Go.Proofs
def qpp (a0 : Int) (a1 : Int) : Bool :=
 ((s202 a0) && (!(s202 a1))) || (decide (a0 < a1))
theorem zc9 {g : GL} (a0 : Int) (a1 : Int)    : Con (EG g) 191 [G.int a0, G.int a1] (G.bool (qpp a0 a1)) := by
 generalize hR : qpp a0 a1 = R;unfold qpp at hR;refine qm Tryz.func191 U U fun w0 M0 => ?_;refine qb<|qa [.p]<|sa U U<|qd<|qb<|qa [.p, .p, .p, .p, .p, .p, .p, .p, .p, .p, .p, .p, .p]<|sm U U<|su (qg U K202 U (c202 a0) (qe U qk)) U<|sm U U<|sg U U (fun h => qj U U) U<|sg U U (fun h => qg U K202 U (c202 a1) (qe (gd h U) qk)) U<|sg U U (fun h => jo U (gd h U)) U<|su (zt U U U U) U<|sm U U<|sg U U (fun h => qj U U) U<|sg U U (fun h => qj U U) U<|sg U U (fun h => zd U (gd h U) (gd h U)) U<|su (jg U U U U) U<|sa U U<|qd<|qo ?_;subst hR;exact za U (rv_g U)
def qxy (a0 : Int) : Bool :=
 decide (a0 ≠ a0)
theorem q75 {g : GL} (a0 : Int)    : Con (EG g) 192 [G.int a0] (G.bool (qxy a0)) := by
 generalize hR : qxy a0 = R;unfold qxy at hR;refine qm Tryz.func192 U U fun w0 M0 => ?_;refine qb<|qa [.p]<|sa U U<|qd<|qb<|qa [.p, .p, .p, .p]<|sm U U<|sm U U<|su (zx U U U) U<|sa U U<|qd<|qo ?_;subst hR;exact za U (rv_g U)
def q0w (a0 : S45) (a1 : Int) : Bool :=
 ((decide (a0.fFrom ≤ a1)) && (decide (a1 ≤ a0.fTo))) && (s187 a0.Days (s188 a1))
theorem zda {g : GL} (a0 : S45) (a1 : Int)  (hf : 0 ≤ a0.fFrom) (ht : a0.fTo ≤ 1000000)  : Con (EG g) 172 [G.agg (S45.c a0), G.int a1] (G.bool (q0w a0 a1)) := by
 generalize hR : q0w a0 a1 = R;unfold q0w at hR;refine qm Tryz.func172 U U fun w0 M0 => ?_;refine qb<|qa [.p, .p]<|su (zi U U) U<|sa U U<|qd<|qb<|zr [.p, .p, .p, .p, .p, .p, .p, .p, .p, .p, .p, .p, .p, .p, .p, .p, .p, .p] (by kernel_rfl)<|sm U U<|su (qc U qa3 U) U<|su (qf U ty3 U) U<|su (xo U U U) U<|sm U U<|sg U U (fun h => qj U U) U<|sg U U (fun h => qc U qa4 U) U<|sg U U (fun h => qf U ty3 (gd h U)) U<|sg U U (fun h => vj U (gd h U) (gd h U)) U<|su (zt U U U U) U<|sm U U<|sg U U (fun h => qc U qlu U) U<|sg U U (fun h => qf U ty3 (gd h U)) U<|sg U U (fun h => qj U U) U<|sg U U (fun h => qg U K188 U (c188 a1) (qe (gd h U) qk)) U<|sg U U (fun h => qg U K187 U (c187 a0.Days (s188 a1) (zdb hf ht h)) (qe (gd h U) (qe (gd h U) qk))) U<|su (zt U U U U) U<|sa U U<|qd<|qo ?_;subst hR;exact za U (rv_g U)
def quj (a0 : S45) (a1 : Int) : Bool × Int :=
 (bif decide ((s152 [(s102 a0), (s153 a1)]) ≠ 0) then (false, (s152 [(s102 a0), (s153 a1)])) else ((q0w a0 a1), 0))
theorem zdc {g : GL} (a0 : S45) (a1 : Int)    : Con (EG g) 121 [G.agg (S45.c a0), G.int a1] (G.tup [G.bool ((quj a0 a1).1), G.int ((quj a0 a1).2)]) := by
 generalize hR : quj a0 a1 = R;unfold quj at hR;refine qm Tryz.func121 U U fun w0 M0 => ?_;refine qb<|qa [.p, .p, .p]<|su (zi U U) U<|sa U U<|sa U U<|qd<|qb<|qb<|qa [.p, .p, .p, .p, .p, .p, .p]<|su (qr U ty46 U U U) U<|su (qg U K102 U (c102 a0) (qe U qk)) U<|sm U U<|su (qg U K153 U (c153 a1) (qe U qk)) U ?_;refine su (qt U Tryz.underlying170 ty37 z37 U (qx U (qx U jp)) U (by simp []) (by decide)) U ?_;refine su (qg U K152 U (c152 [(s102 a0), (s153 a1)]) (qe U qk)) U<|sa U U<|qd<|qb<|qa [.p, .p]<|sm U U<|su (zx U U U) U<|qd ?_;refine ql _ U (fun h1 => ?_) (fun h1 => ?_)
 ·replace h1 : (decide ((s152 [(s102 a0), (s153 a1)]) ≠ 0)) = true := h1;replace hR := zk hR h1;(try simp only [bB] at h1);refine qb<|qa [.p, .p, .p]<|sm U U<|sa U U<|sa U U<|qd<|qo ?_;subst hR;exact resN U ⟨rv_g U, rv_g U, O⟩ (by simp)
 ·replace h1 : (decide ((s152 [(s102 a0), (s153 a1)]) ≠ 0)) = false := h1;replace hR := zl hR h1;(try simp only [bB] at h1);obtain ⟨hp, _⟩ := q2i _ _ (Decidable.not_not.1 h1);have hq := j7 a0 hp;refine qn<|qb<|qa [.p, .p, .p, .p, .p]<|su (qr rfl ty46 rfl rfl rfl) rfl<|sm rfl rfl<|su (qg rfl q9h rfl (zda a0 a1 (by first | assumption | omega | (simp [qi]; done) | (simp [qi]; omega)) (by first | assumption | omega | (simp [qi]; done) | (simp [qi]; omega))) (qe rfl (qe rfl qk))) rfl<|sa rfl rfl<|sa rfl rfl<|qd<|qo ?_;subst hR;exact resN U ⟨rv_g U, rv_g U, O⟩ (by simp)
def qpr (a0 : S2062) (a1 : Int) : Bool :=
 (decide ((quj a0.Period a1).2 = 0)) && ((quj a0.Period a1).1)
theorem zdd {g : GL} (a0 : S2062) (a1 : Int)    : Con (EG g) 62 [G.agg (S2062.c a0), G.int a1] (G.bool (qpr a0 a1)) := by
 generalize hR : qpr a0 a1 = R;unfold qpr at hR;refine qm Tryz.func62 U U fun w0 M0 => ?_;refine qb<|qa [.p, .p]<|su (zi U U) U<|sa U U<|qd<|qb<|qa [.p, .p, .p, .p, .p, .p, .p, .p, .p]<|su (qc U qjk U) U<|su (qr U ty46 U U U) U<|sm U U<|su (qg U q9d U (zdc a0.Period a1) (qe U (qe U qk))) U<|sm U U<|su (qv U U U) U<|su (qv U U U) U<|sa U U<|sa U U<|qd<|qb<|qa [.p, .p, .p, .p, .p, .p]<|sm U U<|su (jn U U U) U<|sm U U<|sg U U (fun h => qj U U) U<|su (zt U U U U) U<|sa U U<|qd<|qo ?_;subst hR;exact za U (rv_g U)
def qbz (a0 : List Int) (a1 : Int) : Nat → Int → Int → Option (Int × Bool)
 | 0, _, _ => none
 | k3 + 1, x1, x2 => (bif decide (x1 < x2) then zc (ixO a0 ((x1 + x2) / 2)) fun y4 => (bif (qpp y4 a1) then qbz a0 a1 k3 (((x1 + x2) / 2) + 1) x2 else qbz a0 a1 k3 x1 ((x1 + x2) / 2)) else zc (bif decide (x1 < (List.length a0 : Int)) then ixO a0 x1 else some default) fun y5 => zc (bif (decide (x1 < (List.length a0 : Int))) && (!(decide (y5 = a1))) then ixO a0 x1 else some default) fun y6 => some (x1, (decide (x1 < (List.length a0 : Int))) && ((decide (y5 = a1)) || ((qxy y6) && (qxy a1)))))
def qzk (a0 : List Int) (a1 : Int) : Option (Int × Bool) :=
 qbz a0 a1 ((((List.length a0 : Int) - 0).toNat) + 1) 0 (List.length a0 : Int)
theorem zde {g : GL} (a0 : List Int) (a1 : Int) {R : Int × Bool}  (hb : a0.length ≤ 1000) (hR : qzk a0 a1 = some R) : Con (EG g) 173 [G.sl 1 (List.map cInt a0), G.int a1] (G.tup [G.int R.1, G.bool R.2]) := by
 unfold qzk at hR;refine qm Tryz.func173 U U fun w0 M0 => ?_;refine zu (f := cInt) (l := a0) 0 U fun hla0 => ?_;refine qb<|qa [.p, .p]<|sa U U<|sa U U<|qd<|qb<|qa [.p, .p, .p]<|sm U U<|su (zb (f := cInt) (l := a0) U Tryz.underlying132 U) U<|sa U U<|qd<|qb<|qa [.p, .p, .p]<|sm U U<|sa U U<|sa U U<|qd<|qb<|qp<|zf (γ := Nat × Int × Int) (fun g => ([(0, .g (G.sl 1 (List.map cInt a0))), (1, .g (G.int a1)), (6, .g (G.int (List.length a0 : Int))), (7, .g (G.int g.2.1)), (8, .g (G.int g.2.2))], [])) (fun g => (g.2.2 - g.2.1).toNat < g.1 ∧ 0 ≤ g.2.1 ∧ g.2.1 ≤ g.2.2 ∧ g.2.2 ≤ (List.length a0 : Int) ∧ qbz a0 a1 g.1 g.2.1 g.2.2 = some R) (fun g => g.1) ⟨U, ((((List.length a0 : Int) - 0).toNat) + 1, 0, (List.length a0 : Int)), jA, O, U, ⟨Nat.lt_succ_self _, iD, iD, iD, (by exact hR)⟩, O⟩ ?_
 ·rintro ⟨k3, x1, x2⟩ ⟨hk1, iv1_0, iv1_1, iv1_2, hR⟩;replace hk1 : (x2 - x1).toNat < k3 := hk1;replace hR : qbz a0 a1 k3 x1 x2 = some R := hR;replace iv1_0 : 0 ≤ x1 := iv1_0;replace iv1_1 : x1 ≤ x2 := iv1_1;replace iv1_2 : x2 ≤ (List.length a0 : Int) := iv1_2;obtain ⟨k3, rfl⟩ : ∃ m, k3 = m + 1 := ⟨k3 - 1, by omega⟩;rw [qbz] at hR;(try dsimp only at hR);refine qb<|qb<|qa [.p, .p, .p]<|sm U U<|sm U U<|su (zd U U U) U<|qd ?_;refine ql _ U (fun h1 => ?_) (fun h1 => ?_)
  ·replace h1 : (decide (x1 < x2)) = true := h1;replace hR := zk hR h1;(try simp only [bB] at h1);refine qn<|qp<|qb<|qa [.p, .p, .p, .p, .p, .p, .p]<|sm U U<|sm U U<|su (zn U U U iF) U<|su (qej U Tryz.underlying3 Tryz.underlying233 U (by (try dsimp only); omega) (by (try dsimp only); omega)) U<|su (qg2 U U U (by (try dsimp only); omega)) U<|su (qek U Tryz.underlying233 Tryz.underlying3 U iF) U<|sa U U<|qd<|qb ?_;obtain ⟨y4, by4, hR⟩ := qh hR;refine qa [.p, .p, .p, .p, .p, .p]<|sm U U<|sm U U<|su (z5 (f := cInt) (l := a0) (a := y4) U Tryz.underlying132 ty3 U U (jj by4) (zh by4)) U<|su (qf U ty3 U) U<|sm U U<|su (qg U q80 U (zc9 y4 a1) (qe U (qe U qk))) U<|qd ?_;refine ql _ U (fun h2 => ?_) (fun h2 => ?_)
   ·replace h2 : ((qpp y4 a1)) = true := h2;replace hR := zk hR h2;(try simp only [bB] at h2);refine qa [.p, .p, .p]<|sm U U<|su (zn U U U iF) U<|sa U U<|qd ?_;exact ⟨U, (k3, ((x1 + x2) / 2) + 1, x2), jA, O, U, ⟨iB, iB, iB, iB, hR⟩, by simp⟩
   ·replace h2 : ((qpp y4 a1)) = false := h2;replace hR := zl hR h2;(try simp only [bB] at h2);refine qa [.p, .p]<|sm U U<|sa U U<|qd ?_;exact ⟨U, (k3, x1, (x1 + x2) / 2), jA, O, U, ⟨iB, iB, iB, iB, hR⟩, by simp⟩
  ·replace h1 : (decide (x1 < x2)) = false := h1;replace hR := zl hR h1;(try simp only [bB] at h1);refine zw<|qb ?_;obtain ⟨y5, by5, hR⟩ := qh hR;obtain ⟨y6, by6, hR⟩ := qh hR;refine qa [.p, .p, .p, .p, .p, .p, .p, .p, .p, .p, .p, .p, .p, .p, .p, .p, .p, .p, .p, .p, .p, .p, .p, .p, .p]<|sm U U<|sm U U<|sm U U<|su (zd U U U) U<|sm U U<|sg U U (fun h => qj U U) U<|sg U U (fun h => qj U U) U<|sg U U (fun h => z5 (f := cInt) (l := a0) (a := y5) U Tryz.underlying132 ty3 (gd h U) (gd h U) (jj (xm by5 h)) (zh (xm by5 h))) U<|sg U U (fun h => qf U ty3 (gd h U)) U<|sg U U (fun h => qj U U) U<|sg U U (fun h => jn U (gd h U) (gd h U)) U<|sg U U (fun h => qj U (gd h U)) U<|st_g U U U (jl _ _ _) (fun h => qj U U) U<|st_g U U U (jl _ _ _) (fun h => qj U U) U<|st_g U U U (jl _ _ _) (fun h => z5 (f := cInt) (l := a0) (a := y6) U Tryz.underlying132 ty3 (gd h U) (gd h U) (jj (q76 by6 h)) (zh (q76 by6 h))) U<|st_g U U U (jl _ _ _) (fun h => qf U ty3 (gd h U)) U<|st_g U U U (jl _ _ _) (fun h => qg U q5o U (q75 y6) (qe (gd h U) qk)) U<|st_g U U U (jl _ _ _) (fun h => qj U (gd h U)) U<|st_g U U U (jl _ _ _) (fun h => qj U U) U<|st_g U U U (jl _ _ _) (fun h => qg U q5o U (q75 a1) (qe (gd h U) qk)) U<|st_g U U U (jl _ _ _) (fun h => zt U (gd h U) U (gd2 h U)) U<|sg U U (fun h => jg U (gd h U) U (gd2 h U)) U<|su (zt U U U U) U<|sa U U<|sa U U<|qd<|qo ?_;obtain rfl := Option.some.inj hR;exact resN U ⟨rv_g U, rv_g U, O⟩ (by simp)
def qtu (a0 : List Int) (a1 : Int) : Option Int :=
 zc (qzk a0 a1) fun r1 => some r1.1
theorem q77 {g : GL} (a0 : List Int) (a1 : Int) {R : Int}  (hb : a0.length ≤ 1000) (hR : qtu a0 a1 = some R) : Con (EG g) 123 [G.sl 1 (List.map cInt a0), G.int a1] (G.int R) := by
 unfold qtu at hR;refine qm Tryz.func123 U U fun w0 M0 => ?_;refine zu (f := cInt) (l := a0) 0 U fun hla0 => ?_;refine qb<|qa [.p]<|sa U U<|qd<|qb ?_;obtain ⟨r1, br1, hR⟩ := qh hR;refine qa [.p, .p, .p, .p, .p, .p, .p, .p]<|sm rfl rfl<|sm rfl rfl<|su (qg rfl q9e rfl (zde a0 a1 (by first | assumption | omega | (simp [qi]; done) | (simp [qi]; omega)) br1) (qe rfl (qe rfl qk))) rfl<|sm rfl rfl<|su (qv rfl rfl rfl) rfl<|su (qv rfl rfl rfl) rfl<|sa rfl rfl<|sa rfl rfl<|qd<|qb<|qa [.p, .p]<|sm rfl rfl<|sa rfl rfl<|qd<|qo ?_;obtain rfl := Option.some.inj hR;exact za U (rv_g U)
def qzl (a0 : List Int) (a1 : Int) (a2 : Int) : Option Int :=
 zc (qtu a0 (IntKind.i64.wrap (a1 + a2))) fun r1 => zc (qtu a0 a1) fun r2 => some (IntKind.i64.wrap (r1 - r2))
theorem q6y {g : GL} (a0 : List Int) (a1 : Int) (a2 : Int) {R : Int}  (hb : a0.length ≤ 1000) (hR : qzl a0 a1 a2 = some R) : Con (EG g) 65 [G.sl 1 (List.map cInt a0), G.int a1, G.int a2] (G.int R) := by
 unfold qzl at hR;refine qm Tryz.func65 U U fun w0 M0 => ?_;refine zu (f := cInt) (l := a0) 0 U fun hla0 => ?_;refine qb<|qa [.p]<|sa U U<|qd<|qb ?_;obtain ⟨r1, br1, hR⟩ := qh hR;obtain ⟨r2, br2, hR⟩ := qh hR;refine qa [.p, .p, .p, .p, .p, .p, .p, .p, .p, .p]<|sm rfl rfl<|sm rfl rfl<|sm rfl rfl<|su (kl rfl rfl rfl) rfl<|su (qg rfl q5u rfl (q77 a0 (IntKind.i64.wrap (a1 + a2)) (by first | assumption | omega | (simp [qi]; done) | (simp [qi]; omega)) br1) (qe rfl (qe rfl qk))) rfl<|sm rfl rfl<|sm rfl rfl<|su (qg rfl q5u rfl (q77 a0 a1 (by first | assumption | omega | (simp [qi]; done) | (simp [qi]; omega)) br2) (qe rfl (qe rfl qk))) rfl<|su (kq rfl rfl rfl) rfl<|sa rfl rfl<|qd<|qo ?_;obtain rfl := Option.some.inj hR;exact za U (rv_g U)
def qt8 (a0 : S2062) (a1 : ByteArray) : Bool :=
 decide (a0.Name = a1)
theorem zdf {g : GL} (a0 : S2062) (a1 : ByteArray)    : Con (EG g) 152 [G.agg (S2062.c a0), G.ref [G.str a1]] (G.bool (qt8 a0 a1)) := by
 generalize hR : qt8 a0 a1 = R;unfold qt8 at hR;refine qm Tryz.func152 U U fun w0 M0 => ?_;refine qb<|qa [.p, .p]<|su (zi U U) U<|sa U U<|qd<|qb<|qa [.p, .p, .p, .p, .p]<|su (qc U qnd U) U<|su (qf U ty9 U) U<|su (qf U ty9 U) U<|su (vk U U U) U<|sa U U<|qd<|qo ?_;subst hR;exact za U (rv_g U)
def qb7 (a1 : S2062 → Bool) : List S2062 → Nat → Int
 | [], k2 => (-1)
 | y3 :: t4, k2 => (bif (a1 y3) then ((k2 : Nat) : Int) else qb7 a1 t4 (k2 + 1))
def qwi (a0 : List S2062) (a1 : S2062 → Bool) : Int :=
 qb7 a1 a0 0
theorem zdg {g : GL} (a0 : List S2062) (a1 : S2062 → Bool) {ca1 : G} {ia1 : FuncId} {ka1 : List G} (ha1 : FnIs ca1 ia1 ka1) (Ka1 : ze Tryz.prog ia1) (Ha1 : ∀ (x0 : S2062), Con (EG g) ia1 ([G.agg (S2062.c x0)] ++ ka1) (G.bool (a1 x0)))   : Con (EG g) 151 [G.sl 11 (List.map S2062.c a0), ca1] (G.int (qwi a0 a1)) := by
 generalize hR : qwi a0 a1 = R;unfold qwi at hR;refine qm Tryz.func151 U U fun w0 M0 => ?_;refine zu (f := S2062.c) (l := a0) 0 U fun hla0 => ?_;refine qb<|qa [.p]<|sa U U<|qd<|qb<|qb<|qa [.p, .p, .p]<|sm U U<|su (zb (f := S2062.c) (l := a0) U Tryz.underlying22 U) U<|sm U U<|qd<|qp<|zf (γ := Nat × (List S2062)) (fun g => ([(0, .g (G.sl 11 (List.map S2062.c a0))), (1, .g (ca1)), (7, .g (G.int (List.length a0 : Int))), (8, .g (G.int ((g.1 : Nat) : Int)))], [])) (fun g => a0.drop g.1 = g.2 ∧ qb7 a1 g.2 g.1 = R) (fun g => List.length g.2) ⟨U, (0, a0), jA, O, U, ⟨U, (by exact hR)⟩, O⟩ ?_
 ·rintro ⟨k2, t4⟩ ⟨hd, hR⟩;replace hd : a0.drop k2 = t4 := hd;replace hR : qb7 a1 t4 k2 = R := hR;refine qb<|qa [.p]<|su (zd U U U) U<|qd ?_;refine zu (f := S2062.c) (l := a0) 0 U fun hlz1 => ?_;refine qb ?_;refine ql _ U (fun h1 => ?_) (fun h1 => ?_)
  ·replace h1 : (decide (((k2 : Nat) : Int) < (List.length a0 : Int))) = true := h1;obtain ⟨y3, t4, rfl, hx1, hd⟩ := zq hd (decT h1);replace h1 := decT h1;rw [qb7] at hR;(try dsimp only at hR);refine qn<|qb<|qp<|qb<|qa [.p, .p]<|sm U U<|sa U U<|qd<|qb<|qa [.p, .p, .p, .p, .p, .p]<|sm U U<|sm U U<|sm U U<|su (z5 (f := S2062.c) (l := a0) (a := y3) U Tryz.underlying22 vy U U (Int.natCast_nonneg _) hx1) U<|su (qr U vy U U U) U<|su (xi U ha1 Ka1 U (Ha1 y3) (qe U qk)) U<|qd ?_;refine ql _ U (fun h3 => ?_) (fun h3 => ?_)
   ·replace hR := zk hR h3;refine qb<|qa [.p, .p]<|sm U U<|sa U U<|qd<|qo ?_;subst hR;exact za U (rv_g U)
   ·replace h3 : ((a1 y3)) = false := h3;replace hR := zl hR h3;(try simp only [bB] at h3);refine qn<|qa [.p, .p]<|su (zn U U U iE) U<|sm U U<|qd ?_;exact ⟨U, (k2 + 1, t4), jA, O, U, ⟨hd, hR⟩, by simp⟩
  ·replace h1 : (decide (((k2 : Nat) : Int) < (List.length a0 : Int))) = false := h1;obtain rfl := zz hd (decF h1);rw [qb7] at hR;refine zw<|qb<|qa [.p]<|sa U U<|qd<|qo ?_;subst hR;exact za U (rv_g U)
def qkz (a0 : List S2062) (a1 : ByteArray) : Int :=
 (qwi a0 (fun x0 => qt8 x0 a1))
theorem zdh {g : GL} (a0 : List S2062) (a1 : ByteArray)    : Con (EG g) 107 [G.sl 11 (List.map S2062.c a0), G.str a1] (G.int (qkz a0 a1)) := by
 generalize hR : qkz a0 a1 = R;unfold qkz at hR;refine qm Tryz.func107 U U fun w0 M0 => ?_;refine zu (f := S2062.c) (l := a0) 0 U fun hla0 => ?_;refine qb<|qa [.p, .p]<|su (zi U U) U<|sa U U<|qd<|qb<|qa [.p, .p, .p, .p]<|sm U U<|su (qas U U U) U<|su (qg U q9f U (zdg a0 (fun x0 => qt8 x0 a1) qho q9g (fun x0 => zdf x0 a1)) (qe U (qe U qk))) U<|sa U U<|qd<|qo ?_;subst hR;exact za U (rv_g U)
def qbg (a0 : List S2062) : List S2062 → Nat → Int
 | [], k2 => 0
 | y3 :: t4, k2 => (bif decide ((vr [(qgu y3), (xk (decide (0 ≤ (qkz (List.take (Int.toNat ((k2 : Nat) : Int)) a0) y3.Name))) 9)]) ≠ 0) then (vr [(qgu y3), (xk (decide (0 ≤ (qkz (List.take (Int.toNat ((k2 : Nat) : Int)) a0) y3.Name))) 9)]) else qbg a0 t4 (k2 + 1))
def qa8 (a0 : List S2062) : Int :=
 (bif decide (32 < (List.length a0 : Int)) then 5 else qbg a0 a0 0)
theorem q65 {g : GL} (a0 : List S2062)    : Con (EG g) 50 [G.sl 11 (List.map S2062.c a0)] (G.int (qa8 a0)) := by
 generalize hR : qa8 a0 = R;unfold qa8 at hR;refine qm Tryz.func50 U U fun w0 M0 => ?_;refine zu (f := S2062.c) (l := a0) 0 U fun hla0 => ?_;refine qb<|qa [.p]<|sa U U<|qd<|qb<|qb<|qa [.p, .p, .p]<|sm U U<|su (zb (f := S2062.c) (l := a0) U Tryz.underlying22 U) U<|su (zy U U U) U<|qd ?_;refine ql _ U (fun h1 => ?_) (fun h1 => ?_)
 ·replace hR := zk hR h1;refine qb<|qa [.p]<|sa U U<|qd<|qo ?_;subst hR;exact za U (rv_g U)
 ·replace h1 : (decide (32 < (List.length a0 : Int))) = false := h1;replace hR := zl hR h1;(try simp only [bB] at h1);refine qn<|qb<|qb<|qa [.p, .p, .p]<|sm U U<|su (zb (f := S2062.c) (l := a0) U Tryz.underlying22 U) U<|sm U U<|qd<|qp<|zf (γ := Nat × (List S2062)) (fun g => ([(0, .g (G.sl 11 (List.map S2062.c a0))), (9, .g (G.sl 11 (List.map S2062.c a0))), (10, .g (G.int (List.length a0 : Int))), (11, .g (G.int ((g.1 : Nat) : Int)))], [])) (fun g => a0.drop g.1 = g.2 ∧ qbg a0 g.2 g.1 = R) (fun g => List.length g.2) ⟨U, (0, a0), jA, O, U, ⟨U, (by exact hR)⟩, O⟩ ?_
  ·rintro ⟨k2, t4⟩ ⟨hd, hR⟩;replace hd : a0.drop k2 = t4 := hd;replace hR : qbg a0 t4 k2 = R := hR;refine qb<|qa [.p]<|su (zd U U U) U<|qd ?_;refine zu (f := S2062.c) (l := a0) 0 U fun hlz1 => ?_;refine qb ?_;refine ql _ U (fun h2 => ?_) (fun h2 => ?_)
   ·replace h2 : (decide (((k2 : Nat) : Int) < (List.length a0 : Int))) = true := h2;obtain ⟨y3, t4, rfl, hx1, hd⟩ := zq hd (decT h2);replace h2 := decT h2;rw [qbg] at hR;(try dsimp only at hR);refine qn<|qb<|qp<|qb<|qa [.p, .p, .p, .w, .p, .w]<|sm U U<|su (z5 (f := S2062.c) (l := a0) (a := y3) U Tryz.underlying22 vy U U (Int.natCast_nonneg _) hx1) U<|su (qr U vy U U U) U<|sw (zm 4 U quv U U) U<|sa U U<|je U U (qw (tv := .g (G.agg (S2062.c y3))) U vy U U U U U)<|qd<|qb<|zr [.r, .p, .p, .p, .p, .p, .r, .p, .p, .p, .p, .p, .p] (by kernel_rfl)<|sr (zj U vy U U U U) U<|su (qg U q84 U (zdi y3) (qe U qk)) U<|sm U U<|sm U U<|su (qhn (f := S2062.c) (l := a0) U Tryz.underlying22 vy U qc9 (qda U (Int.natCast_nonneg _)) (Nat.zero_le _) (qpa hx1)) U<|su (qu U qnd U) U<|sr (zo U ty9 U U U) U<|su (qg U q9c U (zdh (List.take (Int.toNat ((k2 : Nat) : Int)) a0) y3.Name) (qe U (qe U qk))) U<|su (xo U U U) U<|su (qg U qjz U (qlc (decide (0 ≤ (qkz (List.take (Int.toNat ((k2 : Nat) : Int)) a0) y3.Name))) 9) (qe U (qe U qk))) U ?_;refine su (qt U Tryz.underlying170 ty37 z37 U (qx U (qx U jp)) U (by simp []) (by decide)) U ?_;refine su (qg U qjy U (qk0 [(qgu y3), (xk (decide (0 ≤ (qkz (List.take (Int.toNat ((k2 : Nat) : Int)) a0) y3.Name))) 9)]) (qe U qk)) U<|sa U U<|qd<|qb<|qa [.p, .p]<|sm U U<|su (zx U U U) U<|qd ?_;refine ql _ U (fun h4 => ?_) (fun h4 => ?_)
    ·replace hR := zk hR h4;refine qb<|qa [.p, .p]<|sm U U<|sa U U<|qd<|qo ?_;subst hR;exact za U (rv_g U)
    ·replace h4 : (decide ((vr [(qgu y3), (xk (decide (0 ≤ (qkz (List.take (Int.toNat ((k2 : Nat) : Int)) a0) y3.Name))) 9)]) ≠ 0)) = false := h4;replace hR := zl hR h4;(try simp only [bB] at h4);refine qn<|qa [.p, .p]<|su (zn U U U iE) U<|sm U U<|qd ?_;exact ⟨U, (k2 + 1, t4), jA, O, U, ⟨hd, hR⟩, by simp⟩
   ·replace h2 : (decide (((k2 : Nat) : Int) < (List.length a0 : Int))) = false := h2;obtain rfl := zz hd (decF h2);rw [qbg] at hR;refine zw<|qb<|qa [.p]<|sa U U<|qd<|qo ?_;subst hR;exact za U (rv_g U)
open Go.WideMaps (KeyLaw)
structure KOk (P : Program) (kt : TypeId) {K : Type} (kf : K → Value) (ok : K → Prop) : Prop where
 law : KeyLaw P kt
 key : ∀ k, ok k → ∃ l, keyOf P kt (kf k) = some l
 inj : ∀ a b, kf a = kf b → a = b
section
variable {E : Env} {w0 : World} {M0 : Nat → Prop}
section find
variable {P : Program} {kt : TypeId} {K V : Type} [DecidableEq K] {kf : K → Value} {ok : K → Prop} {vf : V → G} {M : Nat → Prop}
theorem qrk {k : K} (inj : ∀ a b, kf a = kf b → a = b) {w : World} : ∀ {m : List (K × V)} {l : List MapEntry}, MFits w M (m.map fun p => (kf p.1, vf p.2)) l → (l.map (·.key)).Nodup →
  (mget m k = none ∧ (∀ x ∈ l, x.key ≠ kf k) ∧ ∀ v, mset m k v = m ++ [(k, v)]) ∨
  ∃ j e b, mget m k = some b ∧ l[j]? = some e ∧ e.key = kf k ∧ (vf b).p w M e.val ∧ (∀ v, mset m k v = m.set j (k, v)) ∧ ∀ j' e', l[j']? = some e' → e'.key = kf k → j' = j
 | [], [], _, _ => .inl ⟨rfl, by simp, fun _ => rfl⟩
 | (a, b) :: m, e :: l, h, hn => by
  obtain ⟨⟨h1, h2⟩, h3⟩ := h;rw [List.map_cons, List.nodup_cons] at hn
  by_cases hak : a = k
  ·subst hak;refine .inr ⟨0, e, b, by simp [mget], rfl, h1, h2, fun v => by simp [mset], fun j' e' hj hk => ?_⟩
   cases j' with
   | zero => rfl
   | succ j' =>
    exfalso
    apply hn.1
    have hm : e' ∈ l := List.mem_of_getElem? (by simpa using hj);rw [show e.key = e'.key from h1.trans hk.symm];exact List.mem_map_of_mem hm
  ·have hne : e.key ≠ kf k := fun q => hak (inj a k (h1.symm.trans q))
   rcases qrk (k := k) inj h3 hn.2 with ⟨g1, g3, g4⟩ | ⟨j, e', b', g1, g3, g4, g5, g6, g7⟩
   ·exact .inl ⟨by simp [mget, hak, g1], fun x hx => by
     rcases List.mem_cons.1 hx with rfl | hx
     ·exact hne
     ·exact g3 x hx, fun v => by simp [mset, hak, g4]⟩
   ·refine .inr ⟨j + 1, e', b', by simp [mget, hak, g1], by simpa using g3, g4, g5, fun v => by simp [mset, hak, g6], fun j' e2 hj hk => ?_⟩
    cases j' with
    | zero => simp at hj; subst hj; exact absurd hk hne
    | succ j' => rw [g7 j' e2 (by simpa using hj) hk]
 | [], _ :: _, h, _ => h.elim
 | _ :: _, [], h, _ => h.elim
theorem q2j {k : K} (KO : KOk P kt kf ok) (hk : ok k) (w : World) {m : List (K × V)} {l : List MapEntry} (h : MFits w M (m.map fun p => (kf p.1, vf p.2)) l) (hn : (l.map (·.key)).Nodup) (hm : ∀ p ∈ m, ok p.1) :
  (mget m k = none ∧ (Instr.findKey kt (kf k) l).run P w = .ok none w ∧ (∀ x ∈ l, x.key ≠ kf k) ∧ ∀ v, mset m k v = m ++ [(k, v)]) ∨
  ∃ j e b, mget m k = some b ∧ (Instr.findKey kt (kf k) l).run P w = .ok (some (j, e.val)) w ∧ l[j]? = some e ∧ e.key = kf k ∧ (vf b).p w M e.val ∧ ∀ v, mset m k v = m.set j (k, v) := by
 obtain ⟨lk, hlk⟩ := KO.key k hk
 have hkeys : ∀ e ∈ l, ∃ q, keyOf P kt e.key = some q := by
  have : ∀ {m : List (K × V)} {l : List MapEntry}, (∀ p ∈ m, ok p.1) → MFits w M (m.map fun p => (kf p.1, vf p.2)) l → ∀ e ∈ l, ∃ q, keyOf P kt e.key = some q := by
   intro m
   induction m with
   | nil => intro l hm h e he; cases l with
    | nil => cases he
    | cons => exact h.elim
   | cons p m ih => intro l hm h e he; cases l with
    | nil => cases he
    | cons e0 l =>
     rcases List.mem_cons.1 he with rfl | he
     ·obtain ⟨q, hq⟩ := KO.key p.1 (hm p List.mem_cons_self);exact ⟨q, by rw [h.1.1]; exact hq⟩
     ·exact ih (fun q hq => hm q (List.mem_cons_of_mem _ hq)) h.2 e he
  exact this hm h
 rcases KO.law.find w hlk l hkeys with ⟨f1, f2⟩ | ⟨j, e, f1, f2, f3⟩
 ·rcases qrk (k := k) KO.inj h hn with ⟨g1, g3, g4⟩ | ⟨j, e, b, g1, g3, g4, g5, g6, g7⟩
  ·exact .inl ⟨g1, f1, g3, g4⟩
  ·exact absurd g4 (f2 e (List.mem_of_getElem? g3))
 ·rcases qrk (k := k) KO.inj h hn with ⟨g1, g3, g4⟩ | ⟨j', e', b, g1, g3, g4, g5, g6, g7⟩
  ·exact absurd f3 (g3 e (List.mem_of_getElem? f2))
  ·have hj := g7 j e f2 f3;subst hj;rw [f2] at g3
   cases g3
   exact .inr ⟨j, e, b, g1, f1, f2, g4, g5, g6⟩
end find
section ops
variable {K V : Type} [DecidableEq K] {kf : K → Value} {ok : K → Prop} {vf : V → G} {o : Oper} {mem : Mem} {ev : Operand → TV} {t kt et : TypeId} {x ix : Operand} {id : Nat} {m : List (K × V)} {k : K} {z : V}
theorem qrl (KO : KOk E.P kt kf ok) (hk : ok k) (hmk : ∀ p ∈ m, ok p.1) {ρ : Rho} {w : World} (hm : MRel E w0 M0 ρ mem w) (ht : E.P.underlying t = some (.map kt et)) {zv : Value} (hz : (E.P.info? et).bind (·.zero) = some zv) (hz0 : ∀ w M, (vf z).p w M zv)
  (hb : qq mem id = some (mpB kf vf m)) {v : Value} (hv : TRel w (qz M0 ρ) ρ (.omap id) v) (ok : Bool) : ∃ u, (vf (vd m k z)).p w (qz M0 ρ) u ∧ (Instr.lookup t v (kf k) ok).run E.P w = .ok (if ok then .tuple #[u, .bool (mhas m k)] else u) w := by
 obtain ⟨ow, en, cl, h1, rfl, h2, h3, h4⟩ := qkl hm hb hv
 have hzr : (zeroValue et).run E.P w = .ok zv w := by
  cases hi : E.P.info? et with
  | none => rw [hi] at hz; cases hz
  | some i =>
   rw [hi] at hz;have hz : i.zero = some zv := hz
   simp [zeroValue, typeInfo, hi, hz]
 obtain ⟨lk, hlk⟩ := KO.key k hk;have hck := KO.law.check w en.isEmpty hlk
 rcases q2j (k := k) KO hk w h3 h4.2.2 hmk with ⟨g1, g2, _⟩ | ⟨j, e, b, g1, g2, g3, g4, g5, _⟩
 ·refine ⟨zv, by simp only [vd, g1]; exact hz0 _ _, ?_⟩
  simp [Instr.lookup, run_underlying ht, MapKept.run_getObj_map h2, hck, g2, hzr, mhas, g1]
 ·refine ⟨e.val, by simp only [vd, g1]; exact g5, ?_⟩
  simp [Instr.lookup, run_underlying ht, MapKept.run_getObj_map h2, hck, g2, mhas, g1]
theorem qpo (KO : KOk E.P kt kf ok) (hk : ok k) (hmk : ∀ p ∈ m, ok p.1) {zv : Value} (ho : o.op = .lookup t x ix true) (ht : E.P.underlying t = some (.map kt et)) (hz : (E.P.info? et).bind (·.zero) = some zv) (hz0 : ∀ w M, (vf z).p w M zv)
  (hx : ev x = .omap id) (hi2 : ∀ w M ρ u, TRel w M ρ (ev ix) u → u = kf k) (hb : qq mem id = some (mpB kf vf m)) : Eff E o mem ev (.g (.tup [vf (vd m k z), G.bool (mhas m k)])) := by
 intro w0 M0 ρ w e hm he;have h1 := he x (by rw [ho]; simp [Op.operands]);rw [hx] at h1;have h2 := he ix (by rw [ho]; simp [Op.operands]);have h2' : e ix = kf k := hi2 _ _ _ _ h2;obtain ⟨u, g1, g2⟩ := qrl (z := z) (k := k) KO hk hmk hm ht hz hz0 hb h1 true
 have : (execOp e o).run E.P w = .ok (.value (.tuple #[u, .bool (mhas m k)])) w := by simp only [execOp, ho, h2', Sem.run_bind, g2, Result.andThen_ok, Sem.run_pure]; rfl
 rw [this];exact ⟨Grow.refl w, [u, .bool (mhas m k)], U, g1, U, O⟩
theorem qq4 (KO : KOk E.P kt kf ok) (hk : ok k) (hmk : ∀ p ∈ m, ok p.1) {y : Operand} {v : V} {ins : Bool} (ho : o.op = (if ins then .insert t x ix y else .mapUpdate t x ix y)) (ht : E.P.underlying t = some (.map kt et))
  (hx : ev x = .omap id) (hi2 : ∀ w M ρ u, TRel w M ρ (ev ix) u → u = kf k) (hy : ev y = .g (vf v)) (hb : qq mem id = some (mpB kf vf m)) : EffW E o mem ev wt ((id, mpB kf vf (mset m k v)) :: mem) none := by
 intro w0 M0 ρ w e' hm he
 have hop : ∀ (P : Op → Prop), P (.insert t x ix y) → P (.mapUpdate t x ix y) → P o.op := fun P h1 h2 => by rw [ho]; cases ins <;> assumption
 have hmem : ∀ q, q = x ∨ q = ix ∨ q = y → q ∈ o.op.operands := fun q hq => by
  rw [ho]; cases ins <;> simp [Op.operands] <;> exact hq
 have h1 := he x (hmem _ (.inl rfl));rw [hx] at h1;have h2 := he ix (hmem _ (.inr (.inl rfl)));have h2' : e' ix = kf k := hi2 _ _ _ _ h2;have h3 := he y (hmem _ (.inr (.inr rfl)));rw [hy] at h3;have h3' : (vf v).p w (qz M0 ρ) (e' y) := h3;obtain ⟨ow, en, cl, g1, g2, g3, g4, g5⟩ := qkl hm hb h1;obtain ⟨lk, hlk⟩ := KO.key k hk;have hck := KO.law.check w false hlk
 have hexec : execOp e' o = (do Instr.mapUpdate t (e' x) (e' ix) (e' y); pure .skip) := by cases ins <;> simp [execOp, ho]
 have hset : ∀ (ob : Obj), (w.heap.setIfInBounds ow.b ob).size = w.heap.size := fun ob => by simp
 have hlt : ow.b < w.heap.size := (Array.getElem?_eq_some_iff.1 g3).1
 -- what the new map is
 obtain ⟨en', cl', hrun, hf, hst⟩ : ∃ en' cl', (Instr.mapUpdate t (e' x) (e' ix) (e' y)).run E.P w = .ok () { w with heap := w.heap.setIfInBounds ow.b (.map en' cl') } ∧ MFits w (qz M0 ρ) ((mset m k v).map fun p => (kf p.1, vf p.2)) en'.toList ∧ MapKept.Stamped en' cl' := by
  rcases q2j (k := k) KO hk w g4 g5.2.2 hmk with ⟨q1, q2, q3, q4⟩ | ⟨j, e, b, q1, q2, q3, q4, q5, q6⟩
  ·refine ⟨en.push { key := kf k, val := e' y, born := cl }, cl + 1, ?_, ?_, MapKept.stamped_push g5 q3⟩
   ·simp [Instr.mapUpdate, g2, h2', run_underlying ht, MapKept.run_getObj_map g3, hck, q2, MapKept.run_setObj_map _ g3]
   ·rw [q4 v, List.map_append, Array.toList_push];exact MFits.push g4 U h3'
  ·have hj : en[j]? = some e := by simpa using q3
   refine ⟨en.modify j fun e => { e with key := kf k, val := e' y }, cl, ?_, ?_, MapKept.stamped_modify g5 _ _ (fun _ _ => U) (fun e0 _ he0 => by rw [hj] at he0; cases he0; exact q4.symm)⟩
   ·simp [Instr.mapUpdate, g2, h2', run_underlying ht, MapKept.run_getObj_map g3, hck, q2, hj, q4, KO.law.stays w hlk, MapKept.run_setObj_map _ g3]
   ·rw [q6 v, qgo q3, List.map_set];exact MFits.set j g4 U h3'
 have hrun2 : (execOp e' o).run E.P w = .ok .skip { w with heap := w.heap.setIfInBounds ow.b (.map en' cl') } := by rw [hexec, Sem.run_bind, hrun]; rfl
 rw [hrun2];have hoth := (MapKept.heap_set (o' := .map en' cl') g3).2;have hd : Diff ρ id w { w with heap := w.heap.setIfInBounds ow.b (.map en' cl') } := ⟨rfl, rfl, rfl, by simp, fun b _ hne => hoth b (hne ow g1)⟩
 have hM : ∀ b, b < w.heap.size → qz M0 (jh ρ id (some ow)) b → qz M0 ρ b := by
  rintro b hb (h | ⟨i, o, h, rfl⟩)
  ·exact .inl h
  ·by_cases hi : i = id
   ·subst hi; rw [qy] at h; cases h; exact .inr ⟨i, ow, g1, rfl⟩
   ·exact .inr ⟨i, o, by simpa [jh, hi] using h, rfl⟩
 have hh : ∀ b, b < w.heap.size → ¬ qz M0 ρ b → ({ w with heap := w.heap.setIfInBounds ow.b (.map en' cl') } : World).heap[b]? = w.heap[b]? := fun b _ hno => hoth b fun he => hno (.inr ⟨id, ow, g1, he.symm⟩);obtain ⟨k1, k2⟩ := j9 (id := id) (x := some ow) (blk' := mpB kf vf (mset m k v)) none hm hd (fun o ho => by cases ho; exact ⟨.inr ⟨ow, g1, rfl⟩, by simpa using hlt⟩) (.inr ⟨rfl, .inr g1⟩) (fun _ b _ _ => z4 b) (.inl rfl)
  ⟨ow, en', cl', qy _ _ _, (MapKept.heap_set (o' := .map en' cl') g3).1, hf.mono hh hM, hst⟩
 exact ⟨_, k1, k2, U⟩
end ops
end
def kf2 (p : ByteArray × ByteArray) : Value := .agg #[.string p.1, .string p.2]
def ok2 (p : ByteArray × ByteArray) : Prop := p.1.size ≤ 1000 ∧ p.2.size ≤ 1000
theorem lay2 : laidOutB Tryz.prog = true := by kernel_rfl
theorem u167 : Tryz.prog.underlying 191 = some (.array 2 9) := by kernel_rfl
theorem zdj : Tryz.prog.keyType 191 = true := by kernel_rfl
theorem q78 : Tryz.prog.cellsOf 191 = 2 := by kernel_rfl
theorem co9 : Tryz.prog.cellsOf 9 = 1 := by kernel_rfl
theorem sz0 : ∃ n, Tryz.prog.types.size + 1 = n + 2 := ⟨Tryz.prog.types.size - 1, by
 have : 1 ≤ Tryz.prog.types.size := of_decide_eq_true (by kernel_rfl)
 omega⟩
theorem ko2 : KOk Tryz.prog 191 kf2 ok2 where
 law := deep_law_laid lay2 (m := 3) (by decide) (k := 191) (of_decide_eq_true (by kernel_rfl)) (by kernel_rfl) (by kernel_rfl)
 key := fun p hp => by
  obtain ⟨n, hn⟩ := sz0
  have h1 : p.1.size ≤ maxLen := by have := hp.1; unfold maxLen; omega
  have h2 : p.2.size ≤ maxLen := by have := hp.2; unfold maxLen; omega
  have hf : (kf2 p).formed Tryz.prog 191 = true := by
   unfold kf2 Value.formed;rw [u167, q78]; rfl
  have hl : (Tryz.prog.keyLits (n + 2) 191 (kf2 p).cells.toList) = some [Lit.string p.1.data.toList, Lit.string p.2.data.toList] := by
   unfold Program.keyLits;rw [u167];simp only [q78, co9, kf2, Value.cells, List.length_cons, List.length_nil, Nat.zero_add, ↓reduceIte];have hr : List.range 2 = [0, 1] := rfl;unfold Program.keyLits;rw [hr, Tryz.underlying9]
   simp [h1, h2]
  unfold keyOf;rw [u167];simp only [zdj, hf, Bool.and_self, ↓reduceIte, hn, hl, Option.map_some];exact ⟨_, U⟩
 inj := fun a b h => by
  unfold kf2 at h
  injection h with h
  have h := congrArg Array.toList h;simp only [List.cons.injEq, Value.string.injEq, and_true] at h;exact Prod.ext h.1 h.2
section
variable {E : Env} {w0 : World} {M0 : Nat → Prop}
def Env.turn (E : Env) (lp : Nat) (mem : Mem) (x : Nat → Option Own) : Env := ⟨E.P, E.gl, E.orders, mem.map fun p => (p.1, x p.1), some lp, false, E.nb⟩
theorem Con.turn {f : FuncId} {args : List G} {r : G} {lp : Nat} {mem : Mem} {x : Nat → Option Own} (h : Con E f args r) : Con (E.turn lp mem x) f args r := h
theorem ConB.turn {f : FuncId} {args : List TV} {r : G} {m m' : Mem} {lp : Nat} {mem : Mem} {x : Nat → Option Own} (h : ConB E f args m r m') : ConB (E.turn lp mem x) f args m r m' := h
def qbo (m m' : Mem) : Prop := m'.map (·.1) = m.map (·.1)
def qxz (m : Mem) : Bool := m.all fun q => q.2.live && q.2.ground
def q47 (m : Mem) : Bool := m.all fun q => q.2.live
theorem qjx {m : Mem} {id : Nat} : (∃ b, qq m id = some b) ↔ id ∈ m.map (·.1) := by
 induction m with
 | nil => simp [qq]
 | cons q m ih =>
  obtain ⟨k, v⟩ := q;simp only [qq, List.map_cons, List.mem_cons]
  rcases Bool.eq_false_or_eq_true (Nat.beq k id) with hk | hk
  ·rw [hk]; have := Nat.eq_of_beq_eq_true hk; simp [this]
  ·rw [hk]
   have : id ≠ k := fun e => by subst e; rw [Nat.beq_refl] at hk; cases hk
   simp only [cond_false, ih, this, false_or]
def Jm (ρ : Rho) (Mo : Nat → Prop) (lp D : Nat) (w : World) (st : Obj) (m : Mem) (W : World) : Prop :=
 BelowX (fun b => b = lp ∨ ∃ id ow, ρ id = some (some ow) ∧ ow.b = b) w W ∧ (∀ id blk, qq m id = some blk → BRel W Mo ρ id blk) ∧ W.heap[lp]? = some st ∧ W.heap[D]? = some (.deferred (some []))
theorem Jm.grow {ρ : Rho} {Mo : Nat → Prop} {lp D : Nat} {w W W' : World} {st : Obj} {m : Mem} (hsub : ∀ id ow, ρ id = some (some ow) → ow.b < w.heap.size) (h : Jm ρ Mo lp D w st m W) (hg : Grow W W') : Jm ρ Mo lp D w st m W' := by
 obtain ⟨h1, h2, h3, h4⟩ := h;refine ⟨h1.trans (BelowX.of_grow hg), fun id blk hb => ?_, (hg.block lp (Array.getElem?_eq_some_iff.1 h3).1).trans h3, (hg.block D (Array.getElem?_eq_some_iff.1 h4).1).trans h4⟩;exact (h2 id blk hb).mono none (by simp) (z4 _) (fun ow ho => hg.block _ (Nat.lt_of_lt_of_le (hsub id ow ho) h1.size)) hg.hh (fun _ _ h => h) (fun _ _ _ => U)
end
section
variable {E : Env} {w0 : World} {M0 : Nat → Prop}
theorem vp (w : World) (b : Nat) (o : Obj) : (w.putObj b o).heap.size = w.heap.size := by simp [World.putObj]
theorem wm (w : World) (b : Nat) (o : Obj) {L : Nat → Prop} (h : L b) : BelowX L w (w.putObj b o) :=
 ⟨rfl, rfl, rfl, Nat.le_of_eq (vp w b o).symm, fun k _ hl => World.putObj_heap_other fun e => hl (by rw [e]; exact h)⟩
end
section
variable {E : Env} {w0 : World} {M0 : Nat → Prop}
theorem qld {w : World} {D : Nat} (hD : w.heap[D]? = some (.deferred (some []))) (o : Obj) : qj7 w (w.putObj D o) := by
 intro a v h
 by_cases hb : a.block = D
 ·unfold World.cell? at h;rw [hb, hD] at h
  cases h
 ·unfold World.cell? at h ⊢;rw [World.putObj_heap_other hb];exact h
def G.inert (r : G) : Prop := ∀ (w : World) M u D o, r.p w M u → w.heap[D]? = some (.deferred (some [])) → r.p (w.putObj D o) M u
theorem xr (v : Value) : (G.lit v).inert := fun _ _ _ _ _ h _ => h
theorem qpv : ∀ c ∈ ([] : List G), c.inert := fun _ h => by cases h
theorem xu {c : G} {cs : List G} (h : c.inert) (hs : ∀ c ∈ cs, c.inert) : ∀ x ∈ c :: cs, x.inert := fun x hx => by
 rcases List.mem_cons.1 hx with rfl | hx
 ·exact h
 ·exact hs x hx
theorem qfw : ∀ {cs : List G}, (∀ c ∈ cs, c.inert) → ∀ {w : World} {M : Nat → Prop} {b k D : Nat} {o : Obj}, Cells w M b k cs → w.heap[D]? = some (.deferred (some [])) → Cells (w.putObj D o) M b k cs
 | [], _, _, _, _, _, _, _, h, _ => h
 | c :: cs, hc, w, M, b, k, D, o, ⟨⟨v, h1, h2, h3⟩, h4⟩, hD =>
  ⟨⟨v, qld hD o _ _ h1, hc c List.mem_cons_self _ _ _ _ _ h2 hD, h3⟩, qfw (fun x hx => hc x (List.mem_cons_of_mem _ hx)) h4 hD⟩
theorem qzp {k : Nat} {xs : List (List G)} (h : ∀ c ∈ xs.flatten, c.inert) : (G.sl k xs).inert := by
 rintro w M u D o ⟨a, cap, h1, h2, h3, h4, h5⟩ hD;refine ⟨a, cap, h1, h2, h3, h4, ?_⟩
 rcases h5 with h5 | ⟨b, k', h5, h6, h7⟩
 ·exact .inl h5
 ·exact .inr ⟨b, k', h5, h6, qfw h h7 hD⟩
theorem qim {P : Program} {fn : Func} {tmps : Array Value} {w : World} {M : Nat → Prop} {r : G} {v : Value} (hin : r.inert) : ∀ (ds : List Deferred) (w1 : World), ds.Nodup →
  (∀ d ∈ ds, ∃ D, d = { target := .collected D, args := #[] } ∧ w.heap.size ≤ D ∧ w1.heap[D]? = some (.deferred (some []))) → Grow w w1 → (∀ w', qj7 w1 w' → (results fn tmps).run P w' = .ok v w') → r.p w1 M v →
  LeavesInM Fence.wide 0 P fn tmps (fun e w'' => ∃ v, e = .returned v ∧ Grow w w'' ∧ r.p w'' M v) ds .returning w1
 | [], w1, _, _, hg, hr, hp => ⟨v, hr w1 (fun _ _ h => h), v, rfl, hg, hp⟩
 | d :: ds, w1, hn, hd, hg, hr, hp => by
  obtain ⟨D, rfl, hlt, hD⟩ := hd _ List.mem_cons_self;obtain ⟨hn1, hn2⟩ := List.nodup_cons.1 hn;refine ⟨by simp, .inl ⟨D, _, rfl, run_takeDeferred hD, ?_⟩⟩;refine qim hin ds _ hn2 (fun d' hd' => ?_) ?_ (fun w' hw => hr w' fun a u hu => hw a u (qld hD _ a u hu)) (hin _ _ _ _ _ hp hD)
  ·obtain ⟨D', rfl, hlt', hD'⟩ := hd d' (List.mem_cons_of_mem _ hd');exact ⟨D', U, hlt', (World.putObj_heap_other (fun e => hn1 (by rw [← e]; exact hd'))).trans hD'⟩
  ·exact ⟨hg.os, hg.tape, hg.output, by rw [vp]; exact hg.size, fun k hk => (World.putObj_heap_other (by omega)).trans (hg.block k hk)⟩
def Env.mked (E : Env) : Env := ⟨E.P, E.gl, E.orders, E.bow, E.rnd, true, E.nb⟩
theorem Con.mked {f : FuncId} {args : List G} {r : G} (h : Con E f args r) : Con E.mked f args r := h
theorem ConB.mked {f : FuncId} {args : List TV} {r : G} {m m' : Mem} (h : ConB E f args m r m') : ConB E.mked f args m r m' := h
theorem qex {f : FuncId} {fn : Func} {c : Code} {args : List G} {r : G} (hf : E.P.funcs[f]? = some fn) (hb : fn.body = some c) (hn0 : Nat.ble args.length fn.ntmps = true) (hin : r.inert)
  (h : ∀ w0 M0, AWp E.mked w0 M0 c (Done E.mked fn r) ⟨fn.ntmps, qdf args, []⟩) (hbw : E.bow = [] := by rfl) (hrn : E.rnd = none := by rfl) (hnb : E.nb = 0 := by rfl) : Con E f args r := by
 intro w M vs hM hgl hv;have hn := Nat.le_of_ble_eq_true hn0;have hlen := hv.length
 have hF : E.mked.F = Fence.wide := by unfold Env.F Env.mked; rw [hrn]; rfl
 suffices hci : CallsIn Fence.wide 0 E.P f vs.toArray w (fun e w' => ∃ v, e = .returned v ∧ Grow w w' ∧ r.p w' M v) from callsIn_wide.1 hci
 refine callsIn_of_wp_marks hf hb O ?_ U
 have ha : ARel E.mked w M ⟨fn.ntmps, qdf args, []⟩ { tmps := vs.toArray ++ Array.replicate (fn.ntmps - vs.toArray.size) undef, defers := [] } w := by
  refine ⟨fun _ => U, ?_, fun _ => none, ?_, Marks.nil, ?_⟩
  ·simp; omega
  ·refine ⟨BelowX.refl _ w, hM, ?_, ?_, ?_, ?_, (fun id x h => by rw [show E.mked.bow = [] from hbw] at h; cases h), ⟨(fun b h => absurd h (qal hbw)), Nat.le_trans (Nat.le_of_eq hnb) (Nat.zero_le _)⟩, ?_⟩
   ·intro g vs hg;have := hgl g vs hg
    have hiff : ∀ b, qz M (fun _ => none) b → M b := by rintro b (h | ⟨_, _, h, _⟩); exact h; cases h
    exact ⟨⟨fun h => this.1.1 (hiff _ h), this.1.2⟩, this.2.mono (fun _ _ _ => U) (fun b _ h => hiff b h) this.1.1⟩
   ·intro _ _ h; cases h
   ·intro _ _ h; cases h
   ·intro _ _ _ _ h; cases h
   ·intro _ _ h; cases h
  ·intro i;have hv' : FitsT w (qz M (fun _ => none)) args vs := hv.mono (fun _ _ _ => rfl) (by rintro b _ (h | ⟨_, _, h, _⟩); exact h; cases h);have := qcn (ρ := fun _ => none) (fn.ntmps - vs.length) hv' i;show TRel _ _ _ (qdf args i) _;rw [Array.getD_eq_getD_getElem?];rw [show (vs.toArray ++ Array.replicate (fn.ntmps - vs.toArray.size) undef) = (vs ++ List.replicate (fn.ntmps - vs.length) undef).toArray by simp];rw [List.getElem?_toArray];exact this
 have hw := h w M _ w ha;rw [hF] at hw;refine wpIn_mono hw ?_;rintro e a' w' ⟨s', ha', hq⟩
 have fin : ResOk E.mked fn s' r → LeavesInM Fence.wide 0 E.P fn a'.tmps (fun e w'' => ∃ v, e = .returned v ∧ Grow w w'' ∧ r.p w'' M v) a'.defers .returning w' := by
  intro hq;obtain ⟨ρ, hm, hmk, ht⟩ := ha'.ex;obtain ⟨v, h1, h2, h3⟩ := hq.run ρ w' a'.tmps hm ht;have hg : Grow w w' := hm.below.grow (fun _ => ww hbw)
  exact qim hin a'.defers w' hmk.1 (fun d hd => by
   obtain ⟨D, q1, q2, q3⟩ := hmk.2 d hd
   exact ⟨D, q1, q2, q3.2⟩) hg h3 (r.mono h2 (fun _ _ _ => U) (fun _ _ h => .inl h))
 cases e with
 | ret => exact fin hq
 | normal => exact fin hq
 | _ => exact hq.elim
end
section
variable {E : Env} {w0 : World} {M0 : Nat → Prop}
def q79 {γ : Type} (E : Env) (w0 : World) (M0 : Nat → Prop) (Q : Exit → ASt → Prop) (n : Nat) (t : Nat → TV) (m : γ → Mem) (K : γ → Prop) (m0 : Mem) : Exit → ASt → Prop
 | .normal, s => ∃ g, K g ∧ MemL s (m g)
 | .ret, s => ∃ mx, AWp E w0 M0 .ret Q ⟨n, t, mx⟩ ∧ qbo m0 mx ∧ qxz mx = true ∧ MemL s mx
 | .exit id, s => ∃ mx, AWp E w0 M0 (.exit id) Q ⟨n, t, mx⟩ ∧ qbo m0 mx ∧ qxz mx = true ∧ MemL s mx
 | _, _ => False
end
section
variable {E : Env}
end
section
structure NY where
 n : Nat → Prop
 y : Nat → Prop
def NY.no : NY := ⟨fun _ => False, fun _ => False⟩
def SeqN (E : Env) (g : FuncId) (caps : List G) {α : Type} (enc : α → Value) (xs : List α) : Prop :=
 ∀ (w : World) (M : Nat → Prop) (cs : List Value) (l : Nat) (J : NY → List α → Bool → World → Prop), (∀ b, M b → b < w.heap.size) → GlOk E w M → FitsT w M caps cs →
  (∀ N pre st W W', J N pre st W → (∀ b, N.y b → ¬ N.n b) → BelowX N.n W W' → J N pre st W') → (∀ N N' pre st W, J N pre st W → (∀ b, N' b → N.n b ∨ W.heap.size ≤ b) → J ⟨N', N.y⟩ pre st W) →
  (∀ N pre x post W1, xs = pre ++ x :: post → BelowX M w W1 → (∀ b, N.n b → w.heap.size ≤ b ∧ b < W1.heap.size) → (∀ b, N.y b → (w.heap.size ≤ b ∧ b < W1.heap.size) ∧ ¬ N.n b) → J N pre false W1 → YieldAt Fence.wide 0 E.P l #[enc x] W1 fun e W' =>
   BelowX (fun b => M b ∨ N.y b) W1 W' ∧ ∃ b, e = .returned (.bool b) ∧ ∃ Y, (∀ b, Y b → (N.y b ∨ W1.heap.size ≤ b) ∧ b < W'.heap.size) ∧ J ⟨N.n, Y⟩ (pre ++ [x]) (!b) W') →
  J NY.no [] false w → CallsIn Fence.wide 0 E.P g (#[.func (.yield l) #[] #[]] ++ cs.toArray) w fun e W' => (∃ v, e = .returned v) ∧ ∃ Y, (∀ b, Y b → w.heap.size ≤ b ∧ b < W'.heap.size) ∧ (J ⟨fun _ => False, Y⟩ xs false W' ∨ ∃ pre, J ⟨fun _ => False, Y⟩ pre true W')
theorem BelowX.none {L : Nat → Prop} {a b : World} (h : Grow a b) : BelowX L a b := BelowX.of_grow h
structure ItC (P : Program) {α : Type} (l : Nat) (enc : α → Value) (xs : List α) where
 w : World
 lo : Nat
 M : Nat → Prop
 J : NY → List α → Bool → World → Prop
 N0 : NY
 hM : ∀ b, M b → b < lo
 hlo : lo ≤ w.heap.size
 turn : ∀ N pre st W W', J N pre st W → (∀ b, N.y b → ¬ N.n b) → BelowX N.n W W' → J N pre st W'
 take : ∀ N N' pre st W, J N pre st W → (∀ b, N' b → N.n b ∨ W.heap.size ≤ b) → J ⟨N', N.y⟩ pre st W
 yield : ∀ N pre x post W1, xs = pre ++ x :: post → BelowX (fun b => M b ∨ N0.y b) w W1 → (∀ b, N.n b → lo ≤ b ∧ b < W1.heap.size) → (∀ b, N.y b → (lo ≤ b ∧ b < W1.heap.size) ∧ ¬ N.n b) → J N pre false W1 → YieldAt Fence.wide 0 P l #[enc x] W1 fun e W' =>
   BelowX (fun b => M b ∨ N.y b) W1 W' ∧ ∃ b, e = .returned (.bool b) ∧ ∃ Y, (∀ b, Y b → (N.y b ∨ W1.heap.size ≤ b) ∧ b < W'.heap.size) ∧ J ⟨N.n, Y⟩ (pre ++ [x]) (!b) W'
theorem BelowX.thru {M Y Y' : Nat → Prop} {a b c : World} (h : BelowX (fun k => M k ∨ Y k) a b) (hY : ∀ k, Y' k → Y k ∨ a.heap.size ≤ k) (k : BelowX (fun k => M k ∨ Y' k) b c) : BelowX (fun k => M k ∨ Y k) a c :=
 ⟨k.os.trans h.os, k.tape.trans h.tape, k.output.trans h.output, Nat.le_trans h.size k.size, fun i hi hl => (k.block i (Nat.lt_of_lt_of_le hi h.size) (fun hx => hx.elim (fun hx => hl (.inl hx)) fun hx => (hY i hx).elim (fun hx => hl (.inr hx)) fun hx => by omega)).trans (h.block i hi hl)⟩
def ItC.at {P : Program} {α : Type} {l : Nat} {enc : α → Value} {xs : List α} (C : ItC P l enc xs) (w' : World) (h : BelowX (fun b => C.M b ∨ C.N0.y b) C.w w') (N0 : NY) (hY : ∀ b, N0.y b → C.N0.y b ∨ C.w.heap.size ≤ b) : ItC P l enc xs :=
 ⟨w', C.lo, C.M, C.J, N0, C.hM, Nat.le_trans C.hlo h.size, C.turn, C.take, fun N pre x post W1 hx hB hN hJ => C.yield N pre x post W1 hx (h.thru hY hB) hN hJ⟩
def qx0 (N : Nat → Prop) (ds : List Deferred) (W : World) : Prop := ds.Nodup ∧ ∀ d ∈ ds, ∃ D, d = { target := .collected D, args := #[] } ∧ N D ∧ W.heap[D]? = some (.deferred (some []))
variable {α : Type} {E : Env} {l : Nat} {enc : α → Value} {xs : List α}
def IRel (E : Env) {l : Nat} {enc : α → Value} {xs : List α} (C : ItC E.P l enc xs) (s : ASt) (p : List α × Bool) (a : Act) (W : World) : Prop :=
 ∃ N W1, C.J N p.1 p.2 W1 ∧ (∀ b, N.n b → C.lo ≤ b ∧ b < W1.heap.size) ∧ BelowX (fun b => C.M b ∨ C.N0.y b) C.w W1 ∧ qx0 N.n a.defers W1 ∧ ARel E W1 (fun b => (C.M b ∨ N.n b) ∨ N.y b) s ⟨a.tmps, []⟩ W ∧ (∀ b, C.N0.n b → N.n b) ∧ ∀ b, N.y b → ((C.lo ≤ b ∧ b < W1.heap.size) ∧ ¬ N.n b) ∧ (C.N0.y b ∨ C.w.heap.size ≤ b)
def IWp (E : Env) {l : Nat} {enc : α → Value} {xs : List α} (C : ItC E.P l enc xs) (c : Code) (Q : Exit → ASt → List α × Bool → Prop) (s : ASt) (p : List α × Bool) : Prop :=
 ∀ a W, IRel E C s p a W → c.wpIn E.F 0 E.P (fun e a' W' => ∃ s' p', IRel E C s' p' a' W' ∧ Q e s' p') a W
def q8a (K : ASt → List α × Bool → Prop) (Q : Exit → ASt → List α × Bool → Prop) : Exit → ASt → List α × Bool → Prop
 | .normal, s, p => K s p
 | e, s, p => Q e s p
def q2k (id : Nat) (Q : Exit → ASt → List α × Bool → Prop) : Exit → ASt → List α × Bool → Prop
 | .exit id', s, p => if id' = id then Q .normal s p else Q (.exit id') s p
 | e, s, p => Q e s p
variable {C : ItC E.P l enc xs} {Q : Exit → ASt → List α × Bool → Prop} {s : ASt} {p : List α × Bool}
theorem vm {x y : Code} (h : IWp E C x (q8a (IWp E C y Q) Q) s p) : IWp E C (.seq x y) Q s p :=
 fun a w ha => wpIn_seq (wpIn_mono (h a w ha) fun e a' w' ⟨s', p', h1, h2⟩ => by
  cases e <;> first | exact h2 a' w' h1 | exact ⟨s', p', h1, h2⟩)
theorem qdi (h : Q .normal s p) : IWp E C .skip Q s p := fun _ _ ha => wpIn_skip ⟨s, p, ha, h⟩
theorem qsj (h : Q .ret s p) : IWp E C .ret Q s p := fun _ _ ha => wpIn_ret ⟨s, p, ha, h⟩
theorem qkw {id : Nat} (h : Q (.exit id) s p) : IWp E C (.exit id) Q s p := fun _ _ ha => wpIn_exit ⟨s, p, ha, h⟩
theorem qbf {id : Nat} {c : Code} (h : IWp E C c (q2k id Q) s p) : IWp E C (.block id c) Q s p :=
 fun a w ha => wpIn_block (wpIn_mono (h a w ha) fun e a' w' ⟨s', p', h1, h2⟩ => by
  cases e with
  | exit id' =>
   unfold q2k at h2;unfold Exit.inBlock;dsimp only at h2 ⊢
   split
   ·rename_i he; rw [if_pos he] at h2; exact ⟨s', p', h1, h2⟩
   ·rename_i he; rw [if_neg he] at h2; exact ⟨s', p', h1, h2⟩
  | _ => exact ⟨s', p', h1, h2⟩)
theorem qdh {c : Operand} {x y : Code} (b : Bool) (hb : s.eval E c = .g (.lit (.bool b))) (ht : b = true → IWp E C x Q s p) (hf : b = false → IWp E C y Q s p) : IWp E C (.cond c x y) Q s p := by
 intro a w ha;obtain ⟨N, W1, h1, h2, h3, h4, h5, h6⟩ := id ha;obtain ⟨ρ, _, hx⟩ := h5.rel;have hc := hx c;rw [hb] at hc;have hc' : a.eval c = .bool b := hc
 cases b with
 | true => exact wpIn_cond_true hc' (ht rfl a w ha)
 | false => exact wpIn_cond_false hc' (hf rfl a w ha)
theorem IRel.weak {l1 : List (Nat × TV)} {m : Mem} {a : Act} {w : World} (h1 : qir s l1) (h2 : MemL s m) (h3 : wa l1 m = true) (hbw : E.bow = []) (h : IRel E C s p a w) : IRel E C (stt s.n l1 m) p a w := by
 obtain ⟨N, W1, k1, k2, k3, k4, k5, k6⟩ := h;exact ⟨N, W1, k1, k2, k3, k4, k5.weak h1 h2 h3 (by unfold qkc; rw [hbw]; rfl), k6⟩
theorem q48 {c : Code} {l1 : List (Nat × TV)} {m : Mem} (h1 : qir s l1) (h2 : MemL s m) (h3 : wa l1 m = true) (h : IWp E C c Q (stt s.n l1 m) p) (hbw : E.bow = [] := by rfl) : IWp E C c Q s p :=
 fun a w ha => h a w (ha.weak h1 h2 h3 hbw)
def q8b {γ : Type} (S : γ → List (Nat × TV)) (Pp : γ → List α × Bool) (P : γ → Prop) (n : Nat) (ok : γ → Prop) (s : ASt) (p : List α × Bool) : Prop := s.n = n ∧ ∃ g, qir s (S g) ∧ wa (S g) [] = true ∧ p = Pp g ∧ P g ∧ ok g
theorem qgr {γ : Type} {c : Code} (S : γ → List (Nat × TV)) (Pp : γ → List α × Bool) (P : γ → Prop) (μ : γ → Nat) (h0 : q8b S Pp P s.n (fun _ => True) s p)
  (round : ∀ g, P g → IWp E C c (q8a (q8b S Pp P s.n (fun g' => μ g' < μ g)) Q) (stt s.n (S g) []) (Pp g)) (hbw : E.bow = [] := by rfl) : IWp E C (.loop c) Q s p := by
 intro a w ha;obtain ⟨_, g0, h1, h3, rfl, h4, _⟩ := h0;have ha' := ha.weak h1 (m := []) trivial h3 hbw;refine wpIn_loop_ghost (fun n a w => ∃ g, μ g = n ∧ P g ∧ IRel E C (stt s.n (S g) []) (Pp g) a w) (μ g0) ⟨g0, U, h4, ha'⟩ ?_;rintro n a w ⟨g, rfl, hP, hg⟩;refine wpIn_mono (round g hP a w hg) ?_;rintro e a' w' ⟨s', p', hs', hq⟩
 cases e with
 | normal =>
  obtain ⟨k0, g', k1, k3, rfl, k4, k5⟩ := hq;refine ⟨μ g', k5, g', U, k4, ?_⟩;have := hs'.weak k1 (m := []) trivial k3 hbw;rw [k0] at this;exact this
 | _ => exact ⟨s', p', hs', hq⟩
theorem quk {F : Fence} {n : Nat} {P : Program} {o : Oper} {a : Act} {w : World} {K : Act → World → Prop} {Q' : Exit → Act → World → Prop}
  (h : o.wpIn F n P ⟨a.tmps, []⟩ w (fun a' w' => a'.defers = [] ∧ K ⟨a'.tmps, a.defers⟩ w') (fun _ _ _ => False)) : o.wpIn F n P a w K Q' := by
 obtain ⟨h1, h2⟩ := h;refine ⟨h1, ?_⟩;have h2 : o.uponIn F n P ⟨a.tmps, []⟩ (fun a' w' => a'.defers = [] ∧ K ⟨a'.tmps, a.defers⟩ w') (fun _ _ _ => False) ((o.semAt F.round a.eval).run P w) := h2
 have hput : ∀ v, (⟨((⟨a.tmps, []⟩ : Act).put o.dst v).tmps, a.defers⟩ : Act) = a.put o.dst v := fun v => by cases o.dst <;> rfl
 have hp : ∀ v w', (fun (a' : Act) (w' : World) => a'.defers = [] ∧ K ⟨a'.tmps, a.defers⟩ w') ((⟨a.tmps, []⟩ : Act).put o.dst v) w' → K (a.put o.dst v) w' := fun v w' h => by
  have := h.2;rw [hput] at this;exact this
 generalize (o.semAt F.round a.eval).run P w = res at *
 cases res with
 | halt x w' =>
  cases x <;> exact h2.elim
 | ok n w' =>
  cases n with
  | value v => exact hp _ _ h2
  | skip => exact hp _ _ h2
  | defer d =>
   have := h2.1
   exfalso
   cases hd : o.dst <;> simp [Act.put, hd] at this
  | enter f args =>
   obtain ⟨h3, h4⟩ := h2;refine ⟨h3, h4.mono ?_⟩;intro e w'' h
   cases e with
   | returned v => exact hp _ _ h
   | panicked c => exact h.elim
   | outgrown => obtain ⟨_, _, h⟩ := h; exact h.elim
  | row r args =>
   obtain ⟨h3, h4⟩ := h2;exact ⟨h3, RowsIn.mono h4 (fun v w'' h => hp _ _ h)⟩
  | round l' f tmps assign body =>
   obtain ⟨h3, h4⟩ := h2;refine ⟨h3, h4.mono ?_⟩;intro e w'' h
   cases e with
   | returned v => exact hp _ _ h
   | panicked c => exact h.elim
   | outgrown => obtain ⟨_, _, h⟩ := h; exact h.elim
  | _ => exact h2.elim
theorem IRel.step {ops : Array Oper} {o : Oper} {c : Cls} {s' : ASt} (h : AStep E ops o c s s') (hmk : E.mks = false) {a : Act} {w : World} (ha : IRel E C s p a w) {K : Act → World → Prop} {Q' : Exit → Act → World → Prop}
  (hK : ∀ a' w', IRel E C s' p a' w' → K a' w') :
  if Region.wanted o (yielded ops a.tmps) then o.wpIn E.F 0 E.P a w K Q' else (∀ f, o.about E.P w a.eval = some f → E.F.fn f) ∧ K (a.put o.dst undef) w := by
 obtain ⟨N, W1, k1, k2, k3, k4, k5, k6⟩ := ha
 have hs := h.sound (w0 := W1) (M0 := fun b => (C.M b ∨ N.n b) ∨ N.y b) k5 (K := fun a' w' => a'.defers = [] ∧ K ⟨a'.tmps, a.defers⟩ w') (Q := fun _ _ _ => False) (fun a' w' h' => by
  have hd := h'.defers hmk;refine ⟨hd, hK _ _ ⟨N, W1, k1, k2, k3, k4, ?_, k6⟩⟩;obtain ⟨t, d⟩ := a';simp only at hd;subst hd
  exact h')
 have hput : ∀ v, (⟨((⟨a.tmps, []⟩ : Act).put o.dst v).tmps, a.defers⟩ : Act) = a.put o.dst v := fun v => by cases o.dst <;> rfl
 have hs : if Region.wanted o (yielded ops a.tmps) then o.wpIn E.F 0 E.P ⟨a.tmps, []⟩ w (fun a' w' => a'.defers = [] ∧ K ⟨a'.tmps, a.defers⟩ w') (fun _ _ _ => False) else (∀ f, o.about E.P w a.eval = some f → E.F.fn f) ∧
  (fun (a' : Act) (w' : World) => a'.defers = [] ∧ K ⟨a'.tmps, a.defers⟩ w') ((⟨a.tmps, []⟩ : Act).put o.dst undef) w := hs
 split
 ·rename_i hw
  rw [if_pos hw] at hs;exact quk hs
 ·rename_i hw
  rw [if_neg hw] at hs;have := hs.2.2;rw [hput] at this;exact ⟨hs.1, this⟩
theorem qrm {E : Env} {f : FuncId} {tmps : Array Value} {assign body : Code} {w : World} {R : Ending → World → Prop} {l : Nat} (h : RoundIn Fence.wide 0 E.P l f tmps assign body w R) : RoundIn E.F 0 E.P l f tmps assign body w R := by
 obtain ⟨P, gl, ord, bow, rnd, mk⟩ := E
 cases rnd with
 | none => exact h
 | some l => exact h
theorem IRel.yield {o : Oper} {f arg : Operand} {ts : Array TypeId} {x : α} {post : List α} (hd : ∀ d, o.dst = some d → d < s.n) (ho : o.op = .call ⟨.value f, #[arg], ts⟩) (hp : p.2 = false) (hm0 : s.mem = [])
  (hf : s.eval E f = .g (G.lit (.func (.yield l) #[] #[]))) (harg : ∀ w M ρ v, TRel w M ρ (s.eval E arg) v → v = enc x) (hx : xs = p.1 ++ x :: post) (hbw : E.bow = []) {a : Act} {W : World} (ha : IRel E C s p a W)
  {K : Act → World → Prop} {Q' : Exit → Act → World → Prop} (hK : ∀ b a' W', IRel E C (s.put o.dst (.g (G.bool b))) (p.1 ++ [x], !b) a' W' → K a' W') : o.wpIn E.F 0 E.P a W K Q' := by
 obtain ⟨N, W1, k1, k2, k3, k4, k5, k6⟩ := ha;obtain ⟨ρ, hm, _, ht⟩ := k5.ex;have hg : Grow W1 W := hm.below.grow (fun _ => ww hbw);have hev := fun y => qjl hm ht y
 have e1 : a.eval f = .func (.yield l) #[] #[] := by
  have := hev f;rw [hf] at this;exact this
 have e2 : a.eval arg = enc x := harg _ _ _ _ (hev arg);have hB : BelowX (fun b => C.M b ∨ C.N0.y b) C.w W := k3.trans (BelowX.of_grow hg)
 have hJ : C.J N p.1 false W := by
  rw [← hp];exact C.turn _ _ _ _ _ k1 (fun b hb => (k6.2 b hb).1.2) (BelowX.of_grow hg)
 obtain ⟨fn, tmps, assign, body, y1, y2⟩ := C.yield N p.1 x post W hx hB (fun b hb => ⟨(k2 b hb).1, Nat.lt_of_lt_of_le (k2 b hb).2 hg.size⟩) (fun b hb => ⟨⟨(k6.2 b hb).1.1.1, Nat.lt_of_lt_of_le (k6.2 b hb).1.1.2 hg.size⟩, (k6.2 b hb).1.2⟩) hJ;refine ⟨fun _ _ => O, ?_⟩
 have hsem : o.semAt E.F.round a.eval = execOp a.eval o := by
  cases E.F.round with
  | none => rfl
  | some l' => exact Oper.semAt_some _ _ _ fun c hc => by rw [ho] at hc; cases hc
 have hrun : (execOp a.eval o).run E.P W = .ok (.round l fn tmps assign body) W := by
  simp [execOp, ho, resolve, e1, e2, Deferred.ofValue, invoke, y1]
 rw [hsem, hrun];refine ⟨qjo, (qrm y2).mono ?_⟩;rintro e W' ⟨hB', b, rfl, Y, hY, hJ'⟩;refine hK b _ _ ⟨⟨N.n, Y⟩, W', hJ', fun b hb => ⟨(k2 b hb).1, Nat.lt_of_lt_of_le (k2 b hb).2 (Nat.le_trans hg.size hB'.size)⟩, hB.thru (fun b hb => (k6.2 b hb).2) hB', ?_, ?_, k6.1, fun b hb => ?_⟩
 ·rw [qer];refine ⟨k4.1, fun d hd => ?_⟩;obtain ⟨D, q1, q2, q3⟩ := k4.2 d hd;have hlt := (k2 D q2).2;exact ⟨D, q1, q2, (hB'.block D (Nat.lt_of_lt_of_le hlt hg.size) (fun h => h.elim (fun h => by have := C.hM D h; have := (k2 D q2).1; omega) (fun h => (k6.2 D h).1.2 q2))).trans ((hg.block D hlt).trans q3)⟩
 ·have hρ : ρ = fun _ => none := by
   funext id
   cases hq : ρ id with
   | none => rfl
   | some x =>
    obtain ⟨blk, hb⟩ := hm.dom id x hq;rw [hm0] at hb
    cases hb
  subst hρ;have hh : ∀ b, b < W.heap.size → ¬ qz (fun b => (C.M b ∨ N.n b) ∨ N.y b) (fun _ => none) b → W'.heap[b]? = W.heap[b]? := fun b hb hno => hB'.block b hb fun h => hno (.inl (h.elim (fun h => .inl (.inl h)) .inr))
  have hM' : ∀ b, b < W.heap.size → qz (fun b => (C.M b ∨ N.n b) ∨ Y b) (fun _ => none) b → qz (fun b => (C.M b ∨ N.n b) ∨ N.y b) (fun _ => none) b := by
   rintro b hb ((h | h) | ⟨_, _, h, _⟩)
   ·exact .inl (.inl h)
   ·exact .inl (.inr ((hY b h).1.resolve_right (by omega)))
   ·cases h
  have hgl' : GlOk E W' (qz (fun b => (C.M b ∨ N.n b) ∨ Y b) (fun _ => none)) := fun g vs hgv => by
   have h1 := hm.glob g vs hgv;exact ⟨⟨fun h => h1.1.1 (hM' g h1.1.2 h), Nat.lt_of_lt_of_le h1.1.2 hB'.size⟩, h1.2.mono hh hM' h1.1.1⟩
  refine ⟨fun _ => U, by rw [qjn]; cases o.dst <;> exact k5.size, fun _ => none, ⟨BelowX.refl _ W', fun b hb => hb.elim (fun hb => hb.elim (fun hb => Nat.lt_of_lt_of_le (C.hM b hb) (Nat.le_trans C.hlo (Nat.le_trans hB.size hB'.size))) (fun hb => Nat.lt_of_lt_of_le (k2 b hb).2 (Nat.le_trans hg.size hB'.size))) (fun hb => (hY b hb).2), hgl', (fun _ _ h => by cases h), (fun _ _ h => by cases h), (fun _ _ _ _ h => by cases h), ?_, ?_, ?_⟩, Marks.nil, fun i => ?_⟩
  ·intro id x h; rw [hbw] at h; cases h
  ·exact ⟨fun b h => absurd h (qal hbw), by have h1 := hm.lentM.2; have h2 := hm.below.size; have h3 := hB'.size; omega⟩
  ·intro id blk hb;have hb : qq (s.put o.dst (.g (G.bool b))).mem id = some blk := hb;have : (s.put o.dst (.g (G.bool b))).mem = s.mem := rfl;rw [this, hm0] at hb
   cases hb
  ·show TRel _ _ _ ((s.put o.dst (.g (G.bool b))).get i) ((a.put o.dst (.bool b)).tmps.getD i undef);rw [quy, qjm _ _ _ (fun d h => by have := hd d h; rw [← k5.size] at this; exact this)]
   split
   ·exact U
   ·exact (ht i).mono none (by cases s.get i <;> rfl) hh hM' (fun _ _ _ => U)
 ·rcases (hY b hb).1 with h | h
  ·exact ⟨⟨⟨(k6.2 b h).1.1.1, (hY b hb).2⟩, (k6.2 b h).1.2⟩, (k6.2 b h).2⟩
  ·have h1 := hB.size;have h2 := C.hlo;refine ⟨⟨⟨by omega, (hY b hb).2⟩, fun hn => ?_⟩, .inr (by omega)⟩;have := (k2 b hn).2;have := hg.size
   omega
def IStep (E : Env) (l : Nat) (enc : α → Value) (xs : List α) (ops : Array Oper) (o : Oper) (K : ASt → List α × Bool → Prop) (s : ASt) (p : List α × Bool) : Option Cls → Prop
 | some c => ∃ s', AStep E ops o c s s' ∧ K s' p
 | none => (∀ d, o.dst = some d → d < s.n) ∧ ∃ gb, kw ops o s gb ∧ (gb = false → K (s.put o.dst wt) p) ∧ (gb = true → p.2 = false ∧ s.mem = [] ∧ ∃ f arg ts x post, o.op = .call ⟨.value f, #[arg], ts⟩ ∧ s.eval E f = .g (G.lit (.func (.yield l) #[] #[])) ∧
   (∀ w M ρ v, TRel w M ρ (s.eval E arg) v → v = enc x) ∧ xs = p.1 ++ x :: post ∧ ∀ b, K (s.put o.dst (.g (G.bool b))) (p.1 ++ [x], !b))
theorem IStep.sound {ops : Array Oper} {o : Oper} {c : Option Cls} {K' : ASt → List α × Bool → Prop} (h : IStep E l enc xs ops o K' s p c) (hmk : E.mks = false) (hbw : E.bow = []) {a : Act} {w : World} (ha : IRel E C s p a w) {K : Act → World → Prop} {Q' : Exit → Act → World → Prop}
  (hK : ∀ s' p' a' w', K' s' p' → IRel E C s' p' a' w' → K a' w') :
  if Region.wanted o (yielded ops a.tmps) then o.wpIn E.F 0 E.P a w K Q' else (∀ f, o.about E.P w a.eval = some f → E.F.fn f) ∧ K (a.put o.dst undef) w := by
 cases c with
 | some c =>
  obtain ⟨s', h1, h2⟩ := h;exact IRel.step h1 hmk ha fun a' w' h' => hK _ _ _ _ h2 h'
 | none =>
  obtain ⟨hd, gb, hw, hf, ht⟩ := h;obtain ⟨N, W1, k1, k2, k3, k4, k5, k6⟩ := id ha;obtain ⟨ρ, hm, _, hts⟩ := k5.ex;have hwt : Region.wanted o (yielded ops a.tmps) = gb := qoz hw hts;rw [hwt]
  cases gb with
  | false =>
   simp only [Bool.false_eq_true, if_false];refine ⟨fun _ _ => O, hK _ _ _ _ (hf U) ⟨N, W1, k1, k2, k3, by rw [qer]; exact k4, ?_, k6⟩⟩;have := ARel.put (r := wt) (v := undef) (kill := none) (mem' := s.mem) (dst := o.dst) k5.defers k5.size Marks.nil hts hd hm (fun _ _ _ h => h) rfl
   have e : (⟨(a.put o.dst undef).tmps, []⟩ : Act) = (⟨a.tmps, []⟩ : Act).put o.dst undef := by cases o.dst <;> rfl
   rw [e];exact this
  | true =>
   simp only [if_true];obtain ⟨hp, hm0, f, arg, ts, x, post, ho, e1, e2, hx, hk⟩ := ht rfl;exact IRel.yield hd ho hp hm0 e1 e2 hx hbw ha fun b a' W' h' => hK _ _ _ _ (hk b) h'
def IOps (E : Env) (l : Nat) (enc : α → Value) (xs : List α) (ops : Array Oper) (K : ASt → List α × Bool → Prop) : List Oper → List (Option Cls) → ASt → List α × Bool → Prop
 | [], [], s, p => K s p
 | o :: os, c :: cs, s, p => IStep E l enc xs ops o (IOps E l enc xs ops K os cs) s p c
 | _, _, _, _ => False
theorem qmw {ops : Array Oper} (hmk : E.mks = false) (hbw : E.bow = []) : ∀ (lo : List Oper) (cs : List (Option Cls)) (s : ASt) (p : List α × Bool), IOps E l enc xs ops (Q .normal) lo cs s p → ∀ a w, IRel E C s p a w →
  wpListIn E.F 0 E.P ops (fun e a' w' => ∃ s' p', IRel E C s' p' a' w' ∧ Q e s' p') lo a w
 | [], [], s, p, h, a, w, ha => ⟨s, p, ha, h⟩
 | o :: os, c :: cs, s, p, h, a, w, ha => IStep.sound h hmk hbw ha fun s' p' a' w' h1 ha' => qmw hmk hbw os cs s' p' h1 a' w' ha'
 | [], _ :: _, _, _, h, _, _, _ => h.elim
 | _ :: _, [], _, _, h, _, _, _ => h.elim
theorem qle {ops : Array Oper} (hmk : E.mks = false) : ∀ (lo : List Oper) (cs : List Cls) (s : ASt), AOps E ops lo cs s (fun s' => Q .normal s' p) → ∀ a w, IRel E C s p a w →
  wpListIn E.F 0 E.P ops (fun e a' w' => ∃ s' p', IRel E C s' p' a' w' ∧ Q e s' p') lo a w
 | [], [], s, h, a, w, ha => ⟨s, p, ha, h⟩
 | o :: os, c :: cs, s, h, a, w, ha => by
  obtain ⟨s', h1, h2⟩ := h;exact IRel.step h1 hmk ha fun a' w' ha' => qle hmk os cs s' h2 a' w' ha'
 | [], _ :: _, _, h, _, _, _ => h.elim
 | _ :: _, [], _, h, _, _, _ => h.elim
theorem jr {id : Nat} {ops : Array Oper} (cs : List Cls) (h : AOps E ops ops.toList cs s (fun s' => Q .normal s' p)) (hmk : E.mks = false := by rfl) : IWp E C (.region id ops false) Q s p :=
 fun a w ha => wpIn_region_list (qle hmk _ cs s h a w ha)
theorem qmx {id : Nat} {ops : Array Oper} (cs : List (Option Cls)) (h : IOps E l enc xs ops (Q .normal) ops.toList cs s p) (hmk : E.mks = false := by rfl) (hbw : E.bow = [] := by rfl) : IWp E C (.region id ops false) Q s p :=
 fun a w ha => wpIn_region_list (qmw hmk hbw _ cs s p h a w ha)
theorem ist {ops : Array Oper} {K : ASt → List α × Bool → Prop} {o : Oper} {os : List Oper} {c : Cls} {cs : List (Option Cls)} (h : AOps E ops [o] [c] s (fun s' => IOps E l enc xs ops K os cs s' p)) : IOps E l enc xs ops K (o :: os) (some c :: cs) s p := by
 obtain ⟨s', h1, h2⟩ := h;exact ⟨s', h1, h2⟩
theorem qob {ops : Array Oper} {K : ASt → List α × Bool → Prop} (h : K s p) : IOps E l enc xs ops K [] [] s p := h
theorem iy {ops : Array Oper} {K : ASt → List α × Bool → Prop} {o : Oper} {os : List Oper} {cs : List (Option Cls)} {d : Nat} {f arg : Operand} {ts : Array TypeId} {pre post : List α} (x : α) (hd : o.dst = some d) (hg : o.guard = none) (hn : Nat.blt d s.n = true)
  (ho : o.op = .call ⟨.value f, #[arg], ts⟩) (hm : s.mem = []) (hf : s.eval E f = .g (G.lit (.func (.yield l) #[] #[]))) (ha : ∀ w M ρ v, TRel w M ρ (s.eval E arg) v → v = enc x) (hx : xs = pre ++ x :: post)
  (h : ∀ b, IOps E l enc xs ops K os cs (s.put (some d) (.g (G.bool b))) (pre ++ [x], !b)) : IOps E l enc xs ops K (o :: os) (none :: cs) s (pre, false) :=
 ⟨fun d' h => by rw [hd] at h; cases h; exact Nat.le_of_ble_eq_true hn, true, (by unfold kw; rw [hg]), (fun h => by cases h), fun _ => ⟨rfl, hm, f, arg, ts, x, post, ho, hf, ha, hx, fun b => by rw [hd]; exact h b⟩⟩
theorem iy_g {ops : Array Oper} {K : ASt → List α × Bool → Prop} {o : Oper} {os : List Oper} {cs : List (Option Cls)} {d j e : Nat} {want : Bool} (gb : Bool) {f arg : Operand} {ts : Array TypeId} {pre : List α} (hd : o.dst = some d) (hg : o.guard = some (j, want)) (hj : (ops[j]?).bind (·.dst) = some e) (hb : GB (s.get e) want gb) (hn : Nat.blt d s.n = true)
  (ho : o.op = .call ⟨.value f, #[arg], ts⟩) (h0 : gb = false → IOps E l enc xs ops K os cs (s.put (some d) wt) (pre, false))
  (h1 : gb = true → s.mem = [] ∧ s.eval E f = .g (G.lit (.func (.yield l) #[] #[])) ∧ ∃ x post, (∀ w M ρ v, TRel w M ρ (s.eval E arg) v → v = enc x) ∧ xs = pre ++ x :: post ∧
   ∀ b, IOps E l enc xs ops K os cs (s.put (some d) (.g (G.bool b))) (pre ++ [x], !b)) : IOps E l enc xs ops K (o :: os) (none :: cs) s (pre, false) :=
 ⟨fun d' h => by rw [hd] at h; cases h; exact Nat.le_of_ble_eq_true hn, gb, (by unfold kw; rw [hg]; exact ⟨e, hj, hb⟩), (fun h => by rw [hd]; exact h0 h), fun h => by
  obtain ⟨hm, hf, x, post, ha, hx, hk⟩ := h1 h
  exact ⟨U, hm, f, arg, ts, x, post, ho, hf, ha, hx, fun b => by rw [hd]; exact hk b⟩⟩
end
section
variable {E : Env} {w0 : World} {M0 : Nat → Prop}
theorem ARel.freeze {s : ASt} {a : Act} {w : World} (id : Nat) {blk : Blk} {l : List (Nat × TV)} {m : Mem} (hb : qq s.mem id = some blk) (h1 : FrzL s id blk l) (h2 : MemL s m) (h3 : wa l m = true) (hid : qq m id = none)
  (hbw : qkc E m = true) (hst : wn E = true) (ha : ARel E w0 M0 s a w) : ARel E w0 M0 (stt s.n l m) a w := by
 obtain ⟨ρ, hm, hmk, ht⟩ := ha.ex
 let ρ' : Rho := fun id => if (qq m id).isSome = true then ρ id else none
 have hρ : ∀ id, (qq m id).isSome = true → ρ' id = ρ id := fun id hi => by simp only [ρ', if_pos hi]
 have hρ' : ∀ id x, ρ' id = some x → ρ id = some x ∧ (qq m id).isSome = true := by
  intro id x hx;simp only [ρ'] at hx
  split at hx
  ·rename_i hi; exact ⟨hx, hi⟩
  ·cases hx
 have hM : ∀ b, qz M0 ρ' b → qz M0 ρ b := by
  rintro b (hb | ⟨id, o, ho, rfl⟩)
  ·exact .inl hb
  ·exact .inr ⟨id, o, (hρ' id _ ho).1, U⟩
 have hlent : qq E.bow id = none := by
  cases hq : qq E.bow id with
  | none => rfl
  | some x =>
   have := List.all_eq_true.1 hbw (id, x) (ji _ hq);simp only [hid] at this
   cases this
 have hno : ∀ ow, ρ id = some (some ow) → ¬ qz M0 ρ' ow.b := by
  rintro ow ho (hM0 | ⟨i, o, hi, he⟩)
  ·exact qbe hm ho hlent hst (.inl hM0)
  ·have := hm.inj i id o ow (hρ' i _ hi).1 ho he;subst this;have := (hρ' i _ hi).2;rw [hid] at this; cases this
 simp only [wa, Bool.and_eq_true, List.all_eq_true] at h3;refine ⟨ha.defers, ha.size, ρ', ⟨hm.below, hm.m0, ?_, ?_, ?_, ?_, ?_, hm.lentM, ?_⟩, hmk.sub hM, ?_⟩
 ·intro g vs hg;have := hm.glob g vs hg;exact ⟨⟨fun hb => this.1.1 (hM _ hb), this.1.2⟩, this.2.mono (fun _ _ _ => U) (fun b _ => hM b) this.1.1⟩
 ·intro id x hx;have := (hρ' id x hx).2
  cases hl : qq m id with
  | none => rw [hl] at this; cases this
  | some b => exact ⟨b, hl⟩
 ·exact fun id ow ho => hm.fresh id ow (hρ' id _ ho).1
 ·exact fun id id' ow ow' ho ho' => hm.inj id id' ow ow' (hρ' id _ ho).1 (hρ' id' _ ho').1
 ·intro id x hx;rw [hρ id (List.all_eq_true.1 hbw (id, x) (ji _ hx))];exact hm.keep id x hx
 ·intro i blk' hb0;have hb0 : qq m i = some blk' := hb0
  have hi : (qq m i).isSome = true := by rw [hb0]; rfl
  have := hm.blk i blk' (qd9 h2 i blk' hb0)
  cases blk' with
  | box cs =>
   obtain ⟨ow, e, vs, g1, g2, g3, g4⟩ := this;have hcl := h3.2 (i, .box cs) (ji _ hb0);exact ⟨ow, e, vs, by rw [hρ i hi]; exact g1, g2, g3, g4.sub hM hρ (by simpa [qnl] using hcl)⟩
  | arr e k xs =>
   rcases this with ⟨g1, g2⟩ | ⟨ow, vs, g1, g2, g3, g4, g5, g6, g7⟩
   ·exact .inl ⟨by rw [hρ i hi]; exact g1, g2⟩
   ·exact .inr ⟨ow, vs, by rw [hρ i hi]; exact g1, g2, g3, g4, g5, g6, g7.mono (fun _ _ _ => rfl) (fun b _ => hM b)⟩
  | mp es =>
   obtain ⟨ow, en, cl, g1, g2, g3, g4⟩ := this;exact ⟨ow, en, cl, by rw [hρ i hi]; exact g1, g2, g3.mono (fun _ _ _ => rfl) (fun b _ => hM b), g4⟩
  | obj o =>
   obtain ⟨ow, g1, g2, g3⟩ := this;exact ⟨ow, by rw [hρ i hi]; exact g1, g2, g3⟩
  | mit es seen =>
   obtain ⟨ow, g1, g2, g3⟩ := this;exact ⟨ow, by rw [hρ i hi]; exact g1, g2, g3.mono rfl (fun _ _ _ => rfl) (fun b _ => hM b)⟩
  | gone => trivial
 ·intro i;show TRel _ _ _ (xh l i) _
  rcases qn0 h1 i with h4 | ⟨⟨v, h5, h6⟩, h7⟩
  ·rw [h4]; trivial
  ·rcases h7 with ⟨h8, h9⟩ | h8
   ·have := ht i;rw [h8] at this;exact this.sub (m := m) (by rw [h6]; exact h3.1 (i, v) h5) hM hρ
   ·have hv := ht i
    rcases h8 with ⟨k, xs, e, N, rfl, hN, ha1, hb1, hk⟩ | ⟨cs, gs, off, rfl, hu, hne, ha1, hb1⟩ | ⟨es, rfl, ha1, hb1⟩
    ·rw [ha1] at hv;rw [hb1];subst hN;have hview := qjs hm hb hv (Nat.zero_le _) (Nat.le_refl _);obtain ⟨a', cap, e1, g1, g2, g3, g4, g5, g6⟩ := hview;simp only [Nat.sub_zero, List.drop_zero, List.take_length] at e1 g1 g4 g5 g6;refine ⟨a', cap, e1, g1, g2, g5, ?_⟩
     rcases g6 with g6 | ⟨b, o, cur, news, rfl, ⟨ow, k0, rfl⟩, k1, k2, k3⟩
     ·have : xs = [] := List.eq_nil_of_length_eq_zero g6;subst this;exact .inl ⟨U, fun ha => (g3 ha).1⟩
     ·exact .inr ⟨ow.b, o, U, hno ow k0, jx k1 (k2.mono (fun _ _ _ => U) (fun b _ => hM b)) k3⟩
    ·rw [ha1] at hv;rw [hb1];obtain ⟨ow, g1, g2⟩ := hv;obtain ⟨ow', e, vs, g3, g4, g5, g6⟩ := hm.blk id _ hb
     have : ow' = ow := by rw [g1] at g3; simpa using g3.symm
     subst this;refine ⟨ow'.b, ow'.o + off, g2, .inr (hno ow' g1), ?_⟩;have g7 := g6;rw [qhb hu] at g7;have g8 := (qbt g7).mono (w' := w) (M' := qz M0 ρ') (fun _ _ _ => rfl) (fun b _ => hM b);have hcells : Cells w (qz M0 ρ') ow'.b 0 gs := jx g5 g8 (fun j v hj => by simpa using hj);rw [g4];exact hcells.drop off
    ·rw [ha1] at hv;rw [hb1];obtain ⟨ow, g1, g2⟩ := hv;obtain ⟨ow', en, cl, g3, g4, g5, g6⟩ := hm.blk id _ hb
     have : ow' = ow := by rw [g1] at g3; simpa using g3.symm
     subst this;exact ⟨ow'.b, en, cl, g2, hno ow' g1, g4, g5.mono (fun _ _ _ => U) (fun b _ => hM b), g6⟩
end
section
variable {α : Type} {E : Env} {l : Nat} {enc : α → Value} {xs : List α} {C : ItC E.P l enc xs} {Q : Exit → ASt → List α × Bool → Prop} {s : ASt} {p : List α × Bool}
theorem qgs {c : Code} (id : Nat) {blk : Blk} {l1 : List (Nat × TV)} {m : Mem} (hb : qq s.mem id = some blk) (h1 : FrzL s id blk l1) (h2 : MemL s m) (h3 : wa l1 m = true) (hid : qq m id = none)
  (h : IWp E C c Q (stt s.n l1 m) p) (hbw : E.bow = [] := by rfl) : IWp E C c Q s p := by
 rintro a w ⟨N, W1, k1, k2, k3, k4, k5, k6⟩;exact h a w ⟨N, W1, k1, k2, k3, k4, k5.freeze id hb h1 h2 h3 hid (by unfold qkc; rw [hbw]; rfl) (by unfold wn; rw [hbw]; rfl), k6⟩
def IEnd (xs : List α) : Exit → ASt → List α × Bool → Prop
 | .normal, _, p => p.2 = true ∨ p.1 = xs
 | .ret, _, p => p.2 = true ∨ p.1 = xs
 | _, _, _ => False
theorem qx1 {P : Program} {fn : Func} {tmps : Array Value} {N : Nat → Prop} {J J' : World → Prop} (hJJ : ∀ W, J W → J' W) (hr : ∀ w, (results fn tmps).run P w = .ok (.tuple #[]) w) (hJ : ∀ W D o, N D → J W → J (W.putObj D o)) : ∀ (ds : List Deferred) (w1 : World), qx0 N ds w1 → J w1 →
  LeavesInM Fence.wide 0 P fn tmps (fun e w'' => (∃ v, e = .returned v) ∧ J' w'') ds .returning w1
 | [], w1, _, hj => ⟨_, hr w1, ⟨_, rfl⟩, hJJ _ hj⟩
 | d :: ds, w1, ⟨hn, hd⟩, hj => by
  obtain ⟨D, rfl, hN, hD⟩ := hd _ List.mem_cons_self;obtain ⟨hn1, hn2⟩ := List.nodup_cons.1 hn;refine ⟨by simp, .inl ⟨D, _, rfl, run_takeDeferred hD, ?_⟩⟩;refine qx1 hJJ hr hJ ds _ ⟨hn2, fun d' hd' => ?_⟩ (hJ _ _ _ hN hj);obtain ⟨D', rfl, hN', hD'⟩ := hd d' (List.mem_cons_of_mem _ hd');exact ⟨D', U, hN', (World.putObj_heap_other (fun e => hn1 (by rw [← e]; exact hd'))).trans hD'⟩
theorem qhq {g : FuncId} {fn : Func} {c : Code} {caps : List G} (hf : E.P.funcs[g]? = some fn) (hb : fn.body = some c) (hn0 : Nat.ble (caps.length + 1) fn.ntmps = true) (hres : fn.results = #[])
  (h : ∀ (l : Nat) (C : ItC E.P l enc xs), IWp E C c (IEnd xs) ⟨fn.ntmps, qdf (G.lit (.func (.yield l) #[] #[]) :: caps), []⟩ ([], false)) (hbw : E.bow = [] := by rfl) (hrn : E.rnd = none := by rfl) (hnb : E.nb = 0 := by rfl) : SeqN E g caps enc xs := by
 intro w M vs l J hM hgl hv hturn htake hy h0;have hn := Nat.le_of_ble_eq_true hn0;have hlen := hv.length
 have hF : E.F = Fence.wide := by unfold Env.F; rw [hrn]; rfl
 let C : ItC E.P l enc xs := ⟨w, w.heap.size, M, J, NY.no, hM, Nat.le_refl _, hturn, htake, fun N pre x post W1 hx hB hN hY hJ => hy N pre x post W1 hx (hB.mono fun b h => h.resolve_right fun h => h) hN hY hJ⟩
 refine callsIn_of_wp_marks hf hb O ?_ U
 have hv' : FitsT w (qz (fun b => (M b ∨ False) ∨ False) (fun _ => none)) (G.lit (.func (.yield l) #[] #[]) :: caps) ((Value.func (.yield l) #[] #[]) :: vs) :=
  ⟨rfl, hv.mono (fun _ _ _ => rfl) (by rintro b _ (h | ⟨_, _, h, _⟩); exact (h.resolve_right id).resolve_right id; cases h)⟩
 have ha : IRel E C ⟨fn.ntmps, qdf (G.lit (.func (.yield l) #[] #[]) :: caps), []⟩ ([], false) { tmps := (#[Value.func (.yield l) #[] #[]] ++ vs.toArray) ++ Array.replicate (fn.ntmps - (#[Value.func (.yield l) #[] #[]] ++ vs.toArray).size) undef, defers := [] } w := by
  refine ⟨NY.no, w, h0, (fun _ h => h.elim), BelowX.refl _ w, ⟨.nil, fun _ h => by cases h⟩, ⟨fun _ => U, ?_, fun _ => none, ⟨BelowX.refl _ w, (fun b h => hM b ((h.resolve_right id).resolve_right id)), ?_, ?_, ?_, ?_, (fun id x h => by rw [hbw] at h; cases h), ⟨(fun b h => absurd h (qal hbw)), Nat.le_trans (Nat.le_of_eq hnb) (Nat.zero_le _)⟩, ?_⟩, Marks.nil, ?_⟩, (fun _ h => h), fun _ h => h.elim⟩
  ·simp; omega
  ·intro g vs hg;have := hgl g vs hg
   have hiff : ∀ b, qz (fun b => (M b ∨ False) ∨ False) (fun _ => none) b → M b := by rintro b (h | ⟨_, _, h, _⟩); exact (h.resolve_right id).resolve_right id; cases h
   exact ⟨⟨fun h => this.1.1 (hiff _ h), this.1.2⟩, this.2.mono (fun _ _ _ => U) (fun b _ h => hiff b h) this.1.1⟩
  ·intro _ _ h; cases h
  ·intro _ _ h; cases h
  ·intro _ _ _ _ h; cases h
  ·intro _ _ h; cases h
  ·intro i;have := qcn (ρ := fun _ => none) (fn.ntmps - (vs.length + 1)) hv' i;show TRel _ _ _ (qdf _ i) _;rw [Array.getD_eq_getD_getElem?];rw [show ((#[Value.func (.yield l) #[] #[]] ++ vs.toArray) ++ Array.replicate (fn.ntmps - (#[Value.func (.yield l) #[] #[]] ++ vs.toArray).size) undef) = ((Value.func (.yield l) #[] #[] :: vs) ++ List.replicate (fn.ntmps - (vs.length + 1)) undef).toArray by simp [Nat.add_comm]];rw [List.getElem?_toArray];exact this
 have hw := h l C _ w ha;rw [hF] at hw;refine wpIn_mono hw ?_;rintro e a' w' ⟨s', p', ⟨N, W1, k1, k2, k3, k4, k5, k6⟩, hq⟩;obtain ⟨ρ, hm, _, _⟩ := k5.ex;have hg : Grow W1 w' := hm.below.grow (fun _ => ww hbw)
 have hk : qx0 N.n a'.defers w' := ⟨k4.1, fun d hd => by
  obtain ⟨D, q1, q2, q3⟩ := k4.2 d hd
  exact ⟨D, q1, q2, (hg.block D (k2 D q2).2).trans q3⟩⟩
 have hlo : ∀ b, N.y b → w.heap.size ≤ b ∧ b < w'.heap.size := fun b hb => ⟨(k6.2 b hb).1.1.1, Nat.lt_of_lt_of_le (k6.2 b hb).1.1.2 hg.size⟩
 have fin : (p'.2 = true ∨ p'.1 = xs) → LeavesInM Fence.wide 0 E.P fn a'.tmps (fun e w'' => (∃ v, e = .returned v) ∧ ∃ Y, (∀ b, Y b → w.heap.size ≤ b ∧ b < w''.heap.size) ∧ (J ⟨fun _ => False, Y⟩ xs false w'' ∨ ∃ pre, J ⟨fun _ => False, Y⟩ pre true w'')) a'.defers .returning w' := by
  intro hq;have hJ : J N p'.1 p'.2 w' := hturn _ _ _ _ _ k1 (fun b hb => (k6.2 b hb).1.2) (BelowX.of_grow hg);refine qx1 (P := E.P) (fn := fn) (tmps := a'.tmps) (N := N.n) (J := fun W => J N p'.1 p'.2 W ∧ w'.heap.size ≤ W.heap.size) (fun W hj => ?_) (fun w => results_none hres _ _ w) (fun W D o hN hj => ⟨hturn _ _ _ _ _ hj.1 (fun b hb => (k6.2 b hb).1.2) (wm _ _ _ hN), by rw [vp]; exact hj.2⟩) a'.defers w' hk ⟨hJ, Nat.le_refl _⟩;refine ⟨N.y, fun b hb => ⟨(hlo b hb).1, Nat.lt_of_lt_of_le (hlo b hb).2 hj.2⟩, ?_⟩;have hj := htake _ (fun _ => False) _ _ _ hj.1 (fun _ h => h.elim);obtain ⟨pre, st⟩ := p'
  cases st with
  | true => exact .inr ⟨pre, hj⟩
  | false =>
   rcases hq with h | h
   ·cases h
   ·rw [show pre = xs from h] at hj; exact .inl hj
 cases e with
 | ret => exact fin hq
 | normal => exact fin hq
 | _ => exact hq.elim
end
section
variable {α : Type} {E : Env} {l : Nat} {enc : α → Value} {xs : List α} {C : ItC E.P l enc xs} {Q : Exit → ASt → List α × Bool → Prop}
def Env.rin (E : Env) (lp : Nat) : Env := ⟨E.P, E.gl, E.orders, [], some lp, false, 0⟩
theorem Con.rin {f : FuncId} {args : List G} {r : G} {lp : Nat} (h : Con E f args r) : Con (E.rin lp) f args r := h
def q2l (p1 : List α) : Exit → ASt → List α × Bool → Prop
 | .normal, _, p => p = (p1, false)
 | .ret, _, p => p.2 = true
 | _, _, _ => False
theorem qd1 {W : World} {M : Nat → Prop} {n : Nat} {t : Nat → TV} {tmps : Array Value} (hbw : E.bow = []) (hnb : E.nb ≤ W.heap.size) (hM : ∀ b, M b → b < W.heap.size) (hgl : GlOk E W M) (hs : tmps.size = n) (ht : ∀ i, TRel W M (fun _ => none) (t i) (tmps.getD i undef)) : ARel E W M ⟨n, t, []⟩ ⟨tmps, []⟩ W := by
 have how : qz M (fun _ => none) = M := by
  funext b
  exact propext ⟨(by rintro (h | ⟨_, _, h, _⟩); exact h; cases h), fun h => .inl h⟩
 refine ⟨fun _ => U, hs, fun _ => none, ⟨BelowX.refl _ W, hM, by rw [how]; exact hgl, (fun _ _ h => by cases h), (fun _ _ h => by cases h), (fun _ _ _ _ h => by cases h), (fun id x h => by rw [hbw] at h; cases h), ⟨(fun b h => absurd h (qal hbw)), hnb⟩, fun id blk hb => by cases hb⟩, Marks.nil, fun i => ?_⟩;rw [how];exact ht i
theorem qin {W1 W : World} {M : Nat → Prop} {n : Nat} {t : Nat → TV} {tmps : Array Value} (hbw : E.bow = []) (h : ARel E W1 M ⟨n, t, []⟩ ⟨tmps, []⟩ W) : Grow W1 W ∧ GlOk E W M ∧ tmps.size = n ∧ ∀ i, TRel W M (fun _ => none) (t i) (tmps.getD i undef) := by
 obtain ⟨ρ, hm, _, ht⟩ := h.ex
 have hρ : ρ = fun _ => none := by
  funext id
  cases hq : ρ id with
  | none => rfl
  | some x =>
   obtain ⟨blk, hb⟩ := hm.dom id x hq
   cases hb
 subst hρ
 have how : qz M (fun _ => none) = M := by
  funext b
  exact propext ⟨(by rintro (h | ⟨_, _, h, _⟩); exact h; cases h), fun h => .inl h⟩
 have hgl := hm.glob;rw [how] at ht hgl;exact ⟨hm.below.grow (fun _ => ww hbw), hgl, h.size, ht⟩
theorem qqe {β : Type} {gop : Operand} {p : Tmp} {assign body : Code} {n : Nat} {t : Nat → TV} {gf : FuncId} {caps : List G} {encb : β → Value} {ys : List β} (f : List β → List α) (gx : β → G) (t1 : β → Nat → TV)
  (hk : ze E.P gf) (hp : p < n) (hg : ASt.eval E ⟨n, t, []⟩ gop = .g (.fn (.func gf) [] caps)) (hseq : SeqN E gf caps encb ys) (hgx : ∀ y w M, (gx y).p w M (encb y))
  (hassign : ∀ y pre lp (C' : ItC E.P l enc xs), IWp (E.rin lp) C' assign (fun e s' p' => e = .normal ∧ s' = ⟨n, t1 y, []⟩ ∧ p' = pre) ⟨n, upd p (.g (gx y)) t, []⟩ pre)
  (hbody : ∀ q y post, ys = q ++ y :: post → ∀ lp (C' : ItC E.P l enc xs), IWp (E.rin lp) C' body (q2l (f (q ++ [y]))) ⟨n, t1 y, []⟩ (f q, false))
  (hdone : Q .normal ⟨n, t, []⟩ (f ys, false)) (hstop : ∀ pre, Q .ret ⟨n, t, []⟩ (pre, true)) (hbw : E.bow = [] := by rfl) (hmk : E.mks = false := by rfl) (hrn : E.rnd = none := by rfl) (hnb : E.nb = 0 := by rfl) :
  IWp E C (.rangeFunc gop #[p] assign body) Q ⟨n, t, []⟩ (f [], false) := by
 rintro a w ⟨N, W1, k1, k2, k3, k4, k5, k6⟩
 have hF : E.F = Fence.wide := by unfold Env.F; rw [hrn]; rfl
 obtain ⟨hgw, hglob, hsize, ht⟩ := qin hbw k5;have hMN : ∀ b, (C.M b ∨ N.n b) ∨ N.y b → b < w.heap.size := fun b hb => hb.elim (fun hb => hb.elim (fun hb => Nat.lt_of_lt_of_le (C.hM b hb) (Nat.le_trans C.hlo (Nat.le_trans k3.size hgw.size))) (fun hb => Nat.lt_of_lt_of_le (k2 b hb).2 hgw.size)) (fun hb => Nat.lt_of_lt_of_le (k6.2 b hb).1.1.2 hgw.size)
 obtain ⟨fs, cs, hge, hfs, hcs⟩ : (G.fn (.func gf) [] caps).p w (fun b => (C.M b ∨ N.n b) ∨ N.y b) (a.eval gop) := by
  have h0 := qd1 hbw (Nat.le_trans (Nat.le_of_eq hnb) (Nat.zero_le _)) hMN hglob hsize ht;obtain ⟨ρ, hm, hx⟩ := h0.rel;have := hx gop;rw [hg] at this;exact G.mono _ this (fun _ _ _ => U) (fun b _ h => .inl h)
 obtain rfl : fs = [] := by cases fs with
  | nil => rfl
  | cons => exact hfs.elim
 obtain ⟨fng, g1, g2, g3⟩ := hk;refine wpIn_rangeFunc ?_;intro fn _;obtain ⟨rec, hrec⟩ : ∃ rec : LoopState → Option Code → Loop, rec = fun st pe => { state := st, pending := pe, fn, tmps := a.tmps, params := #[p], assign, body, defers := w.heap.size } := ⟨_, rfl⟩;obtain ⟨w2, hw2⟩ : ∃ w2, (w.alloc (.deferred (some []))).alloc (.loop (rec .ready none)) = w2 := ⟨_, rfl⟩
 have hgr : Grow w w2 := by rw [← hw2]; exact (Grow.alloc w _).trans (Grow.alloc _ _)
 have hsz : w2.heap.size = w.heap.size + 2 := by rw [← hw2]; simp
 have hL : w2.heap[w.heap.size + 1]? = some (.loop (rec .ready none)) := by
  rw [← hw2]; have := World.alloc_heap_new (w.alloc (.deferred (some []))) (.loop (rec .ready none)); rwa [World.size_alloc] at this
 have hD : w2.heap[w.heap.size]? = some (.deferred (some [])) := by
  rw [← hw2]; exact (RowKit.Below.heap_alloc _ _ _ (by simp)).trans (World.alloc_heap_new w _)
 have hrun : (Instr.enterLoop fn a.tmps #[p] assign body E.F.round).run E.P w = .ok (w.heap.size + 1, [{ target := .collected w.heap.size, args := #[] }]) w2 := by
  rw [← hw2, hrec, hF]; exact run_enterLoop_outer _ _ _ _ _
 clear hw2;generalize hDD : w.heap.size = D at *;generalize hlpp : D + 1 = lp at *;have hCw : C.w.heap.size ≤ w.heap.size := Nat.le_trans k3.size hgw.size;have hCwl := C.hlo
 have hMw : ∀ b, C.M b → b < w.heap.size := fun b hb => by have := C.hM b hb; omega
 have hyw : ∀ b, N.y b → b < w.heap.size := fun b hb => by have := hMN b (.inr hb); omega
 let L : Nat → Prop := fun b => (C.M b ∨ N.y b) ∨ b = lp
 have hML : ∀ b, C.M b → L b := fun b h => .inl (.inl h)
 let N2 : Nat → Prop := fun b => N.n b ∨ b = D ∨ b = lp
 let Mi : Nat → Prop := fun b => (C.M b ∨ N2 b) ∨ N.y b
 have hMi : ∀ b, Mi b → b < w2.heap.size := by
  rintro b ((h | h | h | h) | h)
  ·have := hMw b h; omega
  ·have := hMN b (.inl (.inr h)); omega
  ·omega
  ·omega
  ·have := hyw b h; omega
 have hMiSub : ∀ b, b < w.heap.size → Mi b → (C.M b ∨ N.n b) ∨ N.y b := by
  rintro b hb ((h | h | h | h) | h)
  ·exact .inl (.inl h)
  ·exact .inl (.inr h)
  ·omega
  ·omega
  ·exact .inr h
 have hgl2 : GlOk E w2 Mi := fun g vs hgv => by
  obtain ⟨⟨g1, g2⟩, g3⟩ := hglob g vs hgv;exact ⟨⟨fun h => g1 (hMiSub g g2 h), by omega⟩, g3.mono hgr.hh hMiSub g1⟩
 have hN2 : ∀ b, N2 b → C.lo ≤ b ∧ b < w2.heap.size := by
  rintro b (h | h | h)
  ·have h1 := k2 b h; have := hgw.size; exact ⟨h1.1, by omega⟩
  ·omega
  ·omega
 have hN2M : ∀ b, N2 b → ¬ C.M b := fun b h1 h2 => by have := C.hM b h2; have := (hN2 b h1).1; omega
 have hyN2 : ∀ b, N.y b → ¬ N2 b := by
  rintro b hb (h | h | h)
  ·exact (k6.2 b hb).1.2 h
  ·have := hyw b hb; omega
  ·have := hyw b hb; omega
 have hJ2 : C.J ⟨N2, N.y⟩ (f []) false w2 :=
  C.turn ⟨N2, N.y⟩ _ _ _ _ (C.take _ N2 _ _ _ (C.turn _ _ _ _ _ k1 (fun b hb => (k6.2 b hb).1.2) (BelowX.of_grow hgw)) (fun b hb => by
   rcases hb with h | h | h
   ·exact .inl h
   ·exact .inr (by omega)
   ·exact .inr (by omega))) hyN2 (BelowX.of_grow hgr)
 have hlpM : ¬ C.M lp := hN2M lp (.inr (.inr rfl));have hDM : ¬ C.M D := hN2M D (.inr (.inl rfl));have hB2 : BelowX (fun b => C.M b ∨ C.N0.y b) C.w w2 := (k3.trans (BelowX.of_grow hgw)).trans (BelowX.of_grow hgr)
 have hBC : ∀ W, BelowX L w2 W → BelowX (fun b => C.M b ∨ C.N0.y b) C.w W := fun W h => ⟨h.os.trans hB2.os, h.tape.trans hB2.tape, h.output.trans hB2.output, Nat.le_trans hB2.size h.size, fun k hk hl =>
  (h.block k (Nat.lt_of_lt_of_le hk hB2.size) (by
   rintro ((h | h) | h)
   ·exact hl (.inl h)
   ·exact (k6.2 k h).2.elim (fun h => hl (.inr h)) (by omega)
   ·omega)).trans (hB2.block k hk hl)⟩
 have hhw : ∀ W, BelowX L w2 W → ∀ b, b < w.heap.size → ¬ (C.M b ∨ N.y b) → W.heap[b]? = w.heap[b]? := fun W h b hb hno =>
  (h.block b (by omega) (by rintro (h | h); exact hno h; omega)).trans (hgr.block b hb)
 have hglW : ∀ W (Z : Nat → Prop), BelowX L w2 W → (∀ b, b < w.heap.size → Z b → (C.M b ∨ N.n b) ∨ N.y b) → GlOk E W Z := fun W Z h hZ g vs hgv => by
  obtain ⟨⟨g1, g2⟩, g3⟩ := hglob g vs hgv;exact ⟨⟨fun k => g1 (hZ g g2 k), by have := h.size; omega⟩, g3.mono (fun b hb hno => hhw W h b hb fun k => hno (k.elim (fun k => .inl (.inl k)) .inr)) hZ g1⟩
 have htW : ∀ W (Z : Nat → Prop), BelowX L w2 W → (∀ b, b < w.heap.size → Z b → (C.M b ∨ N.n b) ∨ N.y b) → ∀ i, TRel W Z (fun _ => none) (t i) (a.tmps.getD i undef) := fun W Z h hZ i =>
  (ht i).mono none (by cases ASt.get ⟨n, t, []⟩ i <;> rfl) (fun b hb hno => hhw W h b hb fun k => hno (k.elim (fun k => .inl (.inl k)) .inr)) hZ (fun _ _ _ => rfl)
 have hN2s : ∀ b, b < w.heap.size → N2 b → N.n b := by
  rintro b hb (h | h | h)
  ·exact h
  ·omega
  ·omega
 have hZ2 : ∀ (Ni Y : Nat → Prop), (∀ b, Ni b → w2.heap.size ≤ b) → (∀ b, Y b → N.y b ∨ w2.heap.size ≤ b) → ∀ b, b < w.heap.size → ((C.M b ∨ (N2 b ∨ Ni b)) ∨ Y b) → (C.M b ∨ N.n b) ∨ N.y b := by
  rintro Ni Y hNi hY b hb ((h | h | h) | h)
  ·exact .inl (.inl h)
  ·exact .inl (.inr (hN2s b hb h))
  ·have := hNi b h; omega
  ·exact .inr ((hY b h).resolve_right (by omega))
 -- behind the loop
 have back : ∀ W' st pe pre stp (Ni Y : Nat → Prop), C.J ⟨fun b => N2 b ∨ Ni b, Y⟩ pre stp W' → (∀ b, Ni b → w2.heap.size ≤ b) → (∀ b, Y b → (b < W'.heap.size ∧ ¬ (N2 b ∨ Ni b)) ∧ (N.y b ∨ w2.heap.size ≤ b)) → BelowX L w2 W' → W'.heap[D]? = some (.deferred (some [])) →
   IRel E C ⟨n, t, []⟩ (pre, stp) { a with defers := { target := .collected D, args := #[] } :: a.defers } (W'.putObj lp (.loop { rec st pe with state := .exhausted })) := by
  intro W' st pe pre stp Ni Y hJ hNi hY hB hd;have hB' : BelowX L w2 (W'.putObj lp (.loop { rec st pe with state := .exhausted })) := hB.trans (wm _ _ _ (.inr rfl))
  have hJ' : C.J ⟨N2, Y⟩ pre stp (W'.putObj lp (.loop { rec st pe with state := .exhausted })) :=
   C.turn ⟨N2, Y⟩ _ _ _ _ (C.take _ N2 _ _ _ hJ (fun b h => .inl (.inl h))) (fun b hb hn => (hY b hb).1.2 (.inl hn)) (wm _ _ _ (.inr (.inr rfl)))
  have hlow := hB'.size;have hZ : ∀ b, b < w.heap.size → ((C.M b ∨ N2 b) ∨ Y b) → (C.M b ∨ N.n b) ∨ N.y b := fun b hb h => hZ2 Ni Y hNi (fun b hb => (hY b hb).2) b hb (h.imp (Or.imp id .inl) id)
  have hYlo : ∀ b, Y b → C.lo ≤ b ∧ (C.N0.y b ∨ C.w.heap.size ≤ b) := fun b hb => by
   rcases (hY b hb).2 with h | h
   ·exact ⟨(k6.2 b h).1.1.1, (k6.2 b h).2⟩
   ·exact ⟨by omega, .inr (by omega)⟩
  refine ⟨⟨N2, Y⟩, _, hJ', fun b hb => ⟨(hN2 b hb).1, Nat.lt_of_lt_of_le (hN2 b hb).2 hB'.size⟩, hBC _ hB', ?_, qd1 hbw (Nat.le_trans (Nat.le_of_eq hnb) (Nat.zero_le _)) (fun b hb => ?_) (hglW _ _ hB' hZ) hsize (htW _ _ hB' hZ), (fun b hb => .inl (k6.1 b hb)), fun b hb => ⟨⟨⟨(hYlo b hb).1, by rw [vp]; exact (hY b hb).1.1⟩, fun hn => (hY b hb).1.2 (.inl hn)⟩, (hYlo b hb).2⟩⟩
  ·refine ⟨List.nodup_cons.2 ⟨fun hq => ?_, k4.1⟩, fun d hd' => ?_⟩
   ·obtain ⟨D', q1, q2, q3⟩ := k4.2 _ hq;simp only [Deferred.mk.injEq, Target.collected.injEq, and_true] at q1;have := (k2 D' q2).2; have := hgw.size; omega
   rcases List.mem_cons.1 hd' with rfl | hd'
   ·exact ⟨D, U, .inr (.inl U), (World.putObj_heap_other (by omega)).trans hd⟩
   ·obtain ⟨D', q1, q2, q3⟩ := k4.2 _ hd';have h1 := (k2 D' q2).2;have h2 := hgw.size;refine ⟨D', q1, .inl q2, (World.putObj_heap_other (by omega)).trans ((hhw _ hB D' (by omega) fun h => h.elim (fun h => hN2M D' (.inl q2) h) fun h => (k6.2 D' h).1.2 q2).trans ((hgw.block D' h1).trans q3))⟩
  ·rcases hb with (hb | hb) | hb
   ·have := hMw b hb; omega
   ·have := (hN2 b hb).2; omega
   ·rw [vp]; exact (hY b hb).1.1
 refine ⟨lp, [{ target := .collected D, args := #[] }], w2, { target := .fn (.func gf) cs.toArray, args := #[.func (.yield lp) #[] #[]] }, w2, gf,
  #[.func (.yield lp) #[] #[]] ++ cs.toArray, w2, hrun, ?_, fun _ _ => trivial, ?_, qjo, ?_⟩
 ·simp only [resolve, hge]
  simp [go_sem]
 ·simp [invoke, go_sem, kr g1 g2 g3]
 rw [hF]
 let Ji : NY → List β → Bool → World → Prop := fun Ni q st W => (∃ pre Y, (st = false → pre = f q) ∧ (∀ b, Y b → (N.y b ∨ Ni.y b) ∧ b < W.heap.size) ∧ C.J ⟨fun b => N2 b ∨ Ni.n b, Y⟩ pre st W) ∧ BelowX L w2 W ∧
  W.heap[lp]? = some (.loop (rec (if st = true then .done else .ready) (if st = true then some .ret else none))) ∧ W.heap[D]? = some (.deferred (some [])) ∧ (∀ b, Ni.n b → w2.heap.size ≤ b) ∧ ∀ b, Ni.y b → w2.heap.size ≤ b
 have hYd : ∀ (Ni : NY) (Y : Nat → Prop), (∀ b, Ni.n b → w2.heap.size ≤ b) → (∀ b, Ni.y b → w2.heap.size ≤ b) → (∀ b, Ni.y b → ¬ Ni.n b) → (∀ b, Y b → N.y b ∨ Ni.y b) → ∀ b, Y b → ¬ (N2 b ∨ Ni.n b) := by
  rintro Ni Y h1 h2 h3 h4 b hb (h | h)
  ·rcases h4 b hb with k | k
   ·exact hyN2 b k h
   ·have := h2 b k; have := (hN2 b h).2; omega
  ·rcases h4 b hb with k | k
   ·have := hyw b k; have := h1 b h; omega
   ·exact h3 b k h
 refine (hseq w2 Mi cs lp Ji hMi hgl2 (hcs.mono hgr.hh hMiSub) ?_ ?_ ?_ ?_).mono ?_
 ·rintro Ni q st W W' ⟨⟨pre, Y, hp, hY, hJ⟩, j1, j3, j4, j5, j6⟩ hdis hB;refine ⟨⟨pre, Y, hp, fun b hb => ⟨(hY b hb).1, Nat.lt_of_lt_of_le (hY b hb).2 hB.size⟩, C.turn ⟨fun b => N2 b ∨ Ni.n b, Y⟩ _ _ _ _ hJ (hYd Ni Y j5 j6 hdis fun b hb => (hY b hb).1) (hB.mono fun b h => .inr h)⟩, ⟨hB.os.trans j1.os, hB.tape.trans j1.tape, hB.output.trans j1.output, Nat.le_trans j1.size hB.size, fun k hk hl => ?_⟩, ?_, ?_, j5, j6⟩
  ·exact (hB.block k (Nat.lt_of_lt_of_le hk j1.size) (fun h => by have := j5 k h; omega)).trans (j1.block k hk hl)
  ·exact (hB.block lp (Array.getElem?_eq_some_iff.1 j3).1 (fun h => by have := j5 lp h; omega)).trans j3
  ·exact (hB.block D (Array.getElem?_eq_some_iff.1 j4).1 (fun h => by have := j5 D h; omega)).trans j4
 ·rintro Ni Ni' q st W ⟨⟨pre, Y, hp, hY, hJ⟩, j1, j3, j4, j5, j6⟩ hN;refine ⟨⟨pre, Y, hp, hY, C.take ⟨fun b => N2 b ∨ Ni.n b, Y⟩ (fun b => N2 b ∨ Ni' b) _ _ _ hJ fun b hb => ?_⟩, j1, j3, j4, fun b hb => ?_, j6⟩
  ·rcases hb with h | h
   ·exact .inl (.inl h)
   ·exact (hN b h).imp .inr id
  ·rcases hN b hb with h | h
   ·exact j5 b h
   ·exact Nat.le_trans j1.size h
 ·-- ONE ROUND
  rintro Ni q y post Wr hys _ hNi hYi ⟨⟨pre, Y, hpre, hYs, hJ⟩, j1, j3, j4, j5, j6⟩;obtain rfl := hpre rfl;have hlpW1 : lp < Wr.heap.size := (Array.getElem?_eq_some_iff.1 j3).1;simp only [Bool.false_eq_true, if_false] at j3;have hy := run_yield (P := E.P) (args := #[encb y]) j3 (by rw [hrec]; rfl);refine ⟨_, _, _, _, hy, roundIn_of_wpIn O ?_⟩;clear hy
  have hfold : (((rec .ready none).params.zip #[encb y]).foldl (fun tmps (t, a) => tmps.setIfInBounds t a) (rec .ready none).tmps) = (a.put (some p) (encb y)).tmps := by rw [hrec]; simp [Act.put]
  have has : (rec .ready none).assign = assign := by rw [hrec]
  have hbo : (rec .ready none).body = body := by rw [hrec]
  rw [hfold, has, hbo]
  let NN : Nat → Prop := fun b => N2 b ∨ Ni.n b
  have hNN : ∀ b, NN b → C.lo ≤ b ∧ b < Wr.heap.size := by
   rintro b (h | h)
   ·exact ⟨(hN2 b h).1, Nat.lt_of_lt_of_le (hN2 b h).2 j1.size⟩
   ·exact ⟨by have := (hNi b h).1; omega, (hNi b h).2⟩
  have hNM : ∀ b, NN b → ¬ C.M b := fun b h1 h2 => by have := C.hM b h2; have := (hNN b h1).1; omega
  have hYN : ∀ b, Y b → ¬ NN b := hYd Ni Y j5 j6 (fun b hb => (hYi b hb).2) fun b hb => (hYs b hb).1;have hYw : ∀ b, Y b → N.y b ∨ w2.heap.size ≤ b := fun b hb => (hYs b hb).1.imp id fun h => j6 b h
  have hYlo : ∀ b, Y b → C.lo ≤ b ∧ (C.N0.y b ∨ C.w.heap.size ≤ b) := fun b hb => by
   rcases hYw b hb with h | h
   ·exact ⟨(k6.2 b h).1.1.1, (k6.2 b h).2⟩
   ·exact ⟨by omega, .inr (by omega)⟩
  have hthr : ∀ W, BelowX (fun b => (C.M b ∨ Y b) ∨ b = lp) Wr W → BelowX L w2 W := fun W h => ⟨h.os.trans j1.os, h.tape.trans j1.tape, h.output.trans j1.output, Nat.le_trans j1.size h.size, fun k hk hl =>
   (h.block k (Nat.lt_of_lt_of_le hk j1.size) (by
    rintro ((h | h) | h)
    ·exact hl (.inl (.inl h))
    ·exact (hYw k h).elim (fun h => hl (.inl (.inr h))) (by omega)
    ·exact hl (.inr h))).trans (j1.block k hk hl)⟩
  have hZr : ∀ b, b < w.heap.size → ((C.M b ∨ NN b) ∨ Y b) → (C.M b ∨ N.n b) ∨ N.y b := hZ2 Ni.n Y j5 hYw
  have ha1 : IRel (E.rin lp) (C.at Wr (hBC Wr j1) ⟨NN, Y⟩ fun b hb => (hYlo b hb).2) ⟨n, upd p (.g (gx y)) t, []⟩ (f q, false) { tmps := (a.put (some p) (encb y)).tmps, defers := [] } Wr := by
   refine ⟨⟨NN, Y⟩, Wr, hJ, hNN, BelowX.refl _ _, ⟨.nil, fun _ h => by cases h⟩, qd1 (E := E.rin lp) U (Nat.zero_le _) (fun b hb => ?_) (hglW Wr _ j1 hZr) (by rw [qjn]; exact hsize) (fun i => ?_), (fun b h => h), fun b hb => ⟨⟨⟨(hYlo b hb).1, (hYs b hb).2⟩, hYN b hb⟩, .inl hb⟩⟩
   ·rcases hb with (hb | hb) | hb
    ·have := hMw b hb; have := j1.size; omega
    ·exact (hNN b hb).2
    ·exact (hYs b hb).2
   rw [qjm a (some p) (encb y) (fun d h => by cases h; rw [hsize]; exact hp), qux]
   by_cases hpi : p = i
   ·rw [if_pos hpi, if_pos (by rw [hpi])]; exact hgx y _ _
   ·rw [if_neg hpi, if_neg (fun h => hpi (by cases h; rfl))]; exact htW Wr _ j1 hZr i
  refine wpIn_mono (hassign y (f q, false) lp (C.at Wr (hBC Wr j1) ⟨NN, Y⟩ fun b hb => (hYlo b hb).2) _ Wr ha1) ?_;rintro e a1 Wa ⟨s', p', ⟨Na, Wa1, n1, n2, n3, n4, n5, n6, n7⟩, rfl, rfl, rfl⟩;obtain ⟨hga, hgla, hsa, hta⟩ := qin (E := E.rin lp) rfl n5;have n3 : BelowX (fun b => C.M b ∨ Y b) Wr Wa1 := n3;have n6 : ∀ b, NN b → Na.n b := n6;have n7 : ∀ b, Na.y b → ((C.lo ≤ b ∧ b < Wa1.heap.size) ∧ ¬ Na.n b) ∧ (Y b ∨ Wr.heap.size ≤ b) := n7;have hNay : ∀ b, Na.y b → ¬ Na.n b := fun b hb => (n7 b hb).1.2;have hBa : BelowX (fun b => C.M b ∨ Y b) Wr Wa := n3.trans (BelowX.of_grow hga);have hlpN : NN lp := .inl (.inr (.inr rfl));have hDN : NN D := .inl (.inr (.inl rfl));have e3 : Wa.heap[lp]? = some (.loop (rec .ready none)) := (hBa.block lp hlpW1 (fun h => h.elim hlpM fun h => hYN lp h hlpN)).trans j3;have e4 : Wa.heap[D]? = some (.deferred (some [])) := (hBa.block D (by omega) (fun h => h.elim hDM fun h => hYN D h hDN)).trans j4;refine ⟨_, run_beginRound e3 (by rw [hrec]), ?_⟩;have hlpWa : lp < Wa.heap.size := Nat.lt_of_lt_of_le hlpW1 hBa.size;generalize hWb : Wa.putObj lp (.loop { rec .ready none with state := .busy }) = Wb
  have hput : BelowX (fun b => (C.M b ∨ Y b) ∨ b = lp) Wa Wb := by rw [← hWb]; exact wm _ _ _ (.inr rfl)
  have hb3 : Wb.heap[lp]? = some (.loop { rec .ready none with state := .busy }) := by rw [← hWb]; exact World.putObj_heap_same hlpWa
  have hb4 : Wb.heap[D]? = some (.deferred (some [])) := by rw [← hWb]; exact (World.putObj_heap_other (by omega)).trans e4
  have hbo : ∀ b, b ≠ lp → Wb.heap[b]? = Wa.heap[b]? := fun b h => by rw [← hWb]; exact World.putObj_heap_other h
  have hbs : Wb.heap.size = Wa.heap.size := by rw [← hWb]; exact vp _ _ _
  have hBr : BelowX (fun b => (C.M b ∨ Y b) ∨ b = lp) Wr Wb := (hBa.mono fun b h => .inl h).trans hput;have hBb : BelowX L w2 Wb := hthr Wb hBr;have hlpNa : Na.n lp := n6 lp hlpN;have hJb : C.J Na (f q) false Wb := C.turn _ _ _ _ _ (C.turn _ _ _ _ _ n1 hNay (BelowX.of_grow hga)) hNay (by rw [← hWb]; exact wm _ _ _ hlpNa);have hNa : ∀ b, Na.n b → C.lo ≤ b ∧ b < Wb.heap.size := fun b hb => ⟨(n2 b hb).1, by rw [hbs]; exact Nat.lt_of_lt_of_le (n2 b hb).2 hga.size⟩;have hNaY : ∀ b, Na.y b → C.lo ≤ b ∧ b < Wb.heap.size := fun b hb => ⟨(n7 b hb).1.1.1, by rw [hbs]; exact Nat.lt_of_lt_of_le (n7 b hb).1.1.2 hga.size⟩;have hNaC : ∀ b, Na.y b → C.N0.y b ∨ C.w.heap.size ≤ b := fun b hb => (n7 b hb).2.elim (fun h => (hYlo b h).2) fun h => .inr (by have := j1.size; omega)
  have ha2 : IRel (E.rin lp) (C.at Wb (hBC Wb hBb) ⟨NN, Na.y⟩ hNaC) ⟨n, t1 y, []⟩ (f q, false) a1 Wb := by
   refine ⟨Na, Wb, hJb, hNa, BelowX.refl _ _, ⟨n4.1, fun d hd => ?_⟩, qd1 (E := E.rin lp) U (Nat.zero_le _) (fun b hb => ?_) ?_ hsa (fun i => ?_), n6, fun b hb => ⟨⟨hNaY b hb, hNay b hb⟩, .inl hb⟩⟩
   ·obtain ⟨D', q1, q2, q3⟩ := n4.2 d hd;have h1 := (n2 D' q2).2;have h3 : Wa.heap[D']? = some (.deferred (some [])) := (hga.block D' h1).trans q3;refine ⟨D', q1, q2, (hbo D' fun h => ?_).trans h3⟩;rw [h, e3] at h3; cases h3
   ·rcases hb with (hb | hb) | hb
    ·have := hMw b hb; have := hBb.size; omega
    ·exact (hNa b hb).2
    ·exact (hNaY b hb).2
   ·exact GlOk.grow (E := E) hgla (by rw [hbs]; exact Nat.le_refl _) fun b _ hno => hbo b fun h => hno (.inl (.inr (by rw [h]; exact hlpNa)))
   ·exact (hta i).mono none (by cases ASt.get ⟨n, t1 y, []⟩ i <;> rfl) (fun b _ hno => hbo b fun h => hno (.inl (.inr (by rw [h]; exact hlpNa)))) (fun _ _ h => h) (fun _ _ _ => U)
  refine wpIn_mono (hbody q y post hys lp (C.at Wb (hBC Wb hBb) ⟨NN, Na.y⟩ hNaC) a1 Wb ha2) ?_;rintro e2 a2 W3 ⟨s3, p3, ⟨N3, W4, m1, m2, m3, m4, m5, m6, m7⟩, hq⟩;have m3 : BelowX (fun b => C.M b ∨ Na.y b) Wb W4 := m3;have m6 : ∀ b, NN b → N3.n b := m6;have m7 : ∀ b, N3.y b → ((C.lo ≤ b ∧ b < W4.heap.size) ∧ ¬ N3.n b) ∧ (Na.y b ∨ Wb.heap.size ≤ b) := m7;obtain ⟨ρ3, hm3, _, _⟩ := m5.ex;have hg43 : Grow W4 W3 := hm3.below.grow (fun _ => ww rfl);have hB3 : BelowX (fun b => C.M b ∨ Na.y b) Wb W3 := m3.trans (BelowX.of_grow hg43);have f3 : W3.heap[lp]? = some (.loop { rec .ready none with state := .busy }) := (hB3.block lp (by omega) (fun h => h.elim hlpM fun h => hNay lp h hlpNa)).trans hb3;have f4 : W3.heap[D]? = some (.deferred (some [])) := (hB3.block D (by omega) (fun h => h.elim hDM fun h => hNay D h (n6 D hDN))).trans hb4
  have b13 : BelowX (fun b => (C.M b ∨ Y b) ∨ b = lp) Wr W3 := ⟨hB3.os.trans hBr.os, hB3.tape.trans hBr.tape, hB3.output.trans hBr.output, Nat.le_trans hBr.size hB3.size, fun k hk hl =>
   (hB3.block k (Nat.lt_of_lt_of_le hk hBr.size) (by
    rintro (h | h)
    ·exact hl (.inl (.inl h))
    ·exact (n7 k h).2.elim (fun h => hl (.inl (.inr h))) (by omega))).trans (hBr.block k hk hl)⟩
  have hJ3 : C.J N3 p3.1 p3.2 W3 := C.turn _ _ _ _ _ m1 (fun b hb => (m7 b hb).1.2) (BelowX.of_grow hg43);have h3Y : ∀ b, N3.y b → Y b ∨ Wr.heap.size ≤ b := fun b hb => (m7 b hb).2.elim (fun h => (n7 b h).2) fun h => .inr (by have := hBr.size; omega);have fin : ∀ (jump : Option Code) (b : Bool), b = !jump.isNone → (jump = none ∨ jump = some .ret) → p3.2 = b → (b = false → p3.1 = f (q ++ [y])) →
    ∃ v W5, (Instr.endRound lp jump).run E.P W3 = .ok v W5 ∧ BelowX (fun b => Mi b ∨ Ni.y b) Wr W5 ∧ ∃ b, (Ending.returned v) = .returned (.bool b) ∧ ∃ Y5, (∀ b, Y5 b → (Ni.y b ∨ Wr.heap.size ≤ b) ∧ b < W5.heap.size) ∧ Ji ⟨Ni.n, Y5⟩ (q ++ [y]) (!b) W5 := by
   intro jump b hb hjump hp3 hp31;have hr := run_endRound (P := E.P) jump f3
   have hrr : ({ ({ rec .ready none with state := .busy } : Loop) with state := if jump.isNone then .ready else .done, pending := jump } : Loop) = rec (if jump.isNone then .ready else .done) jump := by rw [hrec]
   rw [hrr] at hr;have b14 : BelowX (fun b => (C.M b ∨ Y b) ∨ b = lp) Wr (W3.putObj lp (.loop (rec (if jump.isNone then .ready else .done) jump))) := b13.trans (wm _ _ _ (.inr rfl))
   have hlt5 : ∀ b, N3.y b → b < (W3.putObj lp (.loop (rec (if jump.isNone then .ready else .done) jump))).heap.size := fun b hb => by rw [vp]; exact Nat.lt_of_lt_of_le (m7 b hb).1.1.2 hg43.size
   refine ⟨_, _, hr, b14.mono ?_, jump.isNone, U, fun b => N3.y b ∧ w2.heap.size ≤ b, fun b hb' => ⟨?_, hlt5 b hb'.1⟩, ⟨p3.1, N3.y, fun h => hp31 (by rw [hb]; exact h), fun b hb' => ⟨?_, hlt5 b hb'⟩, ?_⟩, hthr _ b14, ?_, (World.putObj_heap_other (by omega)).trans f4, j5, fun b hb' => hb'.2⟩
   ·rintro k ((h | h) | h)
    ·exact .inl (.inl (.inl h))
    ·exact (hYs k h).1.elim (fun h => .inl (.inr h)) .inr
    ·exact .inl (.inl (.inr (.inr (.inr h))))
   ·rcases h3Y b hb'.1 with h | h
    ·exact .inl ((hYs b h).1.resolve_left fun h => by have := hyw b h; have := hb'.2; omega)
    ·exact .inr h
   ·by_cases hw : w2.heap.size ≤ b
    ·exact .inr ⟨hb', hw⟩
    ·rcases h3Y b hb' with h | h
     ·exact .inl ((hYs b h).1.resolve_right fun h => hw (j6 b h))
     ·have := j1.size; omega
   ·have := C.turn _ _ _ _ _ hJ3 (fun b hb => (m7 b hb).1.2) (wm (L := N3.n) W3 lp (.loop (rec (if jump.isNone then .ready else .done) jump)) (m6 lp hlpN));rw [hp3, hb] at this;exact C.take _ NN _ _ _ this fun b hb => .inl (m6 b hb)
   ·rcases hjump with rfl | rfl
    ·exact World.putObj_heap_same (Array.getElem?_eq_some_iff.1 f3).1
    ·exact World.putObj_heap_same (Array.getElem?_eq_some_iff.1 f3).1
  cases e2 with
  | normal =>
   have hq : p3 = (f (q ++ [y]), false) := hq;obtain ⟨v, W5, g1, g2, b, g3, g4⟩ := fin none false rfl (.inl rfl) (by rw [hq]) (fun _ => by rw [hq]);exact ⟨v, W5, g1, g2, b, g3, g4⟩
  | ret =>
   have hq : p3.2 = true := hq;obtain ⟨v, W5, g1, g2, b, g3, g4⟩ := fin (some .ret) true rfl (.inr rfl) hq (fun h => by cases h);exact ⟨v, W5, g1, g2, b, g3, g4⟩
  | _ => exact hq.elim
 ·-- AT THE START
  exact ⟨⟨f [], N.y, fun _ => U, fun b hb => ⟨.inl hb, by have := hyw b hb; omega⟩, C.take ⟨N2, N.y⟩ (fun b => N2 b ∨ False) _ _ _ hJ2 (fun b hb => hb.elim .inl (fun h => h.elim))⟩, BelowX.refl _ w2, hL, hD, (fun _ h => h.elim), fun _ h => h.elim⟩
 ·-- BEHIND THE ITERATOR
  have hback : ∀ (Yi Y : Nat → Prop) (W' : World), (∀ b, Yi b → w2.heap.size ≤ b) → (∀ b, Y b → (N.y b ∨ Yi b) ∧ b < W'.heap.size) → ∀ b, Y b → (b < W'.heap.size ∧ ¬ (N2 b ∨ False)) ∧ (N.y b ∨ w2.heap.size ≤ b) := fun Yi Y W' h6 hY b hb =>
   ⟨⟨(hY b hb).2, hYd ⟨fun _ => False, Yi⟩ Y (fun _ h => h.elim) h6 (fun _ _ h => h) (fun b hb => (hY b hb).1) b hb⟩, (hY b hb).1.imp id fun h => h6 b h⟩
  rintro e W' ⟨⟨v, rfl⟩, Yi, _, ⟨⟨pre, Y, hpre, hY, hJ⟩, j1, j3, j4, j5, j6⟩ | ⟨q, ⟨pre, Y, hpre, hY, hJ⟩, j1, j3, j4, j5, j6⟩⟩
  ·obtain rfl := hpre rfl;simp only [Bool.false_eq_true, if_false] at j3;refine ⟨none, _, ?_, _, _, back _ .ready none _ _ _ _ hJ (fun _ h => h.elim) (hback Yi Y W' j6 hY) j1 j4, hdone⟩;have := run_endLoop (P := E.P) j3 (by rw [hrec]; simp);rw [this, hrec]
  ·simp only [if_true] at j3;have hl := run_endLoop (P := E.P) j3 (by rw [hrec]; simp);refine ⟨some .ret, _, ?_, wpIn_ret ⟨_, _, back _ .done (some .ret) _ _ _ _ hJ (fun _ h => h.elim) (hback Yi Y W' j6 hY) j1 j4, hstop pre⟩⟩;rw [hl];subst hrec
   rfl
theorem qv7 {β : Type} {gop : Operand} {p : Tmp} {assign body : Code} {n : Nat} {gf : FuncId} {caps : List G} {encb : β → Value} {s : ASt} {p0 : List α × Bool} (ys : List β) (l1 : List (Nat × TV)) (f : List β → List α) (gx : β → G) (t1 : (Nat → TV) → β → Nat → TV)
  (hn : s.n = n) (hwk : qir s l1) (hcl : wa l1 [] = true) (hp0 : p0 = (f [], false)) (hk : ze E.P gf) (hp : Nat.blt p n = true) (hg : ASt.eval E ⟨n, xh l1, []⟩ gop = .g (.fn (.func gf) [] caps)) (hseq : SeqN E gf caps encb ys) (hgx : ∀ y w M, (gx y).p w M (encb y))
  (hassign : ∀ y pre lp (C' : ItC E.P l enc xs), IWp (E.rin lp) C' assign (fun e s' p' => e = .normal ∧ s' = ⟨n, t1 (xh l1) y, []⟩ ∧ p' = pre) ⟨n, upd p (.g (gx y)) (xh l1), []⟩ pre)
  (hbody : ∀ q y post, ys = q ++ y :: post → ∀ lp (C' : ItC E.P l enc xs), IWp (E.rin lp) C' body (q2l (f (q ++ [y]))) ⟨n, t1 (xh l1) y, []⟩ (f q, false))
  (hdone : Q .normal ⟨n, xh l1, []⟩ (f ys, false)) (hstop : ∀ pre, Q .ret ⟨n, xh l1, []⟩ (pre, true)) (hbw : E.bow = [] := by rfl) (hmk : E.mks = false := by rfl) (hrn : E.rnd = none := by rfl) (hnb : E.nb = 0 := by rfl) :
  IWp E C (.rangeFunc gop #[p] assign body) Q s p0 := by
 refine q48 (l1 := l1) (m := []) hwk O hcl ?_ hbw;subst hn;subst hp0;exact qqe f gx (t1 (xh l1)) hk (Nat.le_of_ble_eq_true hp) hg hseq hgx hassign hbody hdone hstop hbw hmk hrn hnb
end
section
variable {E : Env} {w0 : World} {M0 : Nat → Prop}
theorem qio {α : Type} {id : Nat} : ∀ (A B : List (Nat × α)), qq (A ++ B) id = (qq A id).or (qq B id)
 | [], _ => by simp [qq]
 | (k, v) :: r, B => by
  simp only [List.cons_append, qq]
  cases Nat.beq k id with
  | true => rfl
  | false => exact qio r B
theorem qg6 {α : Type} {c id : Nat} : ∀ (l : List (Nat × α)), qq (l.filter fun p => !Nat.beq p.1 c) id = if id = c then none else qq l id
 | [] => by simp [qq]
 | (k, v) :: r => by
  have ih := qg6 (c := c) (id := id) r;simp only [List.filter_cons]
  cases hk : Nat.beq k c with
  | true =>
   have := Nat.eq_of_beq_eq_true hk;subst this;simp only [Bool.not_true, Bool.false_eq_true, if_false, ih, qq]
   by_cases h : id = k
   ·rw [if_pos h, if_pos h]
   ·rw [if_neg h, if_neg h]
    rw [show Nat.beq k id = false from by
     cases hb : Nat.beq k id with
     | true => exact absurd (Nat.eq_of_beq_eq_true hb).symm h
     | false => rfl]
    rfl
  | false =>
   simp only [Bool.not_false, if_true, qq, ih]
   cases hb : Nat.beq k id with
   | true =>
    have := Nat.eq_of_beq_eq_true hb;subst this
    have hkc : k ≠ c := fun e => by subst e; rw [Nat.beq_refl] at hk; cases hk
    simp [hkc]
   | false => rfl
def lsO (o : Option (Nat × Nat)) (id : Nat) : Prop := ∃ kb, o = some (id, kb)
def Env.turnO (E : Env) (lp : Nat) (mem : Mem) (o : Option (Nat × Nat)) (x : Nat → Option Own) : Env := ⟨E.P, E.gl, E.orders, (match o with | none => mem.map fun p => (p.1, x p.1) | some (c, kb) => ((mem.filter fun p => !Nat.beq p.1 c).map fun p => (p.1, x p.1)) ++ [(kb, x c)]), some lp, false, E.nb⟩
theorem qfb {lp id : Nat} {o : Option (Nat × Nat)} {mem : Mem} {x : Nat → Option Own} {y : Option Own} (hok : ∀ c kb, o = some (c, kb) → (∃ b, qq mem kb = some b) ∧ kb ≠ c) : qq (E.turnO lp mem o x).bow id = some y ↔ ¬ lsO o id ∧ (∃ b, qq mem id = some b) ∧ y = x id := by
 cases o with
 | none =>
  have : ¬ lsO none id := fun ⟨_, h⟩ => by cases h
  exact ⟨fun h => ⟨this, (vv x).1 h⟩, fun h => (vv x).2 h.2⟩
 | some q =>
  obtain ⟨c, kb⟩ := q;obtain ⟨hkb, hkc⟩ := hok c kb rfl;have hls : ¬ lsO (some (c, kb)) id ↔ id ≠ c := ⟨fun h e => h ⟨kb, by rw [e]⟩, fun h ⟨_, e⟩ => h (by cases e; rfl)⟩;rw [hls];have e : qq (E.turnO lp mem (some (c, kb)) x).bow id = (qq ((mem.filter fun p => !Nat.beq p.1 c).map fun p => (p.1, x p.1)) id).or (qq [(kb, x c)] id) := qio _ _;rw [e]
  constructor
  ·intro h
   cases hq : qq ((mem.filter fun p => !Nat.beq p.1 c).map fun p => (p.1, x p.1)) id with
   | some v =>
    rw [hq] at h
    cases h
    obtain ⟨⟨b, h1⟩, h2⟩ := (vv x).1 hq;rw [qg6] at h1
    by_cases hc : id = c
    ·rw [if_pos hc] at h1; cases h1
    ·rw [if_neg hc] at h1; exact ⟨hc, ⟨b, h1⟩, h2⟩
   | none =>
    rw [hq] at h
    exfalso
    simp only [qq] at h
    cases hk : Nat.beq kb id with
    | false => rw [hk] at h; cases h
    | true =>
     have := Nat.eq_of_beq_eq_true hk;subst this;obtain ⟨b, hb⟩ := hkb;have : qq ((mem.filter fun p => !Nat.beq p.1 c).map fun p => (p.1, x p.1)) kb = some (x kb) := (vv x).2 ⟨⟨b, by rw [qg6, if_neg hkc]; exact hb⟩, rfl⟩;rw [hq] at this; cases this
  ·rintro ⟨h1, ⟨b, h2⟩, rfl⟩;rw [(vv x).2 ⟨⟨b, by rw [qg6, if_neg h1]; exact h2⟩, rfl⟩]
   rfl
theorem qmy {mem : Mem} {ρ : Rho} {W : World} {Mo : Nat → Prop} {x : Nat → Option Own} (lp : Nat) (o : Option (Nat × Nat)) (hMo : ∀ b, Mo b → b < W.heap.size) (hgl : GlOk E W Mo)
  (hdom : ∀ id y, ρ id = some y → ∃ blk, qq mem id = some blk) (hx : ∀ id blk, qq mem id = some blk → ρ id = some (x id)) (hsub : ∀ id ow, ρ id = some (some ow) → Mo ow.b)
  (hinj : ∀ id id' ow ow', ρ id = some (some ow) → ρ id' = some (some ow') → ow.b = ow'.b → id = id') (hblk : ∀ id blk, qq mem id = some blk → BRel W Mo ρ id blk) (hnb : E.nb ≤ W.heap.size)
  (hok : ∀ c kb, o = some (c, kb) → (∃ b, qq mem kb = some b) ∧ kb ≠ c) (hxc : ∀ c ow, x c = some ow → ρ c = some (some ow)) :
  qz (fun b => Mo b ∧ ¬ ∃ id ow, ¬ lsO o id ∧ ρ id = some (some ow) ∧ ow.b = b) ρ = Mo ∧ (∀ b, (E.turnO lp mem o x).lent b ↔ ∃ id ow, ρ id = some (some ow) ∧ ow.b = b) ∧
  MRel (E.turnO lp mem o x) W (fun b => Mo b ∧ ¬ ∃ id ow, ¬ lsO o id ∧ ρ id = some (some ow) ∧ ow.b = b) ρ mem W := by
 have hown : qz (fun b => Mo b ∧ ¬ ∃ id ow, ¬ lsO o id ∧ ρ id = some (some ow) ∧ ow.b = b) ρ = Mo := by
  funext b
  apply propext
  constructor
  ·rintro (h | ⟨id, o, h, rfl⟩)
   ·exact h.1
   ·exact hsub _ _ h
  ·intro h
   by_cases hb : ∃ id ow, ¬ lsO o id ∧ ρ id = some (some ow) ∧ ow.b = b
   ·obtain ⟨id, ow, _, h1, h2⟩ := hb; exact .inr ⟨id, ow, h1, h2⟩
   ·exact .inl ⟨h, hb⟩
 have hlent : ∀ b, (E.turnO lp mem o x).lent b ↔ ∃ id ow, ρ id = some (some ow) ∧ ow.b = b := by
  have hin : ∀ id ow, ρ id = some (some ow) → (∃ blk, qq mem id = some blk) ∧ x id = some ow := fun id ow h1 => by
   obtain ⟨blk, hb⟩ := hdom id _ h1;have h3 := hx id blk hb;rw [h1] at h3;exact ⟨⟨blk, hb⟩, by simpa using h3.symm⟩
  have hout : ∀ id ow, (id, some ow) ∈ (mem.map fun p => (p.1, x p.1)) → ρ id = some (some ow) := fun id ow h => by
   obtain ⟨⟨b', h4⟩, h5⟩ := (vv x).1 (qnx h);rw [h5]; exact hx id b' h4
  intro b
  constructor
  ·rintro ⟨id, ow, h1, h2⟩
   cases o with
   | none => exact ⟨id, ow, hout id ow h1, h2⟩
   | some q =>
    obtain ⟨c, kb⟩ := q
    rcases List.mem_append.1 h1 with h1 | h1
    ·obtain ⟨z, hz, e⟩ := List.mem_map.1 h1;exact ⟨id, ow, hout id ow (List.mem_map.2 ⟨z, (List.mem_filter.1 hz).1, e⟩), h2⟩
    ·have h1 := List.mem_singleton.1 h1;simp only [Prod.mk.injEq] at h1;exact ⟨c, ow, hxc c ow h1.2.symm, h2⟩
  ·rintro ⟨id, ow, h1, h2⟩;obtain ⟨hb, h3⟩ := hin id ow h1
   by_cases hc : lsO o id
   ·obtain ⟨kb, rfl⟩ := hc;exact ⟨kb, ow, List.mem_append.2 (.inr (by rw [h3]; exact List.mem_cons_self)), h2⟩
   ·exact ⟨id, ow, ji _ ((qfb hok).2 ⟨hc, hb, h3.symm⟩), h2⟩
 have hkeep : ∀ id y, qq (E.turnO lp mem o x).bow id = some y → ¬ lsO o id ∧ ρ id = some y := fun id y h => by
  obtain ⟨h1, ⟨b, h2⟩, rfl⟩ := (qfb hok).1 h;exact ⟨h1, hx id b h2⟩
 refine ⟨hown, hlent, BelowX.refl _ W, fun b h => hMo b h.1, by rw [hown]; exact hgl, hdom, fun id ow ho => ⟨.inr ((hlent _).2 ⟨id, ow, ho, rfl⟩), hMo _ (hsub _ _ ho)⟩, hinj, fun id y h => (hkeep id y h).2, ⟨?_, hnb⟩, by rw [hown]; exact hblk⟩;rintro b ⟨id, ow, h1, h2⟩ hM;obtain ⟨h3, h4⟩ := hkeep id _ h1;exact hM.2 ⟨id, ow, h3, h4, h2⟩
theorem BRel.clo {w : World} {M M' : Nat → Prop} {ρ ρ' : Rho} {m : Mem} {id : Nat} {blk : Blk} (hi : (qq m id).isSome = true) (hc : qnl m blk = true) (h : BRel w M ρ id blk) (hM : ∀ b, M' b → M b) (hρ : ∀ id, (qq m id).isSome = true → ρ' id = ρ id) : BRel w M' ρ' id blk := by
 cases blk with
 | box cs =>
  obtain ⟨ow, e, vs, g1, g2, g3, g4⟩ := h;exact ⟨ow, e, vs, by rw [hρ id hi]; exact g1, g2, g3, g4.sub hM hρ (by simpa [qnl] using hc)⟩
 | arr e k xs =>
  rcases h with ⟨g1, g2⟩ | ⟨ow, vs, g1, g2, g3, g4, g5, g6, g7⟩
  ·exact .inl ⟨by rw [hρ id hi]; exact g1, g2⟩
  ·exact .inr ⟨ow, vs, by rw [hρ id hi]; exact g1, g2, g3, g4, g5, g6, g7.mono (fun _ _ _ => rfl) (fun b _ => hM b)⟩
 | mp es =>
  obtain ⟨ow, en, cl, g1, g2, g3, g4⟩ := h;exact ⟨ow, en, cl, by rw [hρ id hi]; exact g1, g2, g3.mono (fun _ _ _ => rfl) (fun b _ => hM b), g4⟩
 | obj o =>
  obtain ⟨ow, g1, g2, g3⟩ := h;exact ⟨ow, by rw [hρ id hi]; exact g1, g2, g3⟩
 | mit es seen =>
  obtain ⟨ow, g1, g2, g3⟩ := h;exact ⟨ow, by rw [hρ id hi]; exact g1, g2, g3.mono rfl (fun _ _ _ => rfl) (fun b _ => hM b)⟩
 | gone => trivial
def JmL (ρ0 : Rho) (Mo N Y : Nat → Prop) (o : Option (Nat × Nat)) (lp D : Nat) (w : World) (st : Obj) (m : Mem) (W : World) : Prop :=
 BelowX (fun b => b = lp ∨ ∃ id ow, ρ0 id = some (some ow) ∧ ow.b = b) w W ∧ W.heap[lp]? = some st ∧ W.heap[D]? = some (.deferred (some [])) ∧ (∀ b, N b → w.heap.size ≤ b) ∧ (∀ b, Y b → w.heap.size ≤ b ∧ b < W.heap.size) ∧
 ∃ ρ : Rho, (∀ id, ¬ lsO o id → ρ id = ρ0 id) ∧ (∀ id y, ρ id = some y → ∃ blk, qq m id = some blk) ∧ (∀ id id' ow ow', ρ id = some (some ow) → ρ id' = some (some ow') → ow.b = ow'.b → id = id') ∧
  (∀ id ow, ρ id = some (some ow) → (∃ id0 ow0, ρ0 id0 = some (some ow0) ∧ ow0.b = ow.b) ∨ Y ow.b) ∧ ∀ id blk, qq m id = some blk → BRel W (fun b => (Mo b ∨ N b) ∨ Y b) ρ id blk
theorem JmL.turn {ρ0 : Rho} {Mo N Y : Nat → Prop} {o : Option (Nat × Nat)} {lp D : Nat} {w W W' : World} {st : Obj} {m : Mem} (hsub : ∀ id ow, ρ0 id = some (some ow) → ow.b < w.heap.size) (hlp : lp < w.heap.size ∧ D < w.heap.size) (h : JmL ρ0 Mo N Y o lp D w st m W) (hd : ∀ b, Y b → ¬ N b) (hB : BelowX N W W') : JmL ρ0 Mo N Y o lp D w st m W' := by
 obtain ⟨h1, h3, h4, h5, h6, ρ, r1, r2, r3, r4, r5⟩ := h;refine ⟨⟨hB.os.trans h1.os, hB.tape.trans h1.tape, hB.output.trans h1.output, Nat.le_trans h1.size hB.size, fun k hk hl => ?_⟩, ?_, ?_, h5, fun b hb => ⟨(h6 b hb).1, Nat.lt_of_lt_of_le (h6 b hb).2 hB.size⟩, ρ, r1, r2, r3, r4, fun id blk hb => ?_⟩
 ·exact (hB.block k (Nat.lt_of_lt_of_le hk h1.size) (fun h => by have := h5 k h; omega)).trans (h1.block k hk hl)
 ·exact (hB.block lp (Array.getElem?_eq_some_iff.1 h3).1 (fun h => by have := h5 _ h; omega)).trans h3
 ·exact (hB.block D (Array.getElem?_eq_some_iff.1 h4).1 (fun h => by have := h5 _ h; omega)).trans h4
 ·refine (r5 id blk hb).mono none (by simp) (z4 _) (fun ow ho => ?_) (fun b hb hno => hB.block b hb fun h => hno (.inl (.inr h))) (fun _ _ h => h) (fun _ _ _ => U)
  rcases r4 id ow ho with ⟨i0, o0, q1, q2⟩ | q
  ·have := hsub i0 o0 q1
   exact hB.block _ (by have := h1.size; omega) fun h => by have := h5 _ h; omega
  ·exact hB.block _ (h6 _ q).2 (hd _ q)
theorem JmL.take {ρ0 : Rho} {Mo N N' Y : Nat → Prop} {o : Option (Nat × Nat)} {lp D : Nat} {w W : World} {st : Obj} {m : Mem} (hN : ∀ b, N' b → N b ∨ W.heap.size ≤ b) (h : JmL ρ0 Mo N Y o lp D w st m W) : JmL ρ0 Mo N' Y o lp D w st m W := by
 obtain ⟨h1, h3, h4, h5, h6, ρ, r1, r2, r3, r4, r5⟩ := h;refine ⟨h1, h3, h4, fun b hb => ?_, h6, ρ, r1, r2, r3, r4, fun id blk hb => ?_⟩
 ·rcases hN b hb with h | h
  ·exact h5 b h
  ·exact Nat.le_trans h1.size h
 ·exact (r5 id blk hb).mono none (by simp) (z4 _) (fun _ _ => U) (fun _ _ _ => U) (fun b hb h => h.imp (Or.imp (fun h => h) fun h => (hN b h).resolve_right (by omega)) (fun h => h)) (fun _ _ _ => U)
def qcv (m : Mem) : Bool := m.all (fun q => q.2.live) && m.all (fun q => qnl m q.2)
def q8c {α γ : Type} (m : γ → Mem) (I : List α → γ → Prop) (Px : Code → List α → Mem → Prop) (m0 : Mem) (pre : List α) : Exit → ASt → Prop
 | .normal, s => ∃ g, I pre g ∧ MemL s (m g)
 | .ret, s => ∃ mx, Px .ret pre mx ∧ qbo m0 mx ∧ qcv mx = true ∧ MemL s mx
 | .exit id, s => ∃ mx, Px (.exit id) pre mx ∧ qbo m0 mx ∧ qcv mx = true ∧ MemL s mx
 | _, _ => False
theorem qg7 {α γ : Type} {gop : Operand} {p : Tmp} {assign body : Code} {Q : Exit → ASt → Prop} {n : Nat} {t : Nat → TV} {gf : FuncId} {caps : List G} {enc : α → Value} {xs : List α}
  (o : Option (Nat × Nat)) (m : γ → Mem) (I : List α → γ → Prop) (g0 : γ) (S1 : γ → α → ASt) (Px : Code → List α → Mem → Prop)
  (hmk : E.mks = true) (hrn : E.rnd = none) (hk : ze E.P gf) (hp : p < n)
  (hg : ASt.eval E ⟨n, t, m g0⟩ gop = .g (.fn (.func gf) [] caps)) (hseq : SeqN E gf caps enc xs) (gx : α → G) (hgx : ∀ x w M, (gx x).p w M (enc x))
  (hg0 : I [] g0) (hids : ∀ g, qbo (m g0) (m g)) (hgood : ∀ g, qcv (m g) = true)
  (hassign : ∀ pre x post g, xs = pre ++ x :: post → I pre g → ∀ lp w1 M1 x1, AWp (E.turnO lp (m g) o x1) w1 M1 assign (fun e s' => e = .normal ∧ s' = S1 g x) ⟨n, upd p (.g (gx x)) t, m g⟩)
  (hlive1 : ∀ g x, q47 (S1 g x).mem = true)
  (hbody : ∀ pre x post g, xs = pre ++ x :: post → I pre g → ∀ lp w1 M1 x1, AWp (E.turnO lp (S1 g x).mem o x1) w1 M1 body (q8c m I Px (m g0) (pre ++ [x])) (S1 g x))
  (hkb : ∀ g c kb, o = some (c, kb) → (∃ b, qq (m g) kb = some b) ∧ kb ≠ c) (hkb1 : ∀ g x c kb, o = some (c, kb) → (∃ b, qq (S1 g x).mem kb = some b) ∧ kb ≠ c) (hbc : ∀ id, lsO o id → qq E.bow id = none) (htc : ∀ i, noref (o.map (·.1)) (t i) = true)
  (hdone : ∀ g, I xs g → Q .normal ⟨n, t, m g⟩)
  (hstop : ∀ co pre mx, Px co pre mx → AWp E w0 M0 co Q ⟨n, t, mx⟩) : AWp E w0 M0 (.rangeFunc gop #[p] assign body) Q ⟨n, t, m g0⟩ := by
 intro a w ha;obtain ⟨ρ, hm, hmks, ht⟩ := ha.ex
 have hF : E.F = Fence.wide := by unfold Env.F; rw [hrn]; rfl
 obtain ⟨fs, cs, hge, hfs, hcs⟩ : (G.fn (.func gf) [] caps).p w (qz M0 ρ) (a.eval gop) := by
  have := qjl hm ht gop;rw [hg] at this;exact this
 obtain rfl : fs = [] := by cases fs with
  | nil => rfl
  | cons => exact hfs.elim
 obtain ⟨fng, k1, k2, k3⟩ := hk;refine wpIn_rangeFunc ?_;intro fn _;obtain ⟨rec, hrec⟩ : ∃ rec : LoopState → Option Code → Loop, rec = fun st pe => { state := st, pending := pe, fn, tmps := a.tmps, params := #[p], assign, body, defers := w.heap.size } := ⟨_, rfl⟩;obtain ⟨w2, hw2⟩ : ∃ w2, (w.alloc (.deferred (some []))).alloc (.loop (rec .ready none)) = w2 := ⟨_, rfl⟩
 have hgr : Grow w w2 := by rw [← hw2]; exact (Grow.alloc w _).trans (Grow.alloc _ _)
 have hsz : w2.heap.size = w.heap.size + 2 := by rw [← hw2]; simp
 have hL : w2.heap[w.heap.size + 1]? = some (.loop (rec .ready none)) := by
  rw [← hw2]; have := World.alloc_heap_new (w.alloc (.deferred (some []))) (.loop (rec .ready none)); rwa [World.size_alloc] at this
 have hD : w2.heap[w.heap.size]? = some (.deferred (some [])) := by
  rw [← hw2]; exact (RowKit.Below.heap_alloc _ _ _ (by simp)).trans (World.alloc_heap_new w _)
 have hρlt : ∀ id ow, ρ id = some (some ow) → ow.b < w.heap.size := fun id ow h => (hm.fresh id ow h).2
 have hrun : (Instr.enterLoop fn a.tmps #[p] assign body E.F.round).run E.P w = .ok (w.heap.size + 1, [{ target := .collected w.heap.size, args := #[] }]) w2 := by
  rw [← hw2, hrec, hF]; exact run_enterLoop_outer _ _ _ _ _
 clear hw2;generalize hDD : w.heap.size = D at *;generalize hlpp : D + 1 = lp at *
 let Mo : Nat → Prop := fun b => qz M0 ρ b ∨ b = D ∨ b = lp
 let L : Nat → Prop := fun b => b = lp ∨ ∃ id ow, ρ id = some (some ow) ∧ ow.b = b
 have hLMo : ∀ b, L b → Mo b := by
  rintro b (h | ⟨id, ow, h, rfl⟩)
  ·exact .inr (.inr h)
  ·exact .inl (.inr ⟨id, ow, h, U⟩)
 have hsubMo : ∀ id ow, ρ id = some (some ow) → Mo ow.b := fun id ow h => .inl (.inr ⟨id, ow, h, rfl⟩)
 have hMow : ∀ b, Mo b → b < w2.heap.size := by
  rintro b (h | h | h)
  ·have := hm.lt b h; omega
  ·omega
  ·omega
 have hMoSub : ∀ b, b < w.heap.size → Mo b → qz M0 ρ b := by
  rintro b hb (h | h | h)
  ·exact h
  ·omega
  ·omega
 have hgl2 : GlOk E w2 Mo := fun g vs hgv => by
  obtain ⟨⟨g1, g2⟩, g3⟩ := hm.glob g vs hgv;refine ⟨⟨?_, by omega⟩, g3.mono hgr.hh hMoSub g1⟩;rintro (h | h | h)
  ·exact g1 h
  ·omega
  ·omega
 have hdom : ∀ gg id y, ρ id = some y → ∃ blk, qq (m gg) id = some blk := fun gg id y h => by
  rw [qjx, hids gg, ← qjx]; exact hm.dom id y h
 have hhW : ∀ W, BelowX L w2 W → ∀ b, b < w2.heap.size → ¬ Mo b → W.heap[b]? = w2.heap[b]? := fun W h b hb hno => h.block b hb fun hl => hno (hLMo b hl)
 have hYsub : ∀ (N Y : Nat → Prop), (∀ b, N b → w2.heap.size ≤ b) → (∀ b, Y b → w2.heap.size ≤ b) → ∀ b, b < w2.heap.size → ((Mo b ∨ N b) ∨ Y b) → Mo b := by
  rintro N Y hN hY b hb ((h | h) | h)
  ·exact h
  ·have := hN b h; omega
  ·have := hY b h; omega
 have hglN : ∀ W (N Y : Nat → Prop), BelowX L w2 W → (∀ b, N b → w2.heap.size ≤ b) → (∀ b, Y b → w2.heap.size ≤ b) → GlOk E W (fun b => (Mo b ∨ N b) ∨ Y b) := fun W N Y h hN hY g vs hgv => by
  obtain ⟨⟨g1, g2⟩, g3⟩ := hgl2 g vs hgv;have hs := hYsub N Y hN hY;exact ⟨⟨fun k => g1 (hs g g2 k), by have := h.size; omega⟩, g3.mono (fun b hb hno => hhW W h b hb hno) hs g1⟩
 have hρk : ∀ (ρ1 : Rho), (∀ id, ¬ lsO o id → ρ1 id = ρ id) → ∀ id, some id ≠ o.map (·.1) → ρ id ≠ none → ρ1 id = ρ id := fun ρ1 h id hi _ => h id fun ⟨_, e⟩ => hi (by rw [e]; rfl)
 have htWN : ∀ W (N Y : Nat → Prop) (ρ1 : Rho), BelowX L w2 W → (∀ b, N b → w2.heap.size ≤ b) → (∀ b, Y b → w2.heap.size ≤ b) → (∀ id, ¬ lsO o id → ρ1 id = ρ id) → ∀ i, TRel W (fun b => (Mo b ∨ N b) ∨ Y b) ρ1 (t i) (a.tmps.getD i undef) := fun W N Y ρ1 h hN hY hρ1 i =>
  (((ht i).mono none (by cases ASt.get ⟨n, t, m g0⟩ i <;> rfl) hgr.hh hMoSub (fun _ _ _ => rfl) : TRel w2 Mo ρ (t i) (a.tmps.getD i undef))).mono (o.map (·.1)) (htc i) (hhW W h) (hYsub N Y hN hY) (hρk ρ1 hρ1)
 -- behind the loop
 have back : ∀ mx W' st pe N Y, qbo (m g0) mx → JmL ρ Mo N Y o lp D w2 (.loop (rec st pe)) mx W' →
   ARel E w0 M0 ⟨n, t, mx⟩ { a with defers := { target := .collected D, args := #[] } :: a.defers } (W'.putObj lp (.loop { rec st pe with state := .exhausted })) := by
  rintro mx W' st pe N Y hs ⟨j1, j3, j4, j5, j6, ρ1, r1, r2, r3, r4, r5⟩;have hfull : BelowX L w2 (W'.putObj lp (.loop { rec st pe with state := .exhausted })) := j1.trans (wm _ _ _ (.inl rfl))
  have hhw : ∀ b, b < w.heap.size → ¬ qz M0 ρ b → (W'.putObj lp (.loop { rec st pe with state := .exhausted })).heap[b]? = w.heap[b]? := fun b hb hno =>
   (hhW _ hfull b (by omega) fun h => hno (hMoSub b hb h)).trans (hgr.block b hb)
  have hsize : w.heap.size ≤ (W'.putObj lp (.loop { rec st pe with state := .exhausted })).heap.size := by have := hfull.size; omega
  have hsub1 : ∀ b, b < w.heap.size → qz M0 ρ1 b → qz M0 ρ b := by
   rintro b hb (h | ⟨id, ow, h, rfl⟩)
   ·exact .inl h
   ·rcases r4 id ow h with ⟨i0, o0, q1, q2⟩ | q
    ·exact .inr ⟨i0, o0, q1, q2⟩
    ·have := (j6 _ q).1; omega
  have hown1 : ∀ id ow, ρ1 id = some (some ow) → (w0.heap.size ≤ ow.b ∨ E.lent ow.b) ∧ ow.b < W'.heap.size ∧ ow.b ≠ lp := fun id ow h => by
   rcases r4 id ow h with ⟨i0, o0, q1, q2⟩ | q
   ·rw [← q2];have := hρlt i0 o0 q1;have := j1.size;exact ⟨(hm.fresh i0 o0 q1).1, by omega, by omega⟩
   ·have h6 := j6 _ q;have := hm.below.size;exact ⟨.inl (by omega), h6.2, by omega⟩
  refine ⟨(fun h => by rw [hmk] at h; cases h), ha.size, ρ1, ⟨?_, hm.m0, ?_, ?_, ?_, r3, ?_, hm.lentM, ?_⟩, ?_, fun i => ?_⟩
  ·refine ⟨hfull.os.trans (hgr.os.trans hm.below.os), hfull.tape.trans (hgr.tape.trans hm.below.tape), hfull.output.trans (hgr.output.trans hm.below.output), Nat.le_trans hm.below.size hsize, fun k hk' hl => ?_⟩;have hkw := Nat.lt_of_lt_of_le hk' hm.below.size;refine (hfull.block k (by omega) ?_).trans ((hgr.block k hkw).trans (hm.below.block k hk' hl));rintro (h | ⟨id, ow, h, rfl⟩)
   ·omega
   ·rcases (hm.fresh id ow h).1 with g | g
    ·omega
    ·exact hl g
  ·intro g vs hgv;obtain ⟨⟨g1, g2⟩, g3⟩ := hm.glob g vs hgv;exact ⟨⟨fun k => g1 (hsub1 g g2 k), by omega⟩, g3.mono hhw hsub1 g1⟩
  ·exact r2
  ·exact fun id ow h => ⟨(hown1 id ow h).1, by rw [vp]; exact (hown1 id ow h).2.1⟩
  ·intro id x h
   have hne : ¬ lsO o id := fun e => by rw [hbc id e] at h; cases h
   rw [r1 id hne]; exact hm.keep id x h
  ·intro id blk hb;refine (r5 id blk hb).mono none (by simp) (z4 _) (fun ow ho => World.putObj_heap_other (hown1 id ow ho).2.2) (fun b _ hno => World.putObj_heap_other ?_) (fun b _ h => ?_) (fun _ _ _ => U)
   ·intro e; exact hno (.inl (.inl (.inr (.inr e))))
   ·rcases h with h | ⟨id2, ow2, h, rfl⟩
    ·exact .inl (.inl (.inl (.inl h)))
    ·rcases r4 id2 ow2 h with ⟨i0, o0, q1, q2⟩ | q
     ·exact .inl (.inl (.inl (.inr ⟨i0, o0, q1, q2⟩)))
     ·exact .inr q
  ·refine ⟨List.nodup_cons.2 ⟨fun hd => ?_, hmks.1⟩, fun d hd => ?_⟩
   ·obtain ⟨D', q1, q2, q3⟩ := hmks.2 _ hd;have hq := (Array.getElem?_eq_some_iff.1 q3.2).1;simp only [Deferred.mk.injEq, Target.collected.injEq, and_true] at q1
    omega
   rcases List.mem_cons.1 hd with rfl | hd
   ·refine ⟨D, U, by have := hm.below.size; omega, ?_, (World.putObj_heap_other (by omega)).trans j4⟩;rintro (h | ⟨id, ow, h, e⟩)
    ·have := hm.m0 D h; have := hm.below.size; omega
    ·rcases r4 id ow h with ⟨i0, o0, q1, q2⟩ | q
     ·have := hρlt i0 o0 q1; omega
     ·have := (j6 _ q).1; omega
   ·obtain ⟨D', q1, q2, q3⟩ := hmks.2 d hd;exact ⟨D', q1, q2, (G.mark D').mono q3 hhw hsub1⟩
  ·exact (ht i).mono (o.map (·.1)) (htc i) hhw hsub1 (hρk ρ1 r1)
 refine ⟨lp, [{ target := .collected D, args := #[] }], w2, { target := .fn (.func gf) cs.toArray, args := #[.func (.yield lp) #[] #[]] }, w2, gf,
  #[.func (.yield lp) #[] #[]] ++ cs.toArray, w2, hrun, ?_, fun _ _ => trivial, ?_, qjo, ?_⟩
 ·simp only [resolve, hge]
  simp [go_sem]
 ·simp [invoke, go_sem, kr k1 k2 k3]
 rw [hF]
 refine (hseq w2 Mo cs lp (fun N pre st W => (st = false → ∃ gg, I pre gg ∧ JmL ρ Mo N.n N.y o lp D w2 (.loop (rec .ready none)) (m gg) W) ∧
  (st = true → ∃ co mx, Px co pre mx ∧ qbo (m g0) mx ∧ JmL ρ Mo N.n N.y o lp D w2 (.loop (rec .done (some co))) mx W)) hMow hgl2 (hcs.mono hgr.hh hMoSub) ?_ ?_ ?_ ?_).mono ?_
 ·rintro N pre st W W' ⟨h1, h2⟩ hd hB;exact ⟨fun h => by obtain ⟨gg, hI, hj⟩ := h1 h; exact ⟨gg, hI, hj.turn (fun id ow ho => by have := hρlt id ow ho; omega) ⟨by omega, by omega⟩ hd hB⟩, fun h => by obtain ⟨co, mx, q1, q2, hj⟩ := h2 h; exact ⟨co, mx, q1, q2, hj.turn (fun id ow ho => by have := hρlt id ow ho; omega) ⟨by omega, by omega⟩ hd hB⟩⟩
 ·rintro N N' pre st W ⟨h1, h2⟩ hN;exact ⟨fun h => by obtain ⟨gg, hI, hj⟩ := h1 h; exact ⟨gg, hI, hj.take hN⟩, fun h => by obtain ⟨co, mx, q1, q2, hj⟩ := h2 h; exact ⟨co, mx, q1, q2, hj.take hN⟩⟩
 ·-- ONE ROUND
  rintro ⟨N, Y⟩ pre x post W1 hxs _ hN _ ⟨hst, _⟩;obtain ⟨gg, hI, j1, j3, j4, j5, j6, ρ1, r1, r2, r3, r4, r5⟩ := hst rfl;have hN : ∀ b, N b → w2.heap.size ≤ b ∧ b < W1.heap.size := hN;have j5 : ∀ b, N b → w2.heap.size ≤ b := j5;have j6 : ∀ b, Y b → w2.heap.size ≤ b ∧ b < W1.heap.size := j6;have j6' : ∀ b, Y b → w2.heap.size ≤ b := fun b h => (j6 b h).1;have r4 : ∀ id ow, ρ1 id = some (some ow) → (∃ id0 ow0, ρ id0 = some (some ow0) ∧ ow0.b = ow.b) ∨ Y ow.b := r4;have r5 : ∀ id blk, qq (m gg) id = some blk → BRel W1 (fun b => (Mo b ∨ N b) ∨ Y b) ρ1 id blk := r5;have hlpW1 : lp < W1.heap.size := (Array.getElem?_eq_some_iff.1 j3).1;have hy := run_yield (P := E.P) (args := #[enc x]) j3 (by rw [hrec]; rfl);refine ⟨_, _, _, _, hy, roundIn_of_wpIn O ?_⟩;clear hy
  have hfold : (((rec .ready none).params.zip #[enc x]).foldl (fun tmps (t, a) => tmps.setIfInBounds t a) (rec .ready none).tmps) = (a.put (some p) (enc x)).tmps := by rw [hrec]; simp [Act.put]
  have has : (rec .ready none).assign = assign := by rw [hrec]
  have hbo : (rec .ready none).body = body := by rw [hrec]
  rw [hfold, has, hbo]
  have hnbW : E.nb ≤ W1.heap.size := by have h1 := hm.lentM.2; have h2 := hm.below.size; have h3 := hgr.size; have h4 := j1.size; omega
  have hsubm : ∀ id ow, ρ1 id = some (some ow) → (fun b => (Mo b ∨ N b) ∨ Y b) ow.b := fun id ow h => by
   rcases r4 id ow h with ⟨i0, o0, q1, q2⟩ | q
   ·exact .inl (.inl (q2 ▸ hsubMo i0 o0 q1))
   ·exact .inr q
  have hx1 : ∀ id blk, qq (m gg) id = some blk → ρ1 id = some ((ρ1 id).getD none) := fun id blk h => by
   have h1 := hgood gg;simp only [qcv, Bool.and_eq_true] at h1;obtain ⟨y, hy⟩ := (r5 id blk h).has (List.all_eq_true.1 h1.1 _ (ji _ h));rw [hy]; rfl
  have hxc1 : ∀ (ρ' : Rho) c ow, (ρ' c).getD none = some ow → ρ' c = some (some ow) := fun ρ' c ow h => by
   cases hq : ρ' c with
   | none => rw [hq] at h; cases h
   | some z => rw [hq] at h; simp only [Option.getD_some] at h; rw [h]
  have hlow : ∀ id ow, ρ1 id = some (some ow) → ow.b ≠ lp ∧ ow.b ≠ D := fun id ow h => by
   rcases r4 id ow h with ⟨i0, o0, q1, q2⟩ | q
   ·have := hρlt i0 o0 q1; omega
   ·have := j6' _ q; omega
  obtain ⟨o1, l1, mr1⟩ := qmy (E := E) (x := fun id => (ρ1 id).getD none) lp o (mem := m gg) (W := W1) (Mo := fun b => (Mo b ∨ N b) ∨ Y b) (fun b h => h.elim (fun h => h.elim (fun h => Nat.lt_of_lt_of_le (hMow b h) j1.size) (fun h => (hN b h).2)) (fun h => (j6 b h).2)) (hglN W1 N Y j1 j5 j6') r2 hx1 hsubm r3 r5 hnbW (hkb gg) (hxc1 ρ1);generalize hM1 : (fun b => ((Mo b ∨ N b) ∨ Y b) ∧ ¬ ∃ id ow, ¬ lsO o id ∧ ρ1 id = some (some ow) ∧ ow.b = b) = M1 at *
  have ha1 : ARel (E.turnO lp (m gg) o fun id => (ρ1 id).getD none) W1 M1 ⟨n, upd p (.g (gx x)) t, m gg⟩ { tmps := (a.put (some p) (enc x)).tmps, defers := [] } W1 := by
   refine ⟨fun _ => U, by rw [qjn]; exact ha.size, ρ1, mr1, Marks.nil, fun i => ?_⟩;rw [o1];show TRel W1 (fun b => (Mo b ∨ N b) ∨ Y b) ρ1 (upd p (.g (gx x)) t i) ((a.put (some p) (enc x)).tmps.getD i undef);rw [qjm a (some p) (enc x) (fun d h => by cases h; rw [ha.size]; exact hp), qux]
   by_cases hpi : p = i
   ·rw [if_pos hpi, if_pos (by rw [hpi])]; exact hgx x _ _
   ·rw [if_neg hpi, if_neg (fun h => hpi (by cases h; rfl))]; exact htWN W1 N Y ρ1 j1 j5 j6' r1 i
  refine wpIn_mono (hassign pre x post gg hxs hI lp W1 M1 _ _ W1 ha1) ?_;rintro e a1 W2 ⟨s', ha2, rfl, rfl⟩;obtain ⟨ρ2, hm2, _, ht2⟩ := ha2.ex
  have hnl : ¬ (E.turnO lp (m gg) o fun id => (ρ1 id).getD none).lent lp := fun h => by obtain ⟨id, ow, h1, h2⟩ := (l1 _).1 h; exact (hlow id ow h1).1 h2
  have hnD : ¬ (E.turnO lp (m gg) o fun id => (ρ1 id).getD none).lent D := fun h => by obtain ⟨id, ow, h1, h2⟩ := (l1 _).1 h; exact (hlow id ow h1).2 h2
  have e3 : W2.heap[lp]? = some (.loop (rec .ready none)) := (hm2.below.block lp hlpW1 hnl).trans j3;have e4 : W2.heap[D]? = some (.deferred (some [])) := (hm2.below.block D (by omega) hnD).trans j4;refine ⟨_, run_beginRound e3 (by rw [hrec]), ?_⟩;have hlpW2 : lp < W2.heap.size := Nat.lt_of_lt_of_le hlpW1 hm2.below.size;have hρ2 : ∀ id y, ¬ lsO o id → ρ1 id = some y → ρ2 id = some y := fun id y hi h => hm2.keep id y ((qfb (hkb gg)).2 ⟨hi, r2 id y h, by simp only [h, Option.getD_some]⟩)
  have hne2 : ∀ id ow, ρ2 id = some (some ow) → ow.b ≠ lp := fun id ow h e => by
   rcases (hm2.fresh id ow h).1 with g | g
   ·omega
   ·exact hnl (e ▸ g)
  have hne2D : ∀ id ow, ρ2 id = some (some ow) → ow.b ≠ D := fun id ow h e => by
   rcases (hm2.fresh id ow h).1 with g | g
   ·omega
   ·exact hnD (e ▸ g)
  have hMM : ∀ b, ((Mo b ∨ N b) ∨ Y b) → qz M1 ρ2 b := fun b h => by
   by_cases hs : ∃ id ow, ¬ lsO o id ∧ ρ1 id = some (some ow) ∧ ow.b = b
   ·obtain ⟨id, ow, h1, h2, h3⟩ := hs;exact .inr ⟨id, ow, hρ2 id _ h1 h2, h3⟩
   ·exact .inl (by rw [← hM1]; exact ⟨h, hs⟩)
  have hh2 : ∀ b, b < W2.heap.size → ¬ qz M1 ρ2 b → (W2.putObj lp (.loop { rec .ready none with state := .busy })).heap[b]? = W2.heap[b]? := fun b _ hno =>
   World.putObj_heap_other fun e => hno (by rw [e]; exact hMM lp (.inl (.inl (.inr (.inr rfl)))))
  have hx2 : ∀ id blk, qq (S1 gg x).mem id = some blk → ρ2 id = some ((ρ2 id).getD none) := fun id blk h => by
   obtain ⟨y, hy⟩ := (hm2.blk id blk h).has (List.all_eq_true.1 (hlive1 gg x) _ (ji _ h));rw [hy]; rfl
  obtain ⟨o2, l2, mr2⟩ := qmy (E := E) (x := fun id => (ρ2 id).getD none) lp o (mem := (S1 gg x).mem) (W := W2.putObj lp (.loop { rec .ready none with state := .busy })) (Mo := qz M1 ρ2) (fun b h => by rw [vp]; exact hm2.lt b h)
   (GlOk.grow (E := E) hm2.glob (by rw [vp]; exact Nat.le_refl _) hh2) hm2.dom hx2 (fun id ow h => .inr ⟨id, ow, h, rfl⟩) hm2.inj
   (fun id blk hb => (hm2.blk id blk hb).mono none (by simp) (z4 _) (fun ow ho => World.putObj_heap_other (hne2 id ow ho)) hh2 (fun _ _ h => h) (fun _ _ _ => rfl)) (by rw [vp]; have := hm2.below.size; omega) (hkb1 gg x) (hxc1 ρ2)
  generalize hM2 : (fun b => qz M1 ρ2 b ∧ ¬ ∃ id ow, ¬ lsO o id ∧ ρ2 id = some (some ow) ∧ ow.b = b) = M2 at *;have had : a1.defers = [] := ha2.defers rfl
  have ha3 : ARel (E.turnO lp (S1 gg x).mem o fun id => (ρ2 id).getD none) (W2.putObj lp (.loop { rec .ready none with state := .busy })) M2 (S1 gg x) a1 (W2.putObj lp (.loop { rec .ready none with state := .busy })) := by
   refine ⟨fun _ => had, ha2.size, ρ2, mr2, by rw [had]; exact Marks.nil, fun i => ?_⟩;rw [o2];exact (ht2 i).mono none (by cases (S1 gg x).get i <;> rfl) hh2 (fun _ _ h => h) (fun _ _ _ => U)
  refine wpIn_mono (hbody pre x post gg hxs hI lp _ M2 _ a1 _ ha3) ?_;rintro e2 a2 W3 ⟨s3, ha4, hq⟩;obtain ⟨ρ3, hm3, _, _⟩ := ha4.ex
  have hnl2 : ¬ (E.turnO lp (S1 gg x).mem o fun id => (ρ2 id).getD none).lent lp := fun h => by obtain ⟨id, ow, h1, h2⟩ := (l2 _).1 h; exact hne2 id ow h1 h2
  have hnD2 : ¬ (E.turnO lp (S1 gg x).mem o fun id => (ρ2 id).getD none).lent D := fun h => by obtain ⟨id, ow, h1, h2⟩ := (l2 _).1 h; exact hne2D id ow h1 h2
  have f3 : W3.heap[lp]? = some (.loop { rec .ready none with state := .busy }) := (hm3.below.block lp (by rw [vp]; exact hlpW2) hnl2).trans (World.putObj_heap_same hlpW2);have f4 : W3.heap[D]? = some (.deferred (some [])) := (hm3.below.block D (by rw [vp]; omega) hnD2).trans ((World.putObj_heap_other (by omega)).trans e4)
  have b13 : BelowX (fun b => b = lp ∨ ∃ id ow, ρ1 id = some (some ow) ∧ ow.b = b) W1 W3 := by
   have hb := hm3.below;have hb2 := hm2.below;refine ⟨hb.os.trans hb2.os, hb.tape.trans hb2.tape, hb.output.trans hb2.output, by have := hb.size; rw [vp] at this; exact Nat.le_trans hb2.size this, fun k hk hl => ?_⟩;refine (hb.block k (by rw [vp]; exact Nat.lt_of_lt_of_le hk hb2.size) ?_).trans ((World.putObj_heap_other fun e => hl (.inl e)).trans (hb2.block k hk fun h => hl (.inr ((l1 k).1 h))));intro h;obtain ⟨id, ow, h1, rfl⟩ := (l2 _).1 h
   rcases (hm2.fresh id ow h1).1 with g | g
   ·omega
   ·exact hl (.inr ((l1 _).1 g))
  have hρ3 : ∀ id y, ¬ lsO o id → ρ2 id = some y → ρ3 id = some y := fun id y hi h => hm3.keep id y ((qfb (hkb1 gg x)).2 ⟨hi, hm2.dom id y h, by simp only [h, Option.getD_some]⟩)
  have hsub3 : ∀ b, ((Mo b ∨ N b) ∨ Y b) → qz M2 ρ3 b := fun b h => by
   by_cases hs : ∃ id ow, ¬ lsO o id ∧ ρ2 id = some (some ow) ∧ ow.b = b
   ·obtain ⟨id, ow, h1, h2, h3⟩ := hs;exact .inr ⟨id, ow, hρ3 id _ h1 h2, h3⟩
   ·exact .inl (by rw [← hM2]; exact ⟨hMM b h, hs⟩)
  have hold3 : ∀ id ow, ρ3 id = some (some ow) → (∃ id0 ow0, ρ id0 = some (some ow0) ∧ ow0.b = ow.b) ∨ Y ow.b ∨ W1.heap.size ≤ ow.b := fun id ow h => by
   have hst : ∀ b, (∃ id ow, ρ1 id = some (some ow) ∧ ow.b = b) → (∃ id0 ow0, ρ id0 = some (some ow0) ∧ ow0.b = b) ∨ Y b ∨ W1.heap.size ≤ b := by
    rintro b ⟨i1, o1, q1, rfl⟩
    rcases r4 i1 o1 q1 with q | q
    ·exact .inl q
    ·exact .inr (.inl q)
   rcases (hm3.fresh id ow h).1 with g | g
   ·rw [vp] at g;exact .inr (.inr (Nat.le_trans hm2.below.size g))
   ·obtain ⟨i2, o2', q1, q2⟩ := (l2 _).1 g
    rcases (hm2.fresh i2 o2' q1).1 with g | g
    ·exact .inr (.inr (q2 ▸ g))
    ·rw [← q2]; exact hst _ ((l1 _).1 g)
  have fin : ∀ (mx : Mem) (jump : Option Code), qbo (m g0) mx → qcv mx = true → MemL s3 mx →
    ∃ W4, (Instr.endRound lp jump).run E.P W3 = .ok (.bool jump.isNone) W4 ∧ BelowX (fun b => Mo b ∨ Y b) W1 W4 ∧ ∃ Y5, (∀ b, Y5 b → (Y b ∨ W1.heap.size ≤ b) ∧ b < W4.heap.size) ∧ JmL ρ Mo N Y5 o lp D w2 (.loop (rec (if jump.isNone then .ready else .done) jump)) mx W4 := by
   intro mx jump hs hgd hml;simp only [qcv, Bool.and_eq_true] at hgd;have hr := run_endRound (P := E.P) jump f3
   have hrr : ({ ({ rec .ready none with state := .busy } : Loop) with state := if jump.isNone then .ready else .done, pending := jump } : Loop) = rec (if jump.isNone then .ready else .done) jump := by rw [hrec]
   rw [hrr] at hr;have b14 : BelowX (fun b => b = lp ∨ ∃ id ow, ρ1 id = some (some ow) ∧ ow.b = b) W1 (W3.putObj lp (.loop (rec (if jump.isNone then .ready else .done) jump))) := b13.trans (wm _ _ _ (.inl rfl))
   let ρ5 : Rho := fun id => if (qq mx id).isSome = true then ρ3 id else none
   have h5 : ∀ id, (qq mx id).isSome = true → ρ5 id = ρ3 id := fun id hi => by simp only [ρ5, if_pos hi]
   have h5' : ∀ id y, ρ5 id = some y → ρ3 id = some y ∧ (qq mx id).isSome = true := by
    intro id y hy;simp only [ρ5] at hy
    split at hy
    ·rename_i hi; exact ⟨hy, hi⟩
    ·cases hy
   let Y5 : Nat → Prop := fun b => Y b ∨ (W1.heap.size ≤ b ∧ ∃ id ow, ρ5 id = some (some ow) ∧ ow.b = b)
   have hY5 : ∀ b, Y5 b → (Y b ∨ W1.heap.size ≤ b) ∧ b < W3.heap.size := by
    rintro b (h | ⟨h, id, ow, h1, rfl⟩)
    ·exact ⟨.inl h, Nat.lt_of_lt_of_le (j6 b h).2 b13.size⟩
    ·exact ⟨.inr h, (hm3.fresh id ow (h5' id _ h1).1).2⟩
   have hY5' : ∀ b, Y5 b → w2.heap.size ≤ b := fun b hb => (hY5 b hb).1.elim (j6' b) fun h => Nat.le_trans j1.size h
   have r45 : ∀ id ow, ρ5 id = some (some ow) → (∃ id0 ow0, ρ id0 = some (some ow0) ∧ ow0.b = ow.b) ∨ Y5 ow.b := fun id ow h => by
    rcases hold3 id ow (h5' id _ h).1 with q | q | q
    ·exact .inl q
    ·exact .inr (.inl q)
    ·exact .inr (.inr ⟨q, id, ow, h, U⟩)
   have hne5 : ∀ id ow, ρ5 id = some (some ow) → ow.b ≠ lp := fun id ow h => by
    rcases r45 id ow h with ⟨i0, o0, q1, q2⟩ | q
    ·have := hρlt i0 o0 q1; omega
    ·have := hY5' _ q; omega
   have hmxs : ∀ id, (∃ b, qq mx id = some b) ↔ ∃ b, qq (m gg) id = some b := fun id => by rw [qjx, hs, ← hids gg, ← qjx]
   refine ⟨_, hr, b14.mono ?_, Y5, fun b hb => ⟨(hY5 b hb).1, by rw [vp]; exact (hY5 b hb).2⟩, ?_, World.putObj_heap_same (Array.getElem?_eq_some_iff.1 f3).1, (World.putObj_heap_other (by omega)).trans f4, j5, fun b hb => ⟨hY5' b hb, by rw [vp]; exact (hY5 b hb).2⟩, ρ5, fun id hi => ?_, fun id y hy => Option.isSome_iff_exists.1 (h5' id y hy).2, fun id id' ow ow' h h' => hm3.inj id id' ow ow' (h5' id _ h).1 (h5' id' _ h').1, r45, fun id blk hb => ?_⟩
   ·rintro b (h | ⟨id, ow, h, rfl⟩)
    ·exact .inl (.inr (.inr h))
    ·rcases r4 id ow h with ⟨i0, o0, q1, q2⟩ | q
     ·exact .inl (q2 ▸ hsubMo i0 o0 q1)
     ·exact .inr q
   ·refine ⟨b14.os.trans j1.os, b14.tape.trans j1.tape, b14.output.trans j1.output, Nat.le_trans j1.size b14.size, fun k hk hl => (b14.block k (Nat.lt_of_lt_of_le hk j1.size) ?_).trans (j1.block k hk hl)⟩;rintro (h | ⟨id, ow, h, rfl⟩)
    ·exact hl (.inl h)
    ·rcases r4 id ow h with ⟨i0, o0, q1, q2⟩ | q
     ·exact hl (.inr ⟨i0, o0, q1, q2⟩)
     ·have := j6' _ q; omega
   ·cases hq : qq mx id with
    | some b =>
     obtain ⟨b', hb'⟩ := (hmxs id).1 ⟨b, hq⟩;have h1 := hx1 id b' hb';rw [h5 id (by rw [hq]; rfl), hρ3 id _ hi (hρ2 id _ hi h1), ← h1, r1 id hi]
    | none =>
     have h1 : ρ5 id = none := by simp only [ρ5, hq]; rfl
     rw [h1]
     cases hr0 : ρ id with
     | none => rfl
     | some y =>
      obtain ⟨b, hb⟩ := r2 id y (by rw [r1 id hi]; exact hr0);obtain ⟨b', hb'⟩ := (hmxs id).2 ⟨b, hb⟩;rw [hq] at hb'; cases hb'
   ·have hi : (qq mx id).isSome = true := by rw [hb]; rfl
    have h6 : BRel W3 (fun b => (Mo b ∨ N b) ∨ Y5 b) ρ5 id blk := BRel.clo hi (List.all_eq_true.1 hgd.2 _ (ji _ hb)) (hm3.blk id blk (qd9 hml id blk hb)) (fun b h => by
     rcases h with h | h | ⟨_, i3, o3, h, rfl⟩
     ·exact hsub3 b (.inl h)
     ·exact hsub3 b (.inr h)
     ·exact .inr ⟨i3, o3, (h5' i3 _ h).1, U⟩) h5
    exact h6.mono none (by simp) (z4 _) (fun ow ho => World.putObj_heap_other (hne5 id ow ho)) (fun b _ hno => World.putObj_heap_other fun e => hno (.inl (.inl (.inr (.inr e))))) (fun _ _ h => h) (fun _ _ _ => U)
  cases e2 with
  | normal =>
   obtain ⟨g', hI', hq⟩ := hq;obtain ⟨W4, g1, g2, Y5, g3, g4⟩ := fin (m g') none (hids _) (hgood _) hq;exact ⟨_, W4, g1, g2, _, U, Y5, g3, ⟨(fun _ => ⟨g', hI', g4⟩), (fun h => by cases h)⟩⟩
  | ret =>
   obtain ⟨mx, q1, q2, q3, q4⟩ := hq;obtain ⟨W4, g1, g2, Y5, g3, g4⟩ := fin mx (some .ret) q2 q3 q4;exact ⟨_, W4, g1, g2, _, U, Y5, g3, ⟨(fun h => by cases h), fun _ => ⟨_, mx, q1, q2, g4⟩⟩⟩
  | exit id =>
   obtain ⟨mx, q1, q2, q3, q4⟩ := hq;obtain ⟨W4, g1, g2, Y5, g3, g4⟩ := fin mx (some (.exit id)) q2 q3 q4;exact ⟨_, W4, g1, g2, _, U, Y5, g3, ⟨(fun h => by cases h), fun _ => ⟨_, mx, q1, q2, g4⟩⟩⟩
  | _ => exact hq.elim
 ·-- AT THE START
  refine ⟨fun _ => ⟨g0, hg0, BelowX.refl _ w2, hL, hD, (fun _ h => h.elim), (fun _ h => h.elim), ρ, (fun _ _ => U), hm.dom, hm.inj, (fun id ow h => .inl ⟨id, ow, h, U⟩), fun id blk hb => ?_⟩, fun h => by cases h⟩;exact (hm.blk id blk hb).mono none (by simp) (z4 _) (fun ow ho => hgr.block _ (by have := hρlt id ow ho; omega)) hgr.hh (fun b hb h => hMoSub b hb (h.elim (fun h => h.elim (fun h => h) (fun h => h.elim)) (fun h => h.elim))) (fun _ _ _ => U)
 ·-- BEHIND THE ITERATOR
  rintro e W' ⟨⟨v, rfl⟩, Y, _, ⟨hJ, _⟩ | ⟨pre, _, hJ⟩⟩
  ·obtain ⟨gg, hI, hJ⟩ := hJ rfl;refine ⟨none, _, ?_, _, back _ _ _ _ _ _ (hids gg) hJ, hdone gg hI⟩;have := run_endLoop (P := E.P) hJ.2.1 (by rw [hrec]; simp);rw [this, hrec]
  ·obtain ⟨co, mx, q1, q2, hJ⟩ := hJ rfl;have hl := run_endLoop (P := E.P) hJ.2.1 (by rw [hrec]; simp);have hb := hstop co pre mx q1 _ _ (back _ _ _ _ _ _ q2 hJ);rw [hF] at hb
   have hpe : (rec .done (some co)).pending = some co := by rw [hrec]
   refine ⟨some co, _, ?_, hb⟩;rw [hl];subst hrec
   rfl
def q49 {γ : Type} (E : Env) (w0 : World) (M0 : Nat → Prop) (Q : Exit → ASt → Prop) (n : Nat) (t : Nat → TV) (m : γ → Mem) (K : γ → Prop) (m0 : Mem) : Exit → ASt → Prop
 | .normal, s => ∃ g, K g ∧ MemL s (m g)
 | .ret, s => ∃ mx, AWp E w0 M0 .ret Q ⟨n, t, mx⟩ ∧ qbo m0 mx ∧ qcv mx = true ∧ MemL s mx
 | .exit id, s => ∃ mx, AWp E w0 M0 (.exit id) Q ⟨n, t, mx⟩ ∧ qbo m0 mx ∧ qcv mx = true ∧ MemL s mx
 | _, _ => False
theorem qmz {c : Nat} : ∀ {l : List (Nat × TV)}, l.all (fun q => noref (some c) q.2) = true → ∀ i, noref (some c) (xh l i) = true
 | [], _, _ => rfl
 | (k, v) :: r, h, i => by
  simp only [List.all_cons, Bool.and_eq_true] at h;simp only [xh]
  cases Nat.beq k i with
  | true => exact h.1
  | false => exact qmz h.2 i
theorem qt4 {α γ : Type} {gop : Operand} {p : Tmp} {assign body : Code} {Q : Exit → ASt → Prop} {n : Nat} {l : List (Nat × TV)} {gf : FuncId} {caps : List G} {enc : α → Value} {s : ASt}
  (c kb : Nat) (xs : List α) (m : γ → Mem) (K : List α → γ → Prop) (g0 : γ) (S1 : γ → α → (Nat → TV) × Mem)
  (hn : s.n = n) (hwk : qir s l) (hwm : MemL s (m g0)) (hcl : wa l (m g0) = true)
  (hg : ASt.eval E ⟨n, xh l, m g0⟩ gop = .g (.fn (.func gf) [] caps)) (hk : ze E.P gf) (hseq : SeqN E gf caps enc xs) (gx : α → G) (hgx : ∀ x w M, (gx x).p w M (enc x))
  (hK0 : K xs g0) (hp : Nat.blt p n = true) (hids : ∀ g, qbo (m g0) (m g)) (hgood : ∀ g, qcv (m g) = true)
  (hkc : Nat.beq kb c = false) (hkb : ∀ g, (qq (m g) kb).isSome = true) (hkb1 : ∀ g x, (qq (S1 g x).2 kb).isSome = true) (htc : l.all (fun q => noref (some c) q.2) = true)
  (hassign : ∀ x g lp w1 M1 x1, AWp (E.turnO lp (m g) (some (c, kb)) x1) w1 M1 assign (fun e s' => e = .normal ∧ s' = ⟨n, (S1 g x).1, (S1 g x).2⟩) ⟨n, upd p (.g (gx x)) (xh l), m g⟩)
  (hlive1 : ∀ g x, q47 (S1 g x).2 = true)
  (hbody : ∀ x post g, (∃ pre, xs = pre ++ x :: post) → K (x :: post) g → ∀ lp w1 M1 x1, AWp (E.turnO lp (S1 g x).2 (some (c, kb)) x1) w1 M1 body (q49 E w0 M0 Q n (xh l) m (K post) (m g0)) ⟨n, (S1 g x).1, (S1 g x).2⟩)
  (hdone : ∀ g, K [] g → Q .normal ⟨n, xh l, m g⟩)
  (hbw : qkc E (m g0) = true := by rfl) (hmk : E.mks = true := by rfl) (hrn : E.rnd = none := by rfl) (hbc : qq E.bow c = none := by rfl) : AWp E w0 M0 (.rangeFunc gop #[p] assign body) Q s := by
 have hne : kb ≠ c := fun e => by rw [e, Nat.beq_refl] at hkc; cases hkc
 refine qnm (l := l) hwk hwm hcl ?_ hbw;show AWp E w0 M0 _ Q ⟨s.n, xh l, m g0⟩;rw [hn];refine qg7 (some (c, kb)) m (fun pre g => ∃ tl, xs = pre ++ tl ∧ K tl g) g0 (fun g x => ⟨n, (S1 g x).1, (S1 g x).2⟩) (fun co _ mx => AWp E w0 M0 co Q ⟨n, xh l, mx⟩) hmk hrn hk (Nat.le_of_ble_eq_true hp) hg hseq gx hgx ⟨xs, U, hK0⟩ hids hgood
  (fun pre x post g _ _ lp w1 M1 x1 => hassign x g lp w1 M1 x1) hlive1 ?_ (fun g _ _ e => by cases e; exact ⟨Option.isSome_iff_exists.1 (hkb g), hne⟩) (fun g x _ _ e => by cases e; exact ⟨Option.isSome_iff_exists.1 (hkb1 g x), hne⟩) (fun _ ⟨_, e⟩ => by cases e; exact hbc) (qmz htc) ?_ (fun _ _ _ h => h)
 ·rintro pre x post g hxs ⟨tl, htl, hK⟩ lp w1 M1 x1;obtain rfl : tl = x :: post := List.append_cancel_left (htl.symm.trans hxs);refine (hbody x post g ⟨pre, hxs⟩ hK lp w1 M1 x1).mono ?_;rintro e s' h
  cases e with
  | normal =>
   obtain ⟨g', h1, h2⟩ := h;exact ⟨g', ⟨post, by rw [hxs]; simp, h1⟩, h2⟩
  | ret => exact h
  | exit id => exact h
  | _ => exact h
 ·rintro g ⟨tl, htl, hK⟩
  obtain rfl : tl = [] := by
   have := congrArg List.length htl
   simp at this
   exact this
  exact hdone g hK
end
section
variable {E : Env} {w0 : World} {M0 : Nat → Prop}
theorem qf0 {m : Mem} (h : qxz m = true) : qcv m = true := by
 simp only [qxz, qcv, Bool.and_eq_true, List.all_eq_true] at h ⊢;refine ⟨fun q hq => (h q hq).1, fun q hq => ?_⟩;have h1 := (h q hq).2;obtain ⟨i, b⟩ := q
 cases b with
 | box cs =>
  refine List.all_eq_true.2 fun c hc => ?_;have h2 := List.all_eq_true.1 h1 c hc
  cases c <;> first | rfl | cases h2
 | _ => rfl
theorem qhs {α γ : Type} {gop : Operand} {p : Tmp} {assign body : Code} {Q : Exit → ASt → Prop} {n : Nat} {l : List (Nat × TV)} {gf : FuncId} {caps : List G} {enc : α → Value} {s : ASt}
  (xs : List α) (m : γ → Mem) (K : List α → γ → Prop) (g0 : γ) (S1 : γ → α → (Nat → TV) × Mem)
  (hn : s.n = n) (hwk : qir s l) (hwm : MemL s (m g0)) (hcl : wa l (m g0) = true)
  (hg : ASt.eval E ⟨n, xh l, m g0⟩ gop = .g (.fn (.func gf) [] caps)) (hk : ze E.P gf) (hseq : SeqN E gf caps enc xs) (gx : α → G) (hgx : ∀ x w M, (gx x).p w M (enc x))
  (hK0 : K xs g0) (hp : Nat.blt p n = true) (hids : ∀ g, qbo (m g0) (m g)) (hgood : ∀ g, qxz (m g) = true)
  (hassign : ∀ x g lp w1 M1 x1, AWp (E.turn lp (m g) x1) w1 M1 assign (fun e s' => e = .normal ∧ s' = ⟨n, (S1 g x).1, (S1 g x).2⟩) ⟨n, upd p (.g (gx x)) (xh l), m g⟩)
  (hlive1 : ∀ g x, q47 (S1 g x).2 = true)
  (hbody : ∀ x post g, (∃ pre, xs = pre ++ x :: post) → K (x :: post) g → ∀ lp w1 M1 x1, AWp (E.turn lp (S1 g x).2 x1) w1 M1 body (q79 E w0 M0 Q n (xh l) m (K post) (m g0)) ⟨n, (S1 g x).1, (S1 g x).2⟩)
  (hdone : ∀ g, K [] g → Q .normal ⟨n, xh l, m g⟩)
  (hbw : qkc E (m g0) = true := by rfl) (hmk : E.mks = true := by rfl) (hrn : E.rnd = none := by rfl) : AWp E w0 M0 (.rangeFunc gop #[p] assign body) Q s := by
 refine qnm (l := l) hwk hwm hcl ?_ hbw;show AWp E w0 M0 _ Q ⟨s.n, xh l, m g0⟩;rw [hn];refine qg7 none m (fun pre g => ∃ tl, xs = pre ++ tl ∧ K tl g) g0 (fun g x => ⟨n, (S1 g x).1, (S1 g x).2⟩) (fun co _ mx => AWp E w0 M0 co Q ⟨n, xh l, mx⟩) hmk hrn hk (Nat.le_of_ble_eq_true hp) hg hseq gx hgx ⟨xs, U, hK0⟩ hids (fun g => qf0 (hgood g))
  (fun pre x post g _ _ lp w1 M1 x1 => hassign x g lp w1 M1 x1) hlive1 ?_ (fun _ _ _ e => by cases e) (fun _ _ _ _ e => by cases e) (fun _ ⟨_, e⟩ => by cases e) (fun _ => rfl) ?_ (fun _ _ _ h => h)
 ·rintro pre x post g hxs ⟨tl, htl, hK⟩ lp w1 M1 x1;obtain rfl : tl = x :: post := List.append_cancel_left (htl.symm.trans hxs);refine (hbody x post g ⟨pre, hxs⟩ hK lp w1 M1 x1).mono ?_;rintro e s' h
  cases e with
  | normal =>
   obtain ⟨g', h1, h2⟩ := h;exact ⟨g', ⟨post, by rw [hxs]; simp, h1⟩, h2⟩
  | ret => obtain ⟨mx, h1, h2, h3, h4⟩ := h; exact ⟨mx, h1, h2, qf0 h3, h4⟩
  | exit id => obtain ⟨mx, h1, h2, h3, h4⟩ := h; exact ⟨mx, h1, h2, qf0 h3, h4⟩
  | _ => exact h
 ·rintro g ⟨tl, htl, hK⟩
  obtain rfl : tl = [] := by
   have := congrArg List.length htl
   simp at this
   exact this
  exact hdone g hK
end
abbrev limG (a2 : S2062) : List G := [G.str a2.Name, G.str a2.Kind, G.str a2.Terminal, G.int a2.Length, G.int a2.Step, G.int a2.fFrom, G.int a2.fTo, G.int a2.Period.fFrom, G.int a2.Period.fTo, G.int a2.Period.Days, G.int a2.Most]
def bF (a2 : S2062) : Int := IntKind.i64.wrap (Int.tdiv (IntKind.i64.wrap ((IntKind.i64.wrap (a2.fFrom + a2.Step)) - 1)) a2.Step)
def bN (a2 : S2062) : Int := max 0 (IntKind.i64.wrap ((IntKind.i64.wrap ((IntKind.i64.wrap (Int.tdiv a2.fTo a2.Step)) - (bF a2))) + 1))
def bAt (a2 : S2062) (a1 : Int) (x1 : Int) : Int := IntKind.i64.wrap ((IntKind.i64.wrap (1440 * a1)) + (IntKind.i64.wrap (a2.Step * (IntKind.i64.wrap ((bF a2) + x1)))))
def begL (a2 : S2062) (a1 : Int) : List Int := bif ((decide (a1 < a2.Period.fFrom)) || (decide (a2.Period.fTo < a1))) || (!(qpr a2 a1)) then [] else (List.range (bN a2).toNat).map fun n => bAt a2 a1 (n : Nat)
theorem qx2 {α : Type} (f : Nat → α) {k n : Nat} (h : k < n) : (List.range n).map f = (List.range k).map f ++ f k :: (List.range' (k + 1) (n - k - 1)).map f := by
 have e : List.range n = List.range k ++ k :: List.range' (k + 1) (n - k - 1) := by
  rw [List.range_eq_range', List.range_eq_range', show n = k + ((n - k - 1) + 1) by omega, ← List.range'_append_1, Nat.zero_add, List.range'_succ]
  simp
 rw [e, List.map_append, List.map_cons]
theorem qx3 (n : Int) : -9223372036854775808 ≤ IntKind.i64.wrap n ∧ IntKind.i64.wrap n ≤ 9223372036854775807 := by rw [IntKind.wrap_i64]; omega
theorem ql8 {g : GL} (a2 : S2062) (a1 : Int) (hst : a2.Step ≠ 0) : SeqN (EG g) 122 [G.ref [G.int a1], G.ref (limG a2)] (Value.int .i64) (begL a2 a1) := by
 refine qhq Tryz.func122 U U U fun l C => ?_;refine vm<|vm<|jr [.p, .p, .p, .p, .p, .p, .p, .p, .p, .p, .p, .p, .p, .p, .p, .p, .p, .p]<|st U U (qf U ty3 U) U<|st U U (qc U qjk U) U<|st U U (qc U qa3 U) U<|st U U (qf U ty3 U) U<|st U U (zd U U U) U<|st U U (qj U U) U<|st_g U U U (jf _ _) (fun h => qf U ty3 U) U<|st_g U U U (jf _ _) (fun h => qc U qjk U) U<|st_g U U U (jf _ _) (fun h => qc U qa4 (gd h U)) U<|st_g U U U (jf _ _) (fun h => qf U ty3 (gd h U)) U<|st_g U U U (jf _ _) (fun h => zy U (gd h U) (gd h U)) U<|st U U (jg U U U U) U<|st U U (qj U U) U<|st_g U U U (jf _ _) (fun h => qr U vy U U U) U<|st_g U U U (jf _ _) (fun h => qf U ty3 U) U<|st_g U U U (jf _ _) (fun h => qg U q9b U (zdd a2 a1) (qe (gd h U) (qe (gd h U) qk))) U<|st_g U U U (jf _ _) (fun h => jo U (gd h U)) U<|st U U (jg U U U U) U<|qd ?_;refine qdh _ U (fun h1 => ?_) (fun h1 => ?_)
 ·replace h1 : (((decide (a1 < a2.Period.fFrom)) || (decide (a2.Period.fTo < a1))) || (!(qpr a2 a1))) = true := h1;refine qsj<|.inr ?_;unfold begL;rw [h1]
  rfl
 ·replace h1 : (((decide (a1 < a2.Period.fFrom)) || (decide (a2.Period.fTo < a1))) || (!(qpr a2 a1))) = false := h1
  have hxs : begL a2 a1 = (List.range (bN a2).toNat).map fun n => bAt a2 a1 (n : Nat) := by
   unfold begL;rw [h1]
   rfl
  have hbn : 0 ≤ bN a2 ∧ bN a2 ≤ 9223372036854775807 := by
   have := qx3 (IntKind.i64.wrap ((IntKind.i64.wrap (Int.tdiv a2.fTo a2.Step)) - (bF a2)) + 1);unfold bN; omega
  refine qdi<|vm<|jr [.p, .p, .p, .p, .p, .p, .p, .p, .p, .p]<|st U U (qc U qnf U) U<|st U U (qf U ty3 U) U<|st U U (qc U qf6 U) U<|st U U (qf U ty3 U) U<|st U U (kl U U U) U<|st U U (kq U U U) U<|st U U (qc U qf6 U) U<|st U U (qf U ty3 U) U<|st U U (qgj U U U hst) U<|st U U (jb U U) U<|qd<|vm<|jr [.p, .p, .p, .p, .p, .p, .p, .p, .p, .p]<|st U U (qc U qng U) U<|st U U (qf U ty3 U) U<|st U U (qc U qf6 U) U<|st U U (qf U ty3 U) U<|st U U (qgj U U U hst) U<|st U U (qj U U) U<|st U U (kq U U U) U<|st U U (kl U U U) U<|st U U (qhm U U U) U<|st U U (qj U U) U<|qd<|qbf ?_;refine qgr (γ := Nat) (fun g => [(0, .g (G.lit (.func (.yield l) #[] #[]))), (1, .g (G.ref [G.int a1])), (2, .g (G.ref (limG a2))), (4, .g (G.int (bF a2))), (41, .g (G.int (bN a2))), (42, .g (G.int ((g : Nat) : Int)))])
   (fun g => ((List.range g).map fun n => bAt a2 a1 (n : Nat), false)) (fun g => g ≤ (bN a2).toNat) (fun g => (bN a2).toNat - g) ⟨rfl, 0, ⟨rfl, rfl, rfl, rfl, rfl, rfl, trivial⟩, rfl, rfl, Nat.zero_le _, trivial⟩ ?_
  ·intro k hk;refine vm<|jr [.p]<|st U U (zd U U U) U<|qd<|vm ?_;refine qdh _ U (fun h2 => ?_) (fun h2 => ?_)
   ·replace h2 : (decide (((k : Nat) : Int) < bN a2)) = true := h2;replace h2 := decT h2
    have hk2 : k < (bN a2).toNat := by omega
    refine qdi<|vm<|qbf<|vm<|jr [.p, .p]<|st U U (qj U U) U<|st U U (jb U U) U<|qd<|vm<|qmx [some .p, some .p, some .p, some .p, some .p, some .p, some .p, some .p, some .p, some .p, none, some .p] ?_;refine ist (st U U (qj U U) U (qd ?_));refine ist (st U U (qf U ty3 U) U (qd ?_));refine ist (st U U (qc4 U U U) U (qd ?_));refine ist (st U U (qc U qf6 U) U (qd ?_));refine ist (st U U (qf U ty3 U) U (qd ?_));refine ist (st U U (qj U U) U (qd ?_));refine ist (st U U (qj U U) U (qd ?_));refine ist (st U U (kl U U U) U (qd ?_));refine ist (st U U (qc4 U U U) U (qd ?_));refine ist (st U U (kl U U U) U (qd ?_));refine iy (bAt a2 a1 (k : Nat)) U U U U U U (fun w M ρ v h => h) (by rw [hxs]; exact qx2 _ hk2) fun b => ?_;refine ist (st U U (jo U U) U (qd ?_));refine qob ?_;refine qdh (!b) U (fun h4 => ?_) (fun h4 => ?_)
    ·refine qsj ?_;exact .inl h4
    ·have hb : b = true := by simpa using h4
     subst hb;refine qdi<|jr [.p, .p]<|st U U (zn U U U (by (try dsimp only); unfold I64; omega)) U<|st U U (qj U U) U<|qd ?_;refine ⟨U, k + 1, ⟨U, U, U, U, U, U, O⟩, U, ?_, hk2, ?_⟩
     ·show _ = ((List.range (k + 1)).map _, false);rw [List.range_succ, List.map_append]; rfl
     ·show _ - (k + 1) < _; omega
   ·replace h2 : (decide (((k : Nat) : Int) < bN a2)) = false := h2;replace h2 := decF h2
    have hk2 : k = (bN a2).toNat := by omega
    refine qkw<|.inr ?_;rw [hxs, hk2]
theorem q6x : tyK Tryz.prog 111 = some (1, false) := by kernel_rfl
theorem zbs : ze Tryz.prog 122 := ⟨_, Tryz.func122, by kernel_rfl, by kernel_rfl⟩
theorem kB60 : ze Tryz.prog 64 := ⟨_, Tryz.func64, by kernel_rfl, by kernel_rfl⟩
theorem q6w {g : GL} (a2 : S2062) (a1 : Int) : Con (EG g) 64 [G.agg (limG a2), G.int a1] (G.fn (.func 122) [] [G.ref [G.int a1], G.ref (limG a2)]) := by
 refine qm Tryz.func64 U U fun w0 M0 => ?_;refine qb<|qa [.p, .p, .p]<|st U U (zi U U) U<|st U U (zi U U) U<|st U U (jb U U) U<|qd<|qb<|qa [.p, .p]<|st U U (qas U U U) U<|st U U (jb U U) U<|qd<|qo ?_;exact za U (rv_g U)
def wdsL (a2 : S2062) (n : Nat) : List Int := (List.range n).flatMap fun (k : Nat) => begL a2 (a2.Period.fFrom + (k : Nat))
def zbm (a2 : S2062) : List Int := wdsL a2 (a2.Period.fTo + 1 - a2.Period.fFrom).toNat
end Go.Sim
