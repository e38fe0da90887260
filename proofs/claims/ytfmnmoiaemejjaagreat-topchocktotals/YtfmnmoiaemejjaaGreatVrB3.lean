/-
  What is proved: lemmas and contracts of functions on the way to the law topChockTotals (part 12).
-/
import Derived.Test.YtfmnmoiaemejjaaGreatVrB2
import Derived.Test.YtfmnmoiaemejjaaGreatVrA3
import Derived.Test.YtfmnmoiaemejjaaGreatVrA9
import Derived.Test.YtfmnmoiaemejjaaGreatVrB1
import Derived.Test.YtfmnmoiaemejjaaGreatVrA8
import Derived.Test.YtfmnmoiaemejjaaGreatVrA4
set_option linter.unusedSectionVars false
set_option linter.unusedSimpArgs false
set_option linter.unusedVariables false
set_option linter.unnecessarySimpa false
set_option linter.deprecated false
set_option maxRecDepth 10000
namespace Go.Sim
open Go.Proofs
def qdr (a0 : ByteArray) : Int :=
 (bif !(s91 a0) then 8 else 0)
theorem q31 {g : GL} (a0 : ByteArray)    : Con (EG g) 135 [G.str a0] (G.int (qdr a0)) := by
 generalize hR : qdr a0 = R;unfold qdr at hR;refine qm Tryz.func135 U U fun w0 M0 => ?_;refine qb<|qa [.p]<|sa U U<|qc<|qb<|qb<|qa [.p, .p, .p]<|sm U U<|su (qf U K91 U (c91 a0) (qe U qj)) U<|su (jn U U) U<|qc ?_;refine ql _ U (fun h1 => ?_) (fun h1 => ?_)
 ·replace hR := zm hR h1;refine qb<|qa [.p]<|sa U U<|qc<|qo ?_;subst hR;exact zb U (rv_g U)
 ·replace hR := zn hR h1;refine qn<|qb<|qa [.p]<|sa U U<|qc<|qo ?_;subst hR;exact zb U (rv_g U)
def qfc  (x1 : Int) : Int :=
 x1
def qhg (a0 : S5102) : Int :=
 (bif (decide ((s89 [(qdr a0.Carrier), (s109 a0.fFrom), (s109 a0.fTo)]) = 0)) && (decide (a0.fTo < a0.fFrom)) then qfc 11 else qfc (s89 [(qdr a0.Carrier), (s109 a0.fFrom), (s109 a0.fTo)]))
theorem q94 {g : GL} (a0 : S5102)    : Con (EG g) 136 [G.agg (S5102.c a0)] (G.int (qhg a0)) := by
 generalize hR : qhg a0 = R;unfold qhg at hR;refine qm Tryz.func136 U U fun w0 M0 => ?_;refine qb<|qa [.p, .p]<|su (zg U U) U<|sa U U<|qc<|qb<|zt [.p, .p, .p, .p, .p, .p, .p, .p, .p, .p, .p, .p] (by kernel_rfl)<|su (qd U qnu U) U<|su (qg U ty9 U) U<|su (qf U q32 U (q31 a0.Carrier) (qe U qj)) U<|su (qd U qka U) U<|su (qg U ty3 U) U<|su (qf U K109 U (c109 a0.fFrom) (qe U qj)) U<|su (qd U qkb U) U<|su (qg U ty3 U) U<|su (qf U K109 U (c109 a0.fTo) (qe U qj)) U ?_;refine su (qt U Tryz.underlying38 ty3 z3 U (qv U (qv U (qv U jh))) U (by simp []) (by decide)) U ?_;refine su (qf U K89 U (c89 [(qdr a0.Carrier), (s109 a0.fFrom), (s109 a0.fTo)]) (qe U qj)) U<|sa U U<|qc ?_;refine jy (γ := Int) (fun g => ([(3, .g (G.int g))], [])) (fun g => qfc g = R) ?_ ?_
 ·refine qb<|qa [.p, .p, .p, .p, .p, .p, .p, .p, .p]<|sm U U<|su (jq U U U) U<|sm U U<|sg U U (fun h => qd U qka U) U<|sg U U (fun h => qg U ty3 (gd h U)) U<|sg U U (fun h => qd U qkb U) U<|sg U U (fun h => qg U ty3 (gd h U)) U<|sg U U (fun h => z6 U (gd h U) (gd h U)) U<|su (zy U U U U) U<|qc ?_;refine ql _ U (fun h1 => ?_) (fun h1 => ?_)
  ·replace hR := zm hR h1;refine qa [.p]<|sa U U<|qc ?_;exact ⟨U, 11, ⟨U, O⟩, O, U, hR, O⟩
  ·replace hR := zn hR h1;refine qn ?_;exact ⟨U, (s89 [(qdr a0.Carrier), (s109 a0.fFrom), (s109 a0.fTo)]), ⟨U, O⟩, O, U, hR, O⟩
 ·rintro x1 hR;replace hR : qfc x1 = R := hR;unfold qfc at hR;refine qb<|qa [.p, .p]<|sm U U<|sa U U<|qc<|qo ?_;subst hR;exact zb U (rv_g U)
def qhh (a0 : S5036) (a1 : S5102) : Int :=
 (bif (decide (a1.fFrom < a0.Request.Period.fFrom)) || (decide (a0.Request.Period.fTo < a1.fTo)) then 30 else (bif decide (a1.Carrier = a0.Holder) then 31 else 0))
theorem q95 {g : GL} (a0 : S5036) (a1 : S5102)    : Con (EG g) 137 [G.agg [G.str a0.Request.Name, G.str a0.Request.Carrier, G.str a0.Request.Kind, G.str a0.Request.Terminal, G.str a0.Request.Partner, G.str a0.Request.Link, G.int a0.Request.Period.fFrom, G.int a0.Request.Period.fTo, G.int a0.Request.Period.Days, G.int a0.Request.Minute, G.int a0.Request.Seats, G.int a0.Request.Size, G.int a0.Request.Noise, G.str a0.Holder, G.sl 3 (List.map S5102.c a0.Leases), G.sl 1 (List.map cStr a0.Shares)], G.agg (S5102.c a1)] (G.int (qhh a0 a1)) := by
 generalize hR : qhh a0 a1 = R;unfold qhh at hR;refine qm Tryz.func137 U U fun w0 M0 => ?_;refine qb<|qa [.p, .p, .p]<|su (zg U U) U<|su (zg U U) U<|sa U U<|qc<|qb<|qb<|qa [.p, .p, .p, .p, .p, .p, .p, .p, .p, .p, .p, .p, .p, .p, .p, .p]<|su (qd U qka U) U<|su (qg U ty3 U) U<|su (qd U qbf U) U<|su (qd U wd U) U<|su (qd U qdg U) U<|su (qg U ty3 U) U<|su (ze U U U) U<|sm U U<|sg U U (fun h => qd U qkb U) U<|sg U U (fun h => qg U ty3 (gd h U)) U<|sg U U (fun h => qd U qbf U) U<|sg U U (fun h => qd U wd (gd h U)) U<|sg U U (fun h => qd U qb1 (gd h U)) U<|sg U U (fun h => qg U ty3 (gd h U)) U<|sg U U (fun h => z6 U (gd h U) (gd h U)) U<|su (jm U U U U) U<|qc ?_;refine ql _ U (fun h1 => ?_) (fun h1 => ?_)
 ·replace hR := zm hR h1;refine qb<|qa [.p]<|sa U U<|qc<|qo ?_;subst hR;exact zb U (rv_g U)
 ·replace h1 : ((decide (a1.fFrom < a0.Request.Period.fFrom)) || (decide (a0.Request.Period.fTo < a1.fTo))) = false := h1;replace hR := zn hR h1;(try simp only [bB] at h1);refine qn<|qb<|qb<|qa [.p, .p, .p, .p, .p]<|su (qd U qnu U) U<|su (qg U ty9 U) U<|su (qd U qhi U) U<|su (qg U ty9 U) U<|su (ky U U U) U<|qc ?_;refine ql _ U (fun h2 => ?_) (fun h2 => ?_)
  ·replace hR := zm hR h2;refine qb<|qa [.p]<|sa U U<|qc<|qo ?_;subst hR;exact zb U (rv_g U)
  ·replace hR := zn hR h2;refine qn<|qb<|qa [.p]<|sa U U<|qc<|qo ?_;subst hR;exact zb U (rv_g U)
def qdh (rec1 : Int → Int → Option Int) (x3 : Int) (x5 : Int) : Option Int :=
 rec1 x5 (x3 + 1)
def qfd (rec2 : Int → Int → Option Int) (x12 : Int) (x14 : Int) : Option Int :=
 rec2 x14 (x12 + 1)
def qbg (rec2 : Int → Int → Option Int) (a0 : S5036) (x12 : Int) (x16 : Int) : Option Int :=
 qz (bif decide (x16 = 0) then ixO a0.Shares x12 else some default) fun y17 => (bif (decide (x16 = 0)) && (s92 (List.take (Int.toNat x12) a0.Shares) y17) then qfd rec2 x12 9 else qfd rec2 x12 x16)
def j9 (a0 : S5036) : Nat → Int → Int → Option Int
 | 0, _, _ => none
 | k13 + 1, x11, x12 => (bif (decide (x12 < (List.length a0.Shares : Int))) && (decide (x11 = 0)) then qz (ixO a0.Shares x12) fun y15 => qz (bif decide ((qdr y15) = 0) then ixO a0.Shares x12 else some default) fun y18 => (bif (decide ((qdr y15) = 0)) && (decide (y18 = a0.Holder)) then qbg (fun z0_ z1_ => j9 a0 k13 z0_ z1_) a0 x12 31 else qbg (fun z0_ z1_ => j9 a0 k13 z0_ z1_) a0 x12 (qdr y15)) else some x11)
def qb6 (a0 : S5036) (x10 : Int) : Option Int :=
 j9 a0 ((((List.length a0.Shares : Int) - 0).toNat) + 1) x10 0
def vn (a0 : S5036) : Nat → Int → Int → Option Int
 | 0, _, _ => none
 | k4 + 1, x2, x3 => (bif (decide (x3 < (List.length a0.Leases : Int))) && (decide (x2 = 0)) then qz (ixO a0.Leases x3) fun y6 => qz (ixO a0.Leases x3) fun y7 => qz (bif (decide ((s89 [(qhg y6), (qhh a0 y7)]) = 0)) && (decide (0 < x3)) then ixO a0.Leases x3 else some default) fun y8 => qz (bif (decide ((s89 [(qhg y6), (qhh a0 y7)]) = 0)) && (decide (0 < x3)) then ixO a0.Leases (x3 - 1) else some default) fun y9 => (bif ((decide ((s89 [(qhg y6), (qhh a0 y7)]) = 0)) && (decide (0 < x3))) && (decide (y8.fFrom ≤ y9.fTo)) then qdh (fun z0_ z1_ => vn a0 k4 z0_ z1_) x3 15 else qdh (fun z0_ z1_ => vn a0 k4 z0_ z1_) x3 (s89 [(qhg y6), (qhh a0 y7)])) else (bif (decide (x2 = 0)) && (decide (4 < (List.length a0.Shares : Int))) then qb6 a0 5 else qb6 a0 x2))
def qar (a0 : S5036) (x1 : Int) : Option Int :=
 vn a0 ((((List.length a0.Leases : Int) - 0).toNat) + 1) x1 0
def qpm (a0 : S5036) : Option Int :=
 (bif (decide ((s89 [(qil a0.Request), (qdr a0.Holder)]) = 0)) && (decide (8 < (List.length a0.Leases : Int))) then qar a0 5 else qar a0 (s89 [(qil a0.Request), (qdr a0.Holder)]))
theorem q96 {g : GL} (a0 : S5036) {R : Int}  (hb0 : a0.Leases.length ≤ 1000) (hb1 : a0.Shares.length ≤ 1000) (hR : qpm a0 = some R) : Con (EG g) 77 [G.agg [G.str a0.Request.Name, G.str a0.Request.Carrier, G.str a0.Request.Kind, G.str a0.Request.Terminal, G.str a0.Request.Partner, G.str a0.Request.Link, G.int a0.Request.Period.fFrom, G.int a0.Request.Period.fTo, G.int a0.Request.Period.Days, G.int a0.Request.Minute, G.int a0.Request.Seats, G.int a0.Request.Size, G.int a0.Request.Noise, G.str a0.Holder, G.sl 3 (List.map S5102.c a0.Leases), G.sl 1 (List.map cStr a0.Shares)]] (G.int R) := by
 unfold qpm at hR;refine qm Tryz.func77 U U fun w0 M0 => ?_;refine qb<|qa [.p, .p]<|su (zg U U) U<|sa U U<|qc<|qb<|zt [.p, .p, .p, .p, .p, .p, .p, .p, .p] (by kernel_rfl)<|su (qd U qbf U) U<|su (qp U w5 U U U) U<|su (qf U q6j U (q6k a0.Request) (qe U qj)) U<|su (qd U qhi U) U<|su (qg U ty9 U) U<|su (qf U q32 U (q31 a0.Holder) (qe U qj)) U ?_;refine su (qt U Tryz.underlying38 ty3 z3 U (qv U (qv U jh)) U (by simp []) (by decide)) U ?_;refine su (qf U K89 U (c89 [(qil a0.Request), (qdr a0.Holder)]) (qe U qj)) U<|sa U U<|qc ?_;refine jy (γ := Int) (fun g => ([(1, .g (G.ref [G.str a0.Request.Name, G.str a0.Request.Carrier, G.str a0.Request.Kind, G.str a0.Request.Terminal, G.str a0.Request.Partner, G.str a0.Request.Link, G.int a0.Request.Period.fFrom, G.int a0.Request.Period.fTo, G.int a0.Request.Period.Days, G.int a0.Request.Minute, G.int a0.Request.Seats, G.int a0.Request.Size, G.int a0.Request.Noise, G.str a0.Holder, G.sl 3 (List.map S5102.c a0.Leases), G.sl 1 (List.map cStr a0.Shares)])), (3, .g (G.int g))], [])) (fun g => qar a0 g = some R) ?_ ?_
 ·refine qb<|qa [.p, .p, .p, .p, .p, .p, .p, .p]<|sm U U<|su (jq U U U) U<|sm U U<|sg U U (fun h => qd U qas U) U<|sg U U (fun h => qg U qeo (gd h U)) U<|sg U U (fun h => qy (f := S5102.c) (l := a0.Leases) U Tryz.underlying34 (gd h U)) U<|sg U U (fun h => z6 U (gd h U) U) U<|su (zy U U U U) U<|qc ?_;refine ql _ U (fun h7 => ?_) (fun h7 => ?_)
  ·replace hR := zm hR h7;refine qa [.p]<|sa U U<|qc ?_;exact ⟨U, 5, ⟨U, U, O⟩, O, U, hR, O⟩
  ·replace hR := zn hR h7;refine qn ?_;exact ⟨U, (s89 [(qil a0.Request), (qdr a0.Holder)]), ⟨U, U, O⟩, O, U, hR, O⟩
 ·rintro x1 hR;replace hR : qar a0 x1 = some R := hR;unfold qar at hR;refine qb<|qb<|qa [.p]<|sa U U<|qc<|qq<|za (γ := Nat × Int × Int) (fun g => ([(1, .g (G.ref [G.str a0.Request.Name, G.str a0.Request.Carrier, G.str a0.Request.Kind, G.str a0.Request.Terminal, G.str a0.Request.Partner, G.str a0.Request.Link, G.int a0.Request.Period.fFrom, G.int a0.Request.Period.fTo, G.int a0.Request.Period.Days, G.int a0.Request.Minute, G.int a0.Request.Seats, G.int a0.Request.Size, G.int a0.Request.Noise, G.str a0.Holder, G.sl 3 (List.map S5102.c a0.Leases), G.sl 1 (List.map cStr a0.Shares)])), (3, .g (G.int g.2.1)), (4, .g (G.int g.2.2))], [])) (fun g => ((List.length a0.Leases : Int) - g.2.2).toNat < g.1 ∧ 0 ≤ g.2.2 ∧ g.2.2 ≤ (List.length a0.Leases : Int) ∧ vn a0 g.1 g.2.1 g.2.2 = some R) (fun g => g.1) ⟨U, ((((List.length a0.Leases : Int) - 0).toNat) + 1, x1, 0), ⟨U, U, U, O⟩, O, U, ⟨Nat.lt_succ_self _, iD, iD, (by exact hR)⟩, O⟩ ?_
  ·rintro ⟨k4, x2, x3⟩ ⟨hk1, iv1_0, iv1_1, hR⟩;replace hk1 : ((List.length a0.Leases : Int) - x3).toNat < k4 := hk1;replace hR : vn a0 k4 x2 x3 = some R := hR;replace iv1_0 : 0 ≤ x3 := iv1_0;replace iv1_1 : x3 ≤ (List.length a0.Leases : Int) := iv1_1;obtain ⟨k4, rfl⟩ : ∃ m, k4 = m + 1 := ⟨k4 - 1, by omega⟩;rw [vn] at hR;(try dsimp only at hR);refine qb<|qb<|qa [.p, .p, .p, .p, .p, .p, .p, .p, .p]<|sm U U<|su (qd U qas U) U<|su (qg U qeo U) U<|su (qy (f := S5102.c) (l := a0.Leases) U Tryz.underlying34 U) U<|su (ze U U U) U<|sm U U<|sg U U (fun h => qk U U) U<|sg U U (fun h => jq U (gd h U) U) U<|su (zy U U U U) U<|qc ?_;refine ql _ U (fun h1 => ?_) (fun h1 => ?_)
   ·replace h1 : ((decide (x3 < (List.length a0.Leases : Int))) && (decide (x2 = 0))) = true := h1;replace hR := zm hR h1;(try simp only [bB] at h1);refine qn ?_;refine jy (γ := Int) (fun g => ([(1, .g (G.ref [G.str a0.Request.Name, G.str a0.Request.Carrier, G.str a0.Request.Kind, G.str a0.Request.Terminal, G.str a0.Request.Partner, G.str a0.Request.Link, G.int a0.Request.Period.fFrom, G.int a0.Request.Period.fTo, G.int a0.Request.Period.Days, G.int a0.Request.Minute, G.int a0.Request.Seats, G.int a0.Request.Size, G.int a0.Request.Noise, G.str a0.Holder, G.sl 3 (List.map S5102.c a0.Leases), G.sl 1 (List.map cStr a0.Shares)])), (3, .g (G.int g)), (4, .g (G.int x3))], [])) (fun g => qdh (fun z0_ z1_ => vn a0 k4 z0_ z1_) x3 g = some R) ?_ ?_
    ·refine qq<|qb ?_;obtain ⟨y6, by6, hR⟩ := qi hR;obtain ⟨y7, by7, hR⟩ := qi hR;refine zt [.p, .p, .p, .p, .p, .p, .p, .p, .p, .p, .p, .p, .p, .p, .p, .p] (by kernel_rfl)<|su (qd U qas U) U<|su (qg U qeo U) U<|sm U U<|su (z4 (f := S5102.c) (l := a0.Leases) (a := y6) U Tryz.underlying34 qep U U (jl by6) (zk by6)) U<|su (qp U qep U U U) U<|su (qf U q97 U (q94 y6) (qe U qj)) U<|su (qp U qbs U U U) U<|su (qd U qas U) U<|su (qg U qeo U) U<|sm U U<|su (z4 (f := S5102.c) (l := a0.Leases) (a := y7) U Tryz.underlying34 qep U U (jl by7) (zk by7)) U<|su (qp U qep U U U) U<|su (qf U q98 U (q95 a0 y7) (qe U (qe U qj))) U ?_;refine su (qt U Tryz.underlying38 ty3 z3 U (qv U (qv U jh)) U (by simp []) (by decide)) U ?_;refine su (qf U K89 U (c89 [(qhg y6), (qhh a0 y7)]) (qe U qj)) U<|sa U U<|qc<|qb ?_;obtain ⟨y8, by8, hR⟩ := qi hR;obtain ⟨y9, by9, hR⟩ := qi hR;refine zt [.p, .p, .p, .p, .p, .p, .p, .p, .p, .p, .p, .p, .p, .p, .p, .p, .p, .p, .p, .p, .p, .p] (by kernel_rfl)<|sm U U<|su (jq U U U) U<|sm U U<|sg U U (fun h => qk U U) U<|sg U U (fun h => z6 U (gd h U) U) U<|su (zy U U U U) U<|sm U U<|sg U U (fun h => qd U qas U) U<|sg U U (fun h => qg U qeo (gd h U)) U<|sg U U (fun h => qk U U) U<|sg U U (fun h => z4 (f := S5102.c) (l := a0.Leases) (a := y8) U Tryz.underlying34 qep (gd h U) (gd h U) (jl (xm by8 h)) (zk (xm by8 h))) U<|sg U U (fun h => qd U qka (gd h U)) U<|sg U U (fun h => qg U ty3 (gd h U)) U<|sg U U (fun h => qd U qas U) U<|sg U U (fun h => qg U qeo (gd h U)) U<|sg U U (fun h => qk U U) U<|sg U U (fun h => vm U (gd h U) U iF) U<|sg U U (fun h => z4 (f := S5102.c) (l := a0.Leases) (a := y9) U Tryz.underlying34 qep (gd h U) (gd h U) (jl (xm by9 h)) (zk (xm by9 h))) U<|sg U U (fun h => qd U qkb (gd h U)) U<|sg U U (fun h => qg U ty3 (gd h U)) U<|sg U U (fun h => vl U (gd h U) (gd h U)) U<|su (zy U U U U) U<|qc ?_;refine ql _ U (fun h2 => ?_) (fun h2 => ?_)
     ·replace hR := zm hR h2;refine qa [.p]<|sa U U<|qc ?_;exact ⟨U, 15, ⟨U, U, U, O⟩, O, U, hR, O⟩
     ·replace hR := zn hR h2;refine qn ?_;exact ⟨U, (s89 [(qhg y6), (qhh a0 y7)]), ⟨U, U, U, O⟩, O, U, hR, O⟩
    ·rintro x5 hR;replace hR : qdh (fun z0_ z1_ => vn a0 k4 z0_ z1_) x3 x5 = some R := hR;unfold qdh at hR;refine qa [.p, .p, .p]<|sm U U<|su (zl U U U iF) U<|sa U U<|qc ?_;exact ⟨U, (k4, x5, x3 + 1), ⟨U, U, U, O⟩, O, U, ⟨iB, iB, iB, hR⟩, by simp⟩
   ·replace h1 : ((decide (x3 < (List.length a0.Leases : Int))) && (decide (x2 = 0))) = false := h1;replace hR := zn hR h1;(try simp only [bB] at h1);refine zr ?_;refine jy (γ := Int) (fun g => ([(1, .g (G.ref [G.str a0.Request.Name, G.str a0.Request.Carrier, G.str a0.Request.Kind, G.str a0.Request.Terminal, G.str a0.Request.Partner, G.str a0.Request.Link, G.int a0.Request.Period.fFrom, G.int a0.Request.Period.fTo, G.int a0.Request.Period.Days, G.int a0.Request.Minute, G.int a0.Request.Seats, G.int a0.Request.Size, G.int a0.Request.Noise, G.str a0.Holder, G.sl 3 (List.map S5102.c a0.Leases), G.sl 1 (List.map cStr a0.Shares)])), (3, .g (G.int g))], [])) (fun g => qb6 a0 g = some R) ?_ ?_
    ·refine qb<|qa [.p, .p, .p, .p, .p, .p, .p, .p]<|sm U U<|su (jq U U U) U<|sm U U<|sg U U (fun h => qd U qbh U) U<|sg U U (fun h => qg U ty22 (gd h U)) U<|sg U U (fun h => qy (f := cStr) (l := a0.Shares) U Tryz.underlying35 (gd h U)) U<|sg U U (fun h => z6 U (gd h U) U) U<|su (zy U U U U) U<|qc ?_;refine ql _ U (fun h6 => ?_) (fun h6 => ?_)
     ·replace hR := zm hR h6;refine qa [.p]<|sa U U<|qc ?_;exact ⟨U, 5, ⟨U, U, O⟩, O, U, hR, O⟩
     ·replace hR := zn hR h6;refine qn ?_;exact ⟨U, x2, ⟨U, U, O⟩, O, U, hR, O⟩
    ·rintro x10 hR;replace hR : qb6 a0 x10 = some R := hR;unfold qb6 at hR;refine qb<|qb<|qa [.p]<|sa U U<|qc<|qq<|za (γ := Nat × Int × Int) (fun g => ([(1, .g (G.ref [G.str a0.Request.Name, G.str a0.Request.Carrier, G.str a0.Request.Kind, G.str a0.Request.Terminal, G.str a0.Request.Partner, G.str a0.Request.Link, G.int a0.Request.Period.fFrom, G.int a0.Request.Period.fTo, G.int a0.Request.Period.Days, G.int a0.Request.Minute, G.int a0.Request.Seats, G.int a0.Request.Size, G.int a0.Request.Noise, G.str a0.Holder, G.sl 3 (List.map S5102.c a0.Leases), G.sl 1 (List.map cStr a0.Shares)])), (3, .g (G.int g.2.1)), (5, .g (G.int g.2.2))], [])) (fun g => ((List.length a0.Shares : Int) - g.2.2).toNat < g.1 ∧ 0 ≤ g.2.2 ∧ g.2.2 ≤ (List.length a0.Shares : Int) ∧ j9 a0 g.1 g.2.1 g.2.2 = some R) (fun g => g.1) ⟨U, ((((List.length a0.Shares : Int) - 0).toNat) + 1, x10, 0), ⟨U, U, U, O⟩, O, U, ⟨Nat.lt_succ_self _, iD, iD, (by exact hR)⟩, O⟩ ?_
     ·rintro ⟨k13, x11, x12⟩ ⟨hk2, iv2_0, iv2_1, hR⟩;replace hk2 : ((List.length a0.Shares : Int) - x12).toNat < k13 := hk2;replace hR : j9 a0 k13 x11 x12 = some R := hR;replace iv2_0 : 0 ≤ x12 := iv2_0;replace iv2_1 : x12 ≤ (List.length a0.Shares : Int) := iv2_1;obtain ⟨k13, rfl⟩ : ∃ m, k13 = m + 1 := ⟨k13 - 1, by omega⟩;rw [j9] at hR;(try dsimp only at hR);refine qb<|qb<|qa [.p, .p, .p, .p, .p, .p, .p, .p, .p]<|sm U U<|su (qd U qbh U) U<|su (qg U ty22 U) U<|su (qy (f := cStr) (l := a0.Shares) U Tryz.underlying35 U) U<|su (ze U U U) U<|sm U U<|sg U U (fun h => qk U U) U<|sg U U (fun h => jq U (gd h U) U) U<|su (zy U U U U) U<|qc ?_;refine ql _ U (fun h3 => ?_) (fun h3 => ?_)
      ·replace h3 : ((decide (x12 < (List.length a0.Shares : Int))) && (decide (x11 = 0))) = true := h3;replace hR := zm hR h3;(try simp only [bB] at h3);refine qn ?_;refine jy (γ := Int) (fun g => ([(1, .g (G.ref [G.str a0.Request.Name, G.str a0.Request.Carrier, G.str a0.Request.Kind, G.str a0.Request.Terminal, G.str a0.Request.Partner, G.str a0.Request.Link, G.int a0.Request.Period.fFrom, G.int a0.Request.Period.fTo, G.int a0.Request.Period.Days, G.int a0.Request.Minute, G.int a0.Request.Seats, G.int a0.Request.Size, G.int a0.Request.Noise, G.str a0.Holder, G.sl 3 (List.map S5102.c a0.Leases), G.sl 1 (List.map cStr a0.Shares)])), (3, .g (G.int g)), (5, .g (G.int x12))], [])) (fun g => qfd (fun z0_ z1_ => j9 a0 k13 z0_ z1_) x12 g = some R) ?_ ?_
       ·refine qq<|qb ?_;obtain ⟨y15, by15, hR⟩ := qi hR;refine qa [.p, .p, .p, .p, .p, .p, .p]<|su (qd U qbh U) U<|su (qg U ty22 U) U<|sm U U<|su (z4 (f := cStr) (l := a0.Shares) (a := y15) U Tryz.underlying35 ty9 U U (jl by15) (zk by15)) U<|su (qg U ty9 U) U<|su (qf U q32 U (q31 y15) (qe U qj)) U<|sa U U<|qc ?_;refine jy (γ := Int) (fun g => ([(1, .g (G.ref [G.str a0.Request.Name, G.str a0.Request.Carrier, G.str a0.Request.Kind, G.str a0.Request.Terminal, G.str a0.Request.Partner, G.str a0.Request.Link, G.int a0.Request.Period.fFrom, G.int a0.Request.Period.fTo, G.int a0.Request.Period.Days, G.int a0.Request.Minute, G.int a0.Request.Seats, G.int a0.Request.Size, G.int a0.Request.Noise, G.str a0.Holder, G.sl 3 (List.map S5102.c a0.Leases), G.sl 1 (List.map cStr a0.Shares)])), (3, .g (G.int g)), (5, .g (G.int x12))], [])) (fun g => qbg (fun z0_ z1_ => j9 a0 k13 z0_ z1_) a0 x12 g = some R) ?_ ?_
        ·refine qb ?_;obtain ⟨y18, by18, hR⟩ := qi hR;refine zt [.p, .p, .p, .p, .p, .p, .p, .p, .p, .p, .p, .p] (by kernel_rfl)<|sm U U<|su (jq U U U) U<|sm U U<|sg U U (fun h => qd U qbh U) U<|sg U U (fun h => qg U ty22 (gd h U)) U<|sg U U (fun h => qk U U) U<|sg U U (fun h => z4 (f := cStr) (l := a0.Shares) (a := y18) U Tryz.underlying35 ty9 (gd h U) (gd h U) (jl (xm by18 h)) (zk (xm by18 h))) U<|sg U U (fun h => qg U ty9 (gd h U)) U<|sg U U (fun h => qd U qhi U) U<|sg U U (fun h => qg U ty9 (gd h U)) U<|sg U U (fun h => ky U (gd h U) (gd h U)) U<|su (zy U U U U) U<|qc ?_;refine ql _ U (fun h5 => ?_) (fun h5 => ?_)
         ·replace hR := zm hR h5;refine qa [.p]<|sa U U<|qc ?_;exact ⟨U, 31, ⟨U, U, U, O⟩, O, U, hR, O⟩
         ·replace hR := zn hR h5;refine qn ?_;exact ⟨U, (qdr y15), ⟨U, U, U, O⟩, O, U, hR, O⟩
        ·rintro x16 hR;replace hR : qbg (fun z0_ z1_ => j9 a0 k13 z0_ z1_) a0 x12 x16 = some R := hR;unfold qbg at hR;refine qb ?_;obtain ⟨y17, by17, hR⟩ := qi hR;refine zt [.p, .p, .p, .p, .p, .p, .p, .p, .p, .p, .p, .p, .p, .p] (by kernel_rfl)<|sm U U<|su (jq U U U) U<|sm U U<|sg U U (fun h => qd U qbh U) U<|sg U U (fun h => qg U ty22 (gd h U)) U<|sg U U (fun h => qk U U) U<|sg U U (fun h => qeq (f := cStr) (l := a0.Shares) U Tryz.underlying35 ty9 (gd h U) qbi (qbj (gd h U) (by omega)) (by omega) (by omega)) U<|sg U U (fun h => qd U qbh U) U<|sg U U (fun h => qg U ty22 (gd h U)) U<|sg U U (fun h => qk U U) U<|sg U U (fun h => z4 (f := cStr) (l := a0.Shares) (a := y17) U Tryz.underlying35 ty9 (gd h U) (gd h U) (jl (xm by17 h)) (zk (xm by17 h))) U<|sg U U (fun h => qg U ty9 (gd h U)) U<|sg U U (fun h => qf U K92 U (c92 (List.take (Int.toNat x12) a0.Shares) y17) (qe (gd h U) (qe (gd h U) qj))) U<|su (zy U U U U) U<|qc ?_;refine ql _ U (fun h4 => ?_) (fun h4 => ?_)
         ·replace hR := zm hR h4;refine qa [.p]<|sa U U<|qc ?_;exact ⟨U, 9, ⟨U, U, U, O⟩, O, U, hR, O⟩
         ·replace hR := zn hR h4;refine qn ?_;exact ⟨U, x16, ⟨U, U, U, O⟩, O, U, hR, O⟩
       ·rintro x14 hR;replace hR : qfd (fun z0_ z1_ => j9 a0 k13 z0_ z1_) x12 x14 = some R := hR;unfold qfd at hR;refine qa [.p, .p, .p]<|sm U U<|su (zl U U U iF) U<|sa U U<|qc ?_;exact ⟨U, (k13, x14, x12 + 1), ⟨U, U, U, O⟩, O, U, ⟨iB, iB, iB, hR⟩, by simp⟩
      ·replace hR := zn hR h3;refine zr<|qb<|qa [.p, .p]<|sm U U<|sa U U<|qc<|qo ?_;obtain rfl := Option.some.inj hR;exact zb U (rv_g U)
def qpn (a0 : S5072) : Int :=
 (s89 [(qil a0.Request), (s90 a0.Rank 0 999999999)])
theorem q99 {g : GL} (a0 : S5072)    : Con (EG g) 78 [G.agg (S5072.c a0)] (G.int (qpn a0)) := by
 generalize hR : qpn a0 = R;unfold qpn at hR;refine qm Tryz.func78 U U fun w0 M0 => ?_;refine qb<|qa [.p, .p]<|su (zg U U) U<|sa U U<|qc<|qb<|zt [.p, .p, .p, .p, .p, .p, .p, .p, .p] (by kernel_rfl)<|su (qd U qd7 U) U<|su (qp U w5 U U U) U<|su (qf U q6j U (q6k a0.Request) (qe U qj)) U<|su (qd U qhj U) U<|su (qg U ty3 U) U<|su (qf U K90 U (c90 a0.Rank 0 999999999) (qe U (qe U (qe U qj)))) U ?_;refine su (qt U Tryz.underlying38 ty3 z3 U (qv U (qv U jh)) U (by simp []) (by decide)) U ?_;refine su (qf U K89 U (c89 [(qil a0.Request), (s90 a0.Rank 0 999999999)]) (qe U qj)) U<|sa U U<|qc<|qo ?_;subst hR;exact zb U (rv_g U)
def qq5 (a0 : S5072) (a1 : S5072) : Bool :=
 (decide (a0.Rank < a1.Rank)) || ((decide (a0.Rank = a1.Rank)) && (qa9 a0.Request.Name a1.Request.Name))
theorem zaa {g : GL} (a0 : S5072) (a1 : S5072)    : Con (EG g) 79 [G.agg (S5072.c a0), G.agg (S5072.c a1)] (G.bool (qq5 a0 a1)) := by
 generalize hR : qq5 a0 a1 = R;unfold qq5 at hR;refine qm Tryz.func79 U U fun w0 M0 => ?_;refine qb<|qa [.p, .p, .p]<|su (zg U U) U<|su (zg U U) U<|sa U U<|qc<|qb<|qa [.p, .p, .p, .p, .p, .p, .p, .p, .p, .p, .p, .p, .p, .p, .p, .p, .p, .p, .p, .p, .p, .p]<|su (qd U qhj U) U<|su (qg U ty3 U) U<|su (qd U qhj U) U<|su (qg U ty3 U) U<|su (ze U U U) U<|sm U U<|sg U U (fun h => qd U qhj U) U<|sg U U (fun h => qg U ty3 (gd h U)) U<|sg U U (fun h => qd U qhj U) U<|sg U U (fun h => qg U ty3 (gd h U)) U<|sg U U (fun h => jq U (gd h U) (gd h U)) U<|sg U U (fun h => qk U (gd h U)) U<|st_g U U U (jr _ _ _) (fun h => qd U qd7 U) U<|st_g U U U (jr _ _ _) (fun h => qd U vh (gd h U)) U<|st_g U U U (jr _ _ _) (fun h => qg U ty9 (gd h U)) U<|st_g U U U (jr _ _ _) (fun h => qd U qd7 U) U<|st_g U U U (jr _ _ _) (fun h => qd U vh (gd h U)) U<|st_g U U U (jr _ _ _) (fun h => qg U ty9 (gd h U)) U<|st_g U U U (jr _ _ _) (fun h => qvu U (gd h U) (gd h U)) U<|sg U U (fun h => zy U (gd h U) U (gd2 h U)) U<|su (jm U U U U) U<|sa U U<|qc<|qo ?_;subst hR;exact zb U (rv_g U)
def qb7 (a1 : ByteArray) : List S5036 → Nat → Int
 | [], k2 => (-1)
 | y3 :: t4, k2 => (bif decide (y3.Request.Name = a1) then ((k2 : Nat) : Int) else qb7 a1 t4 (k2 + 1))
def qq6 (a0 : List S5036) (a1 : ByteArray) : Int :=
 qb7 a1 a0 0
theorem q6l {g : GL} (a0 : List S5036) (a1 : ByteArray)    : Con (EG g) 16 [G.sl 16 (List.map S5036.c a0), G.str a1] (G.int (qq6 a0 a1)) := by
 generalize hR : qq6 a0 a1 = R;unfold qq6 at hR;refine qm Tryz.func16 U U fun w0 M0 => ?_;refine zp (f := S5036.c) (l := a0) 0 U fun hla0 => ?_;refine qb<|qa [.p]<|sa U U<|qc<|qb<|qb<|qa [.p]<|sa U U<|qc<|qq<|za (γ := Nat × (List S5036)) (fun g => ([(0, .g (G.sl 16 (List.map S5036.c a0))), (1, .g (G.str a1)), (5, .g (G.int ((g.1 : Nat) : Int)))], [])) (fun g => a0.drop g.1 = g.2 ∧ qb7 a1 g.2 g.1 = R) (fun g => List.length g.2) ⟨U, (0, a0), ⟨U, U, U, O⟩, O, U, ⟨U, (by exact hR)⟩, O⟩ ?_
 ·rintro ⟨k2, t4⟩ ⟨hd, hR⟩;replace hd : a0.drop k2 = t4 := hd;replace hR : qb7 a1 t4 k2 = R := hR;refine qb<|qb<|qa [.p, .p, .p, .p]<|sm U U<|sm U U<|su (qy (f := S5036.c) (l := a0) U Tryz.underlying23 U) U<|su (ze U U U) U<|qc ?_;refine zp (f := S5036.c) (l := a0) 0 U fun hlz1 => ?_;refine ql _ U (fun h1 => ?_) (fun h1 => ?_)
  ·replace h1 : (decide (((k2 : Nat) : Int) < (List.length a0 : Int))) = true := h1;obtain ⟨y3, t4, rfl, hx1, hd⟩ := zq hd (decT h1);replace h1 := decT h1;rw [qb7] at hR;(try dsimp only at hR);refine qn<|qb<|qq<|qb<|qa [.p, .p, .p, .p, .p, .p, .p, .p]<|sm U U<|sm U U<|su (z4 (f := S5036.c) (l := a0) (a := y3) U Tryz.underlying23 qbs U U (Int.natCast_nonneg _) hx1) U<|su (qd U qbf U) U<|su (qd U vh U) U<|su (qg U ty9 U) U<|sm U U<|su (ky U U U) U<|qc ?_;refine ql _ U (fun h3 => ?_) (fun h3 => ?_)
   ·replace hR := zm hR h3;refine qb<|qa [.p, .p]<|sm U U<|sa U U<|qc<|qo ?_;subst hR;exact zb U (rv_g U)
   ·replace h3 : (decide (y3.Request.Name = a1)) = false := h3;replace hR := zn hR h3;(try simp only [bB] at h3);refine qn<|qa [.p, .p, .p]<|sm U U<|su (zl U U U iE) U<|sa U U<|qc ?_;exact ⟨U, (k2 + 1, t4), ⟨U, U, U, O⟩, O, U, ⟨hd, hR⟩, by simp⟩
  ·replace h1 : (decide (((k2 : Nat) : Int) < (List.length a0 : Int))) = false := h1;obtain rfl := zu hd (decF h1);rw [qb7] at hR;refine zr<|qb<|qa [.p]<|sa U U<|qc<|qo ?_;subst hR;exact zb U (rv_g U)
def qb8 (a1 : ByteArray) : List S5072 → Nat → Int
 | [], k2 => (-1)
 | y3 :: t4, k2 => (bif decide (y3.Request.Name = a1) then ((k2 : Nat) : Int) else qb8 a1 t4 (k2 + 1))
def qvy (a0 : List S5072) (a1 : ByteArray) : Int :=
 qb8 a1 a0 0
theorem zab {g : GL} (a0 : List S5072) (a1 : ByteArray)    : Con (EG g) 17 [G.sl 14 (List.map S5072.c a0), G.str a1] (G.int (qvy a0 a1)) := by
 generalize hR : qvy a0 a1 = R;unfold qvy at hR;refine qm Tryz.func17 U U fun w0 M0 => ?_;refine zp (f := S5072.c) (l := a0) 0 U fun hla0 => ?_;refine qb<|qa [.p]<|sa U U<|qc<|qb<|qb<|qa [.p]<|sa U U<|qc<|qq<|za (γ := Nat × (List S5072)) (fun g => ([(0, .g (G.sl 14 (List.map S5072.c a0))), (1, .g (G.str a1)), (5, .g (G.int ((g.1 : Nat) : Int)))], [])) (fun g => a0.drop g.1 = g.2 ∧ qb8 a1 g.2 g.1 = R) (fun g => List.length g.2) ⟨U, (0, a0), ⟨U, U, U, O⟩, O, U, ⟨U, (by exact hR)⟩, O⟩ ?_
 ·rintro ⟨k2, t4⟩ ⟨hd, hR⟩;replace hd : a0.drop k2 = t4 := hd;replace hR : qb8 a1 t4 k2 = R := hR;refine qb<|qb<|qa [.p, .p, .p, .p]<|sm U U<|sm U U<|su (qy (f := S5072.c) (l := a0) U Tryz.underlying24 U) U<|su (ze U U U) U<|qc ?_;refine zp (f := S5072.c) (l := a0) 0 U fun hlz1 => ?_;refine ql _ U (fun h1 => ?_) (fun h1 => ?_)
  ·replace h1 : (decide (((k2 : Nat) : Int) < (List.length a0 : Int))) = true := h1;obtain ⟨y3, t4, rfl, hx1, hd⟩ := zq hd (decT h1);replace h1 := decT h1;rw [qb8] at hR;(try dsimp only at hR);refine qn<|qb<|qq<|qb<|qa [.p, .p, .p, .p, .p, .p, .p, .p]<|sm U U<|sm U U<|su (z4 (f := S5072.c) (l := a0) (a := y3) U Tryz.underlying24 qdi U U (Int.natCast_nonneg _) hx1) U<|su (qd U qd7 U) U<|su (qd U vh U) U<|su (qg U ty9 U) U<|sm U U<|su (ky U U U) U<|qc ?_;refine ql _ U (fun h3 => ?_) (fun h3 => ?_)
   ·replace hR := zm hR h3;refine qb<|qa [.p, .p]<|sm U U<|sa U U<|qc<|qo ?_;subst hR;exact zb U (rv_g U)
   ·replace h3 : (decide (y3.Request.Name = a1)) = false := h3;replace hR := zn hR h3;(try simp only [bB] at h3);refine qn<|qa [.p, .p, .p]<|sm U U<|su (zl U U U iE) U<|sa U U<|qc ?_;exact ⟨U, (k2 + 1, t4), ⟨U, U, U, O⟩, O, U, ⟨hd, hR⟩, by simp⟩
  ·replace h1 : (decide (((k2 : Nat) : Int) < (List.length a0 : Int))) = false := h1;obtain rfl := zu hd (decF h1);rw [qb8] at hR;refine zr<|qb<|qa [.p]<|sa U U<|qc<|qo ?_;subst hR;exact zb U (rv_g U)
def qkx (a0 : S115) : Bool :=
 (qzx a0) && ((decide ((s40 a0.Period) ≠ 0)) || (decide (IntKind.i64.wrap (a0.Period.fTo - a0.Period.fFrom) < 14)))
theorem q6m {g : GL} (a0 : S115)    : Con (EG g) 76 [G.agg (S115.c a0)] (G.bool (qkx a0)) := by
 generalize hR : qkx a0 = R;unfold qkx at hR;refine qm Tryz.func76 U U fun w0 M0 => ?_;refine qb<|qa [.p, .p]<|su (zg U U) U<|sa U U<|qc<|qb<|qa [.p, .p, .p, .p, .p, .p, .p, .p, .p, .p, .p, .p, .p, .p, .p, .p, .p, .p, .p]<|su (qp U w5 U U U) U<|su (qf U zac U (zad a0) (qe U qj)) U<|sm U U<|sg U U (fun h => qd U wd U) U<|sg U U (fun h => qp U ty46 (gd h U) U U) U<|sg U U (fun h => qf U K40 U (c40 a0.Period) (qe (gd h U) qj)) U<|sg U U (fun h => zx U (gd h U) U) U<|sg U U (fun h => qk U (gd h U)) U<|st_g U U U (jr _ _ _) (fun h => qd U wd U) U<|st_g U U U (jr _ _ _) (fun h => qd U qb1 (gd h U)) U<|st_g U U U (jr _ _ _) (fun h => qg U ty3 (gd h U)) U<|st_g U U U (jr _ _ _) (fun h => qd U wd U) U<|st_g U U U (jr _ _ _) (fun h => qd U qdg (gd h U)) U<|st_g U U U (jr _ _ _) (fun h => qg U ty3 (gd h U)) U<|st_g U U U (jr _ _ _) (fun h => ku U (gd h U) (gd h U)) U<|st_g U U U (jr _ _ _) (fun h => ze U (gd h U) U) U<|sg U U (fun h => jm U (gd h U) U (gd2 h U)) U<|su (zy U U U U) U<|sa U U<|qc<|qo ?_;subst hR;exact zb U (rv_g U)
def qfe  : List ByteArray → Nat → Bool
 | [], k6 => true
 | y7 :: t8, k6 => (bif decide (40 < (ByteArray.size y7 : Int)) then false else qfe  t8 (k6 + 1))
def qff (a0 : S5036) : List S5102 → Nat → Bool
 | [], k2 => qfe a0.Shares 0
 | y3 :: t4, k2 => (bif decide (40 < (ByteArray.size y3.Carrier : Int)) then false else qff a0 t4 (k2 + 1))
def qnv (a0 : S5036) : Bool :=
 (bif (((!(qkx a0.Request)) || (decide (40 < (ByteArray.size a0.Holder : Int)))) || ((decide (4 < (List.length a0.Leases : Int))) && (decide ((List.length a0.Leases : Int) ≠ 9)))) || (decide (5 < (List.length a0.Shares : Int))) then false else qff a0 a0.Leases 0)
theorem zae {g : GL} (a0 : S5036)    : Con (EG g) 75 [G.agg [G.str a0.Request.Name, G.str a0.Request.Carrier, G.str a0.Request.Kind, G.str a0.Request.Terminal, G.str a0.Request.Partner, G.str a0.Request.Link, G.int a0.Request.Period.fFrom, G.int a0.Request.Period.fTo, G.int a0.Request.Period.Days, G.int a0.Request.Minute, G.int a0.Request.Seats, G.int a0.Request.Size, G.int a0.Request.Noise, G.str a0.Holder, G.sl 3 (List.map S5102.c a0.Leases), G.sl 1 (List.map cStr a0.Shares)]] (G.bool (qnv a0)) := by
 generalize hR : qnv a0 = R;unfold qnv at hR;refine qm Tryz.func75 U U fun w0 M0 => ?_;refine qb<|qa [.p, .p]<|su (zg U U) U<|sa U U<|qc<|qb<|qb<|qa [.p, .p, .p, .p, .p, .p, .p, .p, .p, .p, .p, .p, .p, .p, .p, .p, .p, .p, .p, .p, .p, .p, .p, .p, .p, .p, .p, .p]<|su (qd U qbf U) U<|su (qp U w5 U U U) U<|su (qf U q6n U (q6m a0.Request) (qe U qj)) U<|su (jn U U) U<|sm U U<|sg U U (fun h => qd U qhi U) U<|sg U U (fun h => qg U ty9 (gd h U)) U<|sg U U (fun h => vd U Tryz.underlying9 (gd h U)) U<|sg U U (fun h => z6 U (gd h U) U) U<|su (jm U U U U) U<|sm U U<|sg U U (fun h => qd U qas U) U<|sg U U (fun h => qg U qeo (gd h U)) U<|sg U U (fun h => qy (f := S5102.c) (l := a0.Leases) U Tryz.underlying34 (gd h U)) U<|sg U U (fun h => z6 U (gd h U) U) U<|sg U U (fun h => qk U (gd h U)) U<|st_g U U U (jr _ _ _) (fun h => qd U qas U) U<|st_g U U U (jr _ _ _) (fun h => qg U qeo (gd h U)) U<|st_g U U U (jr _ _ _) (fun h => qy (f := S5102.c) (l := a0.Leases) U Tryz.underlying34 (gd h U)) U<|st_g U U U (jr _ _ _) (fun h => zx U (gd h U) U) U<|sg U U (fun h => zy U (gd h U) U (gd2 h U)) U<|su (jm U U U U) U<|sm U U<|sg U U (fun h => qd U qbh U) U<|sg U U (fun h => qg U ty22 (gd h U)) U<|sg U U (fun h => qy (f := cStr) (l := a0.Shares) U Tryz.underlying35 (gd h U)) U<|sg U U (fun h => z6 U (gd h U) U) U<|su (jm U U U U) U<|qc ?_;refine ql _ U (fun h1 => ?_) (fun h1 => ?_)
 ·replace hR := zm hR h1;refine qb<|qa [.p]<|sa U U<|qc<|qo ?_;subst hR;exact zb U (rv_g U)
 ·replace h1 : ((((!(qkx a0.Request)) || (decide (40 < (ByteArray.size a0.Holder : Int)))) || ((decide (4 < (List.length a0.Leases : Int))) && (decide ((List.length a0.Leases : Int) ≠ 9)))) || (decide (5 < (List.length a0.Shares : Int)))) = false := h1;replace hR := zn hR h1;(try simp only [bB] at h1);refine qn<|qb<|qb<|qa [.p]<|sa U U<|qc<|qq<|za (γ := Nat × (List S5102)) (fun g => ([(1, .g (G.ref [G.str a0.Request.Name, G.str a0.Request.Carrier, G.str a0.Request.Kind, G.str a0.Request.Terminal, G.str a0.Request.Partner, G.str a0.Request.Link, G.int a0.Request.Period.fFrom, G.int a0.Request.Period.fTo, G.int a0.Request.Period.Days, G.int a0.Request.Minute, G.int a0.Request.Seats, G.int a0.Request.Size, G.int a0.Request.Noise, G.str a0.Holder, G.sl 3 (List.map S5102.c a0.Leases), G.sl 1 (List.map cStr a0.Shares)])), (3, .g (G.int ((g.1 : Nat) : Int)))], [])) (fun g => a0.Leases.drop g.1 = g.2 ∧ qff a0 g.2 g.1 = R) (fun g => List.length g.2) ⟨U, (0, a0.Leases), ⟨U, U, O⟩, O, U, ⟨U, (by exact hR)⟩, O⟩ ?_
  ·rintro ⟨k2, t4⟩ ⟨hd, hR⟩;replace hd : a0.Leases.drop k2 = t4 := hd;replace hR : qff a0 t4 k2 = R := hR;refine qb<|qb<|qa [.p, .p, .p, .p, .p]<|sm U U<|su (qd U qas U) U<|su (qg U qeo U) U<|su (qy (f := S5102.c) (l := a0.Leases) U Tryz.underlying34 U) U<|su (ze U U U) U<|qc ?_;refine zp (f := S5102.c) (l := a0.Leases) 35 U fun hlz1 => ?_;refine ql _ U (fun h2 => ?_) (fun h2 => ?_)
   ·replace h2 : (decide (((k2 : Nat) : Int) < (List.length a0.Leases : Int))) = true := h2;obtain ⟨y3, t4, rfl, hx1, hd⟩ := zq hd (decT h2);replace h2 := decT h2;rw [qff] at hR;(try dsimp only at hR);refine qn<|qb<|qq<|qb<|qa [.p, .p, .p, .p, .p, .p, .p, .p]<|su (qd U qas U) U<|su (qg U qeo U) U<|sm U U<|su (z4 (f := S5102.c) (l := a0.Leases) (a := y3) U Tryz.underlying34 qep U U (Int.natCast_nonneg _) hx1) U<|su (qd U qnu U) U<|su (qg U ty9 U) U<|su (vd U Tryz.underlying9 U) U<|su (z6 U U U) U<|qc ?_;refine ql _ U (fun h7 => ?_) (fun h7 => ?_)
    ·replace hR := zm hR h7;refine qb<|qa [.p]<|sa U U<|qc<|qo ?_;subst hR;exact zb U (rv_g U)
    ·replace h7 : (decide (40 < (ByteArray.size y3.Carrier : Int))) = false := h7;replace hR := zn hR h7;(try simp only [bB] at h7);refine qn<|qa [.p, .p, .p]<|sm U U<|su (zl U U U iE) U<|sa U U<|qc ?_;exact ⟨U, (k2 + 1, t4), ⟨U, U, O⟩, O, U, ⟨hd, hR⟩, by simp⟩
   ·replace h2 : (decide (((k2 : Nat) : Int) < (List.length a0.Leases : Int))) = false := h2;obtain rfl := zu hd (decF h2);rw [qff] at hR;refine zr<|qb<|qb<|qa [.p]<|sa U U<|qc<|qq<|za (γ := Nat × (List ByteArray)) (fun g => ([(1, .g (G.ref [G.str a0.Request.Name, G.str a0.Request.Carrier, G.str a0.Request.Kind, G.str a0.Request.Terminal, G.str a0.Request.Partner, G.str a0.Request.Link, G.int a0.Request.Period.fFrom, G.int a0.Request.Period.fTo, G.int a0.Request.Period.Days, G.int a0.Request.Minute, G.int a0.Request.Seats, G.int a0.Request.Size, G.int a0.Request.Noise, G.str a0.Holder, G.sl 3 (List.map S5102.c a0.Leases), G.sl 1 (List.map cStr a0.Shares)])), (4, .g (G.int ((g.1 : Nat) : Int)))], [])) (fun g => a0.Shares.drop g.1 = g.2 ∧ qfe  g.2 g.1 = R) (fun g => List.length g.2) ⟨U, (0, a0.Shares), ⟨U, U, O⟩, O, U, ⟨U, (by exact hR)⟩, O⟩ ?_
    ·rintro ⟨k6, t8⟩ ⟨hd, hR⟩;replace hd : a0.Shares.drop k6 = t8 := hd;replace hR : qfe  t8 k6 = R := hR;refine qb<|qb<|qa [.p, .p, .p, .p, .p]<|sm U U<|su (qd U qbh U) U<|su (qg U ty22 U) U<|su (qy (f := cStr) (l := a0.Shares) U Tryz.underlying35 U) U<|su (ze U U U) U<|qc ?_;refine zp (f := cStr) (l := a0.Shares) 50 U fun hlz2 => ?_;refine ql _ U (fun h4 => ?_) (fun h4 => ?_)
     ·replace h4 : (decide (((k6 : Nat) : Int) < (List.length a0.Shares : Int))) = true := h4;obtain ⟨y7, t8, rfl, hx2, hd⟩ := zq hd (decT h4);replace h4 := decT h4;rw [qfe] at hR;(try dsimp only at hR);refine qn<|qb<|qq<|qb<|qa [.p, .p, .p, .p, .p, .p, .p]<|su (qd U qbh U) U<|su (qg U ty22 U) U<|sm U U<|su (z4 (f := cStr) (l := a0.Shares) (a := y7) U Tryz.underlying35 ty9 U U (Int.natCast_nonneg _) hx2) U<|su (qg U ty9 U) U<|su (vd U Tryz.underlying9 U) U<|su (z6 U U U) U<|qc ?_;refine ql _ U (fun h6 => ?_) (fun h6 => ?_)
      ·replace hR := zm hR h6;refine qb<|qa [.p]<|sa U U<|qc<|qo ?_;subst hR;exact zb U (rv_g U)
      ·replace h6 : (decide (40 < (ByteArray.size y7 : Int))) = false := h6;replace hR := zn hR h6;(try simp only [bB] at h6);refine qn<|qa [.p, .p, .p]<|sm U U<|su (zl U U U iE) U<|sa U U<|qc ?_;exact ⟨U, (k6 + 1, t8), ⟨U, U, O⟩, O, U, ⟨hd, hR⟩, by simp⟩
     ·replace h4 : (decide (((k6 : Nat) : Int) < (List.length a0.Shares : Int))) = false := h4;obtain rfl := zu hd (decF h4);rw [qfe] at hR;refine zr<|qb<|qa [.p]<|sa U U<|qc<|qo ?_;subst hR;exact zb U (rv_g U)
def qb9  : List S5072 → Nat → Bool
 | [], k6 => true
 | y7 :: t8, k6 => (bif !(qkx y7.Request) then false else qb9  t8 (k6 + 1))
def qbk (a0 : S5025) : List S5036 → Nat → Bool
 | [], k2 => qb9 a0.Waiting 0
 | y3 :: t4, k2 => (bif !(qnv y3) then false else qbk a0 t4 (k2 + 1))
def qky (a0 : S5025) : Bool :=
 (bif ((decide (5 < (List.length a0.Slots : Int))) && (decide ((List.length a0.Slots : Int) ≠ 65))) || ((decide (5 < (List.length a0.Waiting : Int))) && (decide ((List.length a0.Waiting : Int) ≠ 65))) then false else qbk a0 a0.Slots 0)
theorem zaf {g : GL} (a0 : S5025)    : Con (EG g) 34 [G.agg [G.sl 16 (List.map S5036.c a0.Slots), G.sl 14 (List.map S5072.c a0.Waiting)]] (G.bool (qky a0)) := by
 generalize hR : qky a0 = R;unfold qky at hR;refine qm Tryz.func34 U U fun w0 M0 => ?_;refine qb<|qa [.p, .p]<|su (zg U U) U<|sa U U<|qc<|qb<|qb<|qa [.p, .p, .p, .p, .p, .p, .p, .p, .p, .p, .p, .p, .p, .p, .p, .p, .p, .p, .p, .p, .p, .p]<|su (qd U wj U) U<|su (qg U qdz U) U<|su (qy (f := S5036.c) (l := a0.Slots) U Tryz.underlying23 U) U<|su (z6 U U U) U<|sm U U<|sg U U (fun h => qd U wj U) U<|sg U U (fun h => qg U qdz (gd h U)) U<|sg U U (fun h => qy (f := S5036.c) (l := a0.Slots) U Tryz.underlying23 (gd h U)) U<|sg U U (fun h => zx U (gd h U) U) U<|su (zy U U U U) U<|sm U U<|sg U U (fun h => qd U qbl U) U<|sg U U (fun h => qg U qf3 (gd h U)) U<|sg U U (fun h => qy (f := S5072.c) (l := a0.Waiting) U Tryz.underlying24 (gd h U)) U<|sg U U (fun h => z6 U (gd h U) U) U<|sg U U (fun h => qk U (gd h U)) U<|st_g U U U (jr _ _ _) (fun h => qd U qbl U) U<|st_g U U U (jr _ _ _) (fun h => qg U qf3 (gd h U)) U<|st_g U U U (jr _ _ _) (fun h => qy (f := S5072.c) (l := a0.Waiting) U Tryz.underlying24 (gd h U)) U<|st_g U U U (jr _ _ _) (fun h => zx U (gd h U) U) U<|sg U U (fun h => zy U (gd h U) U (gd2 h U)) U<|su (jm U U U U) U<|qc ?_;refine ql _ U (fun h1 => ?_) (fun h1 => ?_)
 ·replace hR := zm hR h1;refine qb<|qa [.p]<|sa U U<|qc<|qo ?_;subst hR;exact zb U (rv_g U)
 ·replace h1 : (((decide (5 < (List.length a0.Slots : Int))) && (decide ((List.length a0.Slots : Int) ≠ 65))) || ((decide (5 < (List.length a0.Waiting : Int))) && (decide ((List.length a0.Waiting : Int) ≠ 65)))) = false := h1;replace hR := zn hR h1;(try simp only [bB] at h1);refine qn<|qb<|qb<|qa [.p]<|sa U U<|qc<|qq<|za (γ := Nat × (List S5036)) (fun g => ([(1, .g (G.ref [G.sl 16 (List.map S5036.c a0.Slots), G.sl 14 (List.map S5072.c a0.Waiting)])), (3, .g (G.int ((g.1 : Nat) : Int)))], [])) (fun g => a0.Slots.drop g.1 = g.2 ∧ qbk a0 g.2 g.1 = R) (fun g => List.length g.2) ⟨U, (0, a0.Slots), ⟨U, U, O⟩, O, U, ⟨U, (by exact hR)⟩, O⟩ ?_
  ·rintro ⟨k2, t4⟩ ⟨hd, hR⟩;replace hd : a0.Slots.drop k2 = t4 := hd;replace hR : qbk a0 t4 k2 = R := hR;refine qb<|qb<|qa [.p, .p, .p, .p, .p]<|sm U U<|su (qd U wj U) U<|su (qg U qdz U) U<|su (qy (f := S5036.c) (l := a0.Slots) U Tryz.underlying23 U) U<|su (ze U U U) U<|qc ?_;refine zp (f := S5036.c) (l := a0.Slots) 29 U fun hlz1 => ?_;refine ql _ U (fun h2 => ?_) (fun h2 => ?_)
   ·replace h2 : (decide (((k2 : Nat) : Int) < (List.length a0.Slots : Int))) = true := h2;obtain ⟨y3, t4, rfl, hx1, hd⟩ := zq hd (decT h2);replace h2 := decT h2;rw [qbk] at hR;(try dsimp only at hR);refine qn<|qb<|qq<|qb<|qa [.p, .p, .p, .p, .p, .p, .p]<|su (qd U wj U) U<|su (qg U qdz U) U<|sm U U<|su (z4 (f := S5036.c) (l := a0.Slots) (a := y3) U Tryz.underlying23 qbs U U (Int.natCast_nonneg _) hx1) U<|su (qp U qbs U U U) U<|su (qf U zag U (zae y3) (qe U qj)) U<|su (jn U U) U<|qc ?_;refine ql _ U (fun h7 => ?_) (fun h7 => ?_)
    ·replace hR := zm hR h7;refine qb<|qa [.p]<|sa U U<|qc<|qo ?_;subst hR;exact zb U (rv_g U)
    ·replace h7 : (!(qnv y3)) = false := h7;replace hR := zn hR h7;(try simp only [bB] at h7);refine qn<|qa [.p, .p, .p]<|sm U U<|su (zl U U U iE) U<|sa U U<|qc ?_;exact ⟨U, (k2 + 1, t4), ⟨U, U, O⟩, O, U, ⟨hd, hR⟩, by simp⟩
   ·replace h2 : (decide (((k2 : Nat) : Int) < (List.length a0.Slots : Int))) = false := h2;obtain rfl := zu hd (decF h2);rw [qbk] at hR;refine zr<|qb<|qb<|qa [.p]<|sa U U<|qc<|qq<|za (γ := Nat × (List S5072)) (fun g => ([(1, .g (G.ref [G.sl 16 (List.map S5036.c a0.Slots), G.sl 14 (List.map S5072.c a0.Waiting)])), (4, .g (G.int ((g.1 : Nat) : Int)))], [])) (fun g => a0.Waiting.drop g.1 = g.2 ∧ qb9  g.2 g.1 = R) (fun g => List.length g.2) ⟨U, (0, a0.Waiting), ⟨U, U, O⟩, O, U, ⟨U, (by exact hR)⟩, O⟩ ?_
    ·rintro ⟨k6, t8⟩ ⟨hd, hR⟩;replace hd : a0.Waiting.drop k6 = t8 := hd;replace hR : qb9  t8 k6 = R := hR;refine qb<|qb<|qa [.p, .p, .p, .p, .p]<|sm U U<|su (qd U qbl U) U<|su (qg U qf3 U) U<|su (qy (f := S5072.c) (l := a0.Waiting) U Tryz.underlying24 U) U<|su (ze U U U) U<|qc ?_;refine zp (f := S5072.c) (l := a0.Waiting) 43 U fun hlz2 => ?_;refine ql _ U (fun h4 => ?_) (fun h4 => ?_)
     ·replace h4 : (decide (((k6 : Nat) : Int) < (List.length a0.Waiting : Int))) = true := h4;obtain ⟨y7, t8, rfl, hx2, hd⟩ := zq hd (decT h4);replace h4 := decT h4;rw [qb9] at hR;(try dsimp only at hR);refine qn<|qb<|qq<|qb<|qa [.p, .p, .p, .p, .p, .p, .p, .p]<|su (qd U qbl U) U<|su (qg U qf3 U) U<|sm U U<|su (z4 (f := S5072.c) (l := a0.Waiting) (a := y7) U Tryz.underlying24 qdi U U (Int.natCast_nonneg _) hx2) U<|su (qd U qd7 U) U<|su (qp U w5 U U U) U<|su (qf U q6n U (q6m y7.Request) (qe U qj)) U<|su (jn U U) U<|qc ?_;refine ql _ U (fun h6 => ?_) (fun h6 => ?_)
      ·replace hR := zm hR h6;refine qb<|qa [.p]<|sa U U<|qc<|qo ?_;subst hR;exact zb U (rv_g U)
      ·replace h6 : (!(qkx y7.Request)) = false := h6;replace hR := zn hR h6;(try simp only [bB] at h6);refine qn<|qa [.p, .p, .p]<|sm U U<|su (zl U U U iE) U<|sa U U<|qc ?_;exact ⟨U, (k6 + 1, t8), ⟨U, U, O⟩, O, U, ⟨hd, hR⟩, by simp⟩
     ·replace h4 : (decide (((k6 : Nat) : Int) < (List.length a0.Waiting : Int))) = false := h4;obtain rfl := zu hd (decF h4);rw [qb9] at hR;refine zr<|qb<|qa [.p]<|sa U U<|qc<|qo ?_;subst hR;exact zb U (rv_g U)
def qca (rec2 : Nat → Option Int) (k6 : Nat) (x10 : Int) : Option Int :=
 (bif decide (x10 ≠ 0) then some x10 else rec2 (k6 + 1))
def qcb (rec2 : Nat → Option Int) (a0 : S5025) (k6 : Nat) (y7 : S5072) (x9 : Int) : Option Int :=
 qz (bif (decide (x9 = 0)) && (decide (0 < ((k6 : Nat) : Int))) then ixO a0.Waiting (IntKind.i64.wrap (((k6 : Nat) : Int) - 1)) else some default) fun y11 => (bif ((decide (x9 = 0)) && (decide (0 < ((k6 : Nat) : Int)))) && (!(qq5 y11 y7)) then qca rec2 k6 11 else qca rec2 k6 x9)
def kw (a0 : S5025) : List S5072 → Nat → Option Int
 | [], k6 => some 0
 | y7 :: t8, k6 => (bif (decide ((qpn y7) = 0)) && ((decide (0 ≤ (qq6 a0.Slots y7.Request.Name))) || (decide (0 ≤ (qvy (List.take (Int.toNat ((k6 : Nat) : Int)) a0.Waiting) y7.Request.Name)))) then qcb (fun k_ => kw a0 t8 k_) a0 k6 y7 9 else qcb (fun k_ => kw a0 t8 k_) a0 k6 y7 (qpn y7))
def qcc (rec1 : Nat → Option Int) (k2 : Nat) (x13 : Int) : Option Int :=
 (bif decide (x13 ≠ 0) then some x13 else rec1 (k2 + 1))
def vw (a0 : S5025) : List S5036 → Nat → Option Int
 | [], k2 => (bif decide (64 < (List.length a0.Waiting : Int)) then some 5 else kw a0 a0.Waiting 0)
 | y3 :: t4, k2 => qz (qpm y3) fun r12 => (bif (decide (r12 = 0)) && (decide (0 ≤ (qq6 (List.take (Int.toNat ((k2 : Nat) : Int)) a0.Slots) y3.Request.Name))) then qcc (fun k_ => vw a0 t4 k_) k2 9 else qcc (fun k_ => vw a0 t4 k_) k2 r12)
def qq7 (a0 : S5025) : Option Int :=
 (bif decide (64 < (List.length a0.Slots : Int)) then some 5 else vw a0 a0.Slots 0)
theorem zah {g : GL} (a0 : S5025) {R : Int}  (hb : ∀ x ∈ a0.Slots, x.Leases.length ≤ 1000 ∧ x.Shares.length ≤ 1000) (hR : qq7 a0 = some R) : Con (EG g) 35 [G.agg [G.sl 16 (List.map S5036.c a0.Slots), G.sl 14 (List.map S5072.c a0.Waiting)]] (G.int R) := by
 unfold qq7 at hR;refine qm Tryz.func35 U U fun w0 M0 => ?_;refine qb<|qa [.p, .p]<|su (zg U U) U<|sa U U<|qc<|qb<|qb<|qa [.p, .p, .p, .p]<|su (qd U wj U) U<|su (qg U qdz U) U<|su (qy (f := S5036.c) (l := a0.Slots) U Tryz.underlying23 U) U<|su (z6 U U U) U<|qc ?_;refine ql _ U (fun h1 => ?_) (fun h1 => ?_)
 ·replace hR := zm hR h1;refine qb<|qa [.p]<|sa U U<|qc<|qo ?_;obtain rfl := Option.some.inj hR;exact zb U (rv_g U)
 ·replace h1 : (decide (64 < (List.length a0.Slots : Int))) = false := h1;replace hR := zn hR h1;(try simp only [bB] at h1);refine qn<|qb<|qb<|qa [.p]<|sa U U<|qc<|qq<|za (γ := Nat × (List S5036)) (fun g => ([(1, .g (G.ref [G.sl 16 (List.map S5036.c a0.Slots), G.sl 14 (List.map S5072.c a0.Waiting)])), (3, .g (G.int ((g.1 : Nat) : Int)))], [])) (fun g => a0.Slots.drop g.1 = g.2 ∧ vw a0 g.2 g.1 = some R) (fun g => List.length g.2) ⟨U, (0, a0.Slots), ⟨U, U, O⟩, O, U, ⟨U, (by exact hR)⟩, O⟩ ?_
  ·rintro ⟨k2, t4⟩ ⟨hd, hR⟩;replace hd : a0.Slots.drop k2 = t4 := hd;replace hR : vw a0 t4 k2 = some R := hR;refine qb<|qb<|qa [.p, .p, .p, .p, .p]<|sm U U<|su (qd U wj U) U<|su (qg U qdz U) U<|su (qy (f := S5036.c) (l := a0.Slots) U Tryz.underlying23 U) U<|su (ze U U U) U<|qc ?_;refine zp (f := S5036.c) (l := a0.Slots) 14 U fun hlz1 => ?_;refine ql _ U (fun h2 => ?_) (fun h2 => ?_)
   ·replace h2 : (decide (((k2 : Nat) : Int) < (List.length a0.Slots : Int))) = true := h2;obtain ⟨y3, t4, rfl, hx1, hd⟩ := zq hd (decT h2);replace h2 := decT h2;rw [vw] at hR;(try dsimp only at hR);refine qn<|qb<|qq<|qb ?_;obtain ⟨r12, br12, hR⟩ := qi hR;refine qa [.p, .p, .p, .p, .p, .p, .p]<|su (qd U wj U) U<|su (qg U qdz U) U<|sm U U<|su (z4 (f := S5036.c) (l := a0.Slots) (a := y3) U Tryz.underlying23 qbs U U (Int.natCast_nonneg _) hx1) U<|su (qp U qbs U U U) U<|su (qf U zai U (q96 y3 (hb _ (List.mem_of_getElem? hx1)).1 (hb _ (List.mem_of_getElem? hx1)).2 br12) (qe U qj)) U<|sa U U<|qc ?_;refine jy (γ := Int) (fun g => ([(1, .g (G.ref [G.sl 16 (List.map S5036.c a0.Slots), G.sl 14 (List.map S5072.c a0.Waiting)])), (3, .g (G.int ((k2 : Nat) : Int))), (4, .g (G.int g))], [])) (fun g => qcc (fun k_ => vw a0 t4 k_) k2 g = some R) ?_ ?_
    ·refine qb<|zt [.p, .p, .p, .p, .p, .p, .p, .p, .p, .p, .p, .p, .p, .p, .p, .p, .p] (by kernel_rfl)<|sm U U<|su (jq U U U) U<|sm U U<|sg U U (fun h => qd U wj U) U<|sg U U (fun h => qg U qdz (gd h U)) U<|sg U U (fun h => qk U U) U<|sg U U (fun h => qeq (f := S5036.c) (l := a0.Slots) U Tryz.underlying23 qbs (gd h U) qbi (qbj (gd h U) (Int.natCast_nonneg _)) (Nat.zero_le _) (qkz hx1)) U<|sg U U (fun h => qd U wj U) U<|sg U U (fun h => qg U qdz (gd h U)) U<|sg U U (fun h => qk U U) U<|sg U U (fun h => z4 (f := S5036.c) (l := a0.Slots) (a := y3) U Tryz.underlying23 qbs (gd h U) (gd h U) (Int.natCast_nonneg _) hx1) U<|sg U U (fun h => qd U qbf (gd h U)) U<|sg U U (fun h => qd U vh (gd h U)) U<|sg U U (fun h => qg U ty9 (gd h U)) U<|sg U U (fun h => qf U q6o U (q6l (List.take (Int.toNat ((k2 : Nat) : Int)) a0.Slots) y3.Request.Name) (qe (gd h U) (qe (gd h U) qj))) U<|sg U U (fun h => w4 U (gd h U) U) U<|su (zy U U U U) U<|qc ?_;refine ql _ U (fun h11 => ?_) (fun h11 => ?_)
     ·replace hR := zm hR h11;refine qa [.p]<|sa U U<|qc ?_;exact ⟨U, 9, ⟨U, U, U, O⟩, O, U, hR, O⟩
     ·replace hR := zn hR h11;refine qn ?_;exact ⟨U, r12, ⟨U, U, U, O⟩, O, U, hR, O⟩
    ·rintro x13 hR;replace hR : qcc (fun k_ => vw a0 t4 k_) k2 x13 = some R := hR;unfold qcc at hR;refine qb<|qa [.p, .p]<|sm U U<|su (zx U U U) U<|qc ?_;refine ql _ U (fun h10 => ?_) (fun h10 => ?_)
     ·replace hR := zm hR h10;refine qb<|qa [.p, .p]<|sm U U<|sa U U<|qc<|qo ?_;obtain rfl := Option.some.inj hR;exact zb U (rv_g U)
     ·replace h10 : (decide (x13 ≠ 0)) = false := h10;replace hR := zn hR h10;(try simp only [bB] at h10);refine qn<|qa [.p, .p, .p]<|sm U U<|su (zl U U U iE) U<|sa U U<|qc ?_;exact ⟨U, (k2 + 1, t4), ⟨U, U, O⟩, O, U, ⟨hd, hR⟩, by simp⟩
   ·replace h2 : (decide (((k2 : Nat) : Int) < (List.length a0.Slots : Int))) = false := h2;obtain rfl := zu hd (decF h2);rw [vw] at hR;refine zr<|qb<|qb<|qa [.p, .p, .p, .p]<|su (qd U qbl U) U<|su (qg U qf3 U) U<|su (qy (f := S5072.c) (l := a0.Waiting) U Tryz.underlying24 U) U<|su (z6 U U U) U<|qc ?_;refine ql _ U (fun h4 => ?_) (fun h4 => ?_)
    ·replace hR := zm hR h4;refine qb<|qa [.p]<|sa U U<|qc<|qo ?_;obtain rfl := Option.some.inj hR;exact zb U (rv_g U)
    ·replace h4 : (decide (64 < (List.length a0.Waiting : Int))) = false := h4;replace hR := zn hR h4;(try simp only [bB] at h4);refine qn<|qb<|qb<|qa [.p]<|sa U U<|qc<|qq<|za (γ := Nat × (List S5072)) (fun g => ([(1, .g (G.ref [G.sl 16 (List.map S5036.c a0.Slots), G.sl 14 (List.map S5072.c a0.Waiting)])), (5, .g (G.int ((g.1 : Nat) : Int)))], [])) (fun g => a0.Waiting.drop g.1 = g.2 ∧ kw a0 g.2 g.1 = some R) (fun g => List.length g.2) ⟨U, (0, a0.Waiting), ⟨U, U, O⟩, O, U, ⟨U, (by exact hR)⟩, O⟩ ?_
     ·rintro ⟨k6, t8⟩ ⟨hd, hR⟩;replace hd : a0.Waiting.drop k6 = t8 := hd;replace hR : kw a0 t8 k6 = some R := hR;refine qb<|qb<|qa [.p, .p, .p, .p, .p]<|sm U U<|su (qd U qbl U) U<|su (qg U qf3 U) U<|su (qy (f := S5072.c) (l := a0.Waiting) U Tryz.underlying24 U) U<|su (ze U U U) U<|qc ?_;refine zp (f := S5072.c) (l := a0.Waiting) 51 U fun hlz2 => ?_;refine ql _ U (fun h5 => ?_) (fun h5 => ?_)
      ·replace h5 : (decide (((k6 : Nat) : Int) < (List.length a0.Waiting : Int))) = true := h5;obtain ⟨y7, t8, rfl, hx2, hd⟩ := zq hd (decT h5);replace h5 := decT h5;rw [kw] at hR;(try dsimp only at hR);refine qn<|qb<|qq<|qb<|qa [.p, .p, .p, .p, .p, .w, .w]<|su (qd U qbl U) U<|su (qg U qf3 U) U<|sm U U<|su (z4 (f := S5072.c) (l := a0.Waiting) (a := y7) U Tryz.underlying24 qdi U U (Int.natCast_nonneg _) hx2) U<|su (qp U qdi U U U) U<|sw (zh 6 U q6p U U) U<|z7 U U (qw (tv := .g (G.agg (S5072.c y7))) U qdi U U U U U)<|qc<|qb<|qa [.r, .p, .p]<|sr (zj U qdi U U U U) U<|su (qf U zaj U (q99 y7) (qe U qj)) U<|sa U U<|qc ?_;refine jy (γ := Int) (fun g => ([(1, .g (G.ref [G.sl 16 (List.map S5036.c a0.Slots), G.sl 14 (List.map S5072.c a0.Waiting)])), (5, .g (G.int ((k6 : Nat) : Int))), (6, .ptr 6 0), (7, .g (G.int g))], [(6, .box [.g (G.str y7.Request.Name), .g (G.str y7.Request.Carrier), .g (G.str y7.Request.Kind), .g (G.str y7.Request.Terminal), .g (G.str y7.Request.Partner), .g (G.str y7.Request.Link), .g (G.int y7.Request.Period.fFrom), .g (G.int y7.Request.Period.fTo), .g (G.int y7.Request.Period.Days), .g (G.int y7.Request.Minute), .g (G.int y7.Request.Seats), .g (G.int y7.Request.Size), .g (G.int y7.Request.Noise), .g (G.int y7.Rank)])])) (fun g => qcb (fun k_ => kw a0 t8 k_) a0 k6 y7 g = some R) ?_ ?_
       ·refine qb<|zt [.p, .p, .p, .p, .p, .p, .p, .r, .p, .p, .p, .p, .p, .p, .p, .p, .p, .r, .p, .p, .p, .p] (by kernel_rfl)<|sm U U<|su (jq U U U) U<|sm U U<|sg U U (fun h => qd U wj U) U<|sg U U (fun h => qg U qdz (gd h U)) U<|sg U U (fun h => zo U qd7 U) U<|sg U U (fun h => zo U vh (gd h U)) U<|qk0 U U U (ji _ _) (fun h => zz U ty9 (gd h U) U U) U<|sg U U (fun h => qf U q6o U (q6l a0.Slots y7.Request.Name) (qe (gd h U) (qe (gd h U) qj))) U<|sg U U (fun h => w4 U (gd h U) U) U<|sg U U (fun h => qk U (gd h U)) U<|st_g U U U (jr _ _ _) (fun h => qd U qbl U) U<|st_g U U U (jr _ _ _) (fun h => qg U qf3 (gd h U)) U<|st_g U U U (jr _ _ _) (fun h => qk U U) U<|st_g U U U (jr _ _ _) (fun h => qeq (f := S5072.c) (l := a0.Waiting) U Tryz.underlying24 qdi (gd h U) qbi (qbj (gd h U) (Int.natCast_nonneg _)) (Nat.zero_le _) (qkz hx2)) U<|st_g U U U (jr _ _ _) (fun h => zo U qd7 U) U<|st_g U U U (jr _ _ _) (fun h => zo U vh (gd h U)) U<|qk0 U U U (jr _ _ _) (fun h => zz U ty9 (gd h U) U U) U<|st_g U U U (jr _ _ _) (fun h => qf U zak U (zab (List.take (Int.toNat ((k6 : Nat) : Int)) a0.Waiting) y7.Request.Name) (qe (gd h U) (qe (gd h U) qj))) U<|st_g U U U (jr _ _ _) (fun h => w4 U (gd h U) U) U<|sg U U (fun h => jm U (gd h U) U (gd2 h U)) U<|su (zy U U U U) U<|qc ?_;refine ql _ U (fun h9 => ?_) (fun h9 => ?_)
        ·replace hR := zm hR h9;refine qa [.p]<|sa U U<|qc ?_;exact ⟨U, 9, jA, ⟨U, O⟩, U, hR, O⟩
        ·replace hR := zn hR h9;refine qn ?_;exact ⟨U, (qpn y7), jA, ⟨U, O⟩, U, hR, O⟩
       ·rintro x9 hR;replace hR : qcb (fun k_ => kw a0 t8 k_) a0 k6 y7 x9 = some R := hR;unfold qcb at hR;refine jy (γ := Int) (fun g => ([(1, .g (G.ref [G.sl 16 (List.map S5036.c a0.Slots), G.sl 14 (List.map S5072.c a0.Waiting)])), (5, .g (G.int ((k6 : Nat) : Int))), (7, .g (G.int g))], [])) (fun g => qca (fun k_ => kw a0 t8 k_) k6 g = some R) ?_ ?_
        ·refine qb ?_;obtain ⟨y11, by11, hR⟩ := qi hR;refine zt [.p, .p, .p, .p, .p, .p, .p, .p, .p, .p, .p, .p, .p, .r, .p, .p, .p] (by kernel_rfl)<|sm U U<|su (jq U U U) U<|sm U U<|sg U U (fun h => qk U U) U<|sg U U (fun h => z6 U (gd h U) U) U<|su (zy U U U U) U<|sm U U<|sg U U (fun h => qd U qbl U) U<|sg U U (fun h => qg U qf3 (gd h U)) U<|sg U U (fun h => qk U U) U<|sg U U (fun h => ku U (gd h U) U) U<|sg U U (fun h => z4 (f := S5072.c) (l := a0.Waiting) (a := y11) U Tryz.underlying24 qdi (gd h U) (gd h U) (jl (xm by11 h)) (zk (xm by11 h))) U<|sg U U (fun h => qp U qdi (gd h U) U U) U<|qk0 U U U (ji _ _) (fun h => zj U qdi U U U U) U<|sg U U (fun h => qf U zal U (zaa y11 y7) (qe (gd h U) (qe (gd h U) qj))) U<|sg U U (fun h => jn U (gd h U)) U<|su (zy U U U U) U<|qc ?_;refine ql _ U (fun h8 => ?_) (fun h8 => ?_)
         ·replace hR := zm hR h8;refine qa [.p]<|sa U U<|qc ?_;exact ⟨U, 11, ⟨U, U, U, O⟩, O, U, hR, O⟩
         ·replace hR := zn hR h8;refine qn ?_;exact ⟨U, x9, ⟨U, U, U, O⟩, O, U, hR, O⟩
        ·rintro x10 hR;replace hR : qca (fun k_ => kw a0 t8 k_) k6 x10 = some R := hR;unfold qca at hR;refine qb<|qa [.p, .p]<|sm U U<|su (zx U U U) U<|qc ?_;refine ql _ U (fun h7 => ?_) (fun h7 => ?_)
         ·replace hR := zm hR h7;refine qb<|qa [.p, .p]<|sm U U<|sa U U<|qc<|qo ?_;obtain rfl := Option.some.inj hR;exact zb U (rv_g U)
         ·replace h7 : (decide (x10 ≠ 0)) = false := h7;replace hR := zn hR h7;(try simp only [bB] at h7);refine qn<|qa [.p, .p, .p]<|sm U U<|su (zl U U U iE) U<|sa U U<|qc ?_;exact ⟨U, (k6 + 1, t8), ⟨U, U, O⟩, O, U, ⟨hd, hR⟩, by simp⟩
      ·replace h5 : (decide (((k6 : Nat) : Int) < (List.length a0.Waiting : Int))) = false := h5;obtain rfl := zu hd (decF h5);rw [kw] at hR;refine zr<|qb<|qa [.p]<|sa U U<|qc<|qo ?_;obtain rfl := Option.some.inj hR;exact zb U (rv_g U)
def qcd  : List S2062 → Nat → (List S2062) → List S2062
 | [], k3, x1 => x1
 | y4 :: t5, k3, x1 => qcd  t5 (k3 + 1) (x1 ++ [y4])
def qim (a0 : List S2062) : List S2062 :=
 qcd a0 0 []
theorem q6q {g : GL} (a0 : List S2062)  (hb : a0.length * 112 ≤ 140737488351232)  : Con (EG g) 32 [G.sl 11 (List.map S2062.c a0)] (G.sl 11 (List.map S2062.c (qim a0))) := by
 generalize hR : qim a0 = R;unfold qim at hR;refine qm Tryz.func32 U U fun w0 M0 => ?_;refine zp (f := S2062.c) (l := a0) 0 U fun hla0 => ?_;refine qb<|qa [.w]<|sw (kh 2 138 11 U U U) U<|qc<|qb<|qa [.w]<|sw (kh 3 138 11 U U U) U<|qc<|qb<|qb<|qa [.p, .p, .p]<|sm U U<|su (qy (f := S2062.c) (l := a0) U Tryz.underlying22 U) U<|sm U U<|qc<|qq<|za (γ := Nat × (List S2062) × (List S2062)) (fun g => ([(3, .osl 3 11 0 (List.length g.2.2)), (6, .g (G.sl 11 (List.map S2062.c a0))), (7, .g (G.int (List.length a0 : Int))), (8, .g (G.int ((g.1 : Nat) : Int)))], [(3, .arr 138 11 (List.map S2062.c g.2.2))])) (fun g => g.2.2.length ≤ g.1 ∧ g.1 ≤ a0.length ∧ g.2.2.length ≤ g.1 ∧ a0.drop g.1 = g.2.1 ∧ qcd  g.2.1 g.1 g.2.2 = R) (fun g => List.length g.2.1) ⟨U, (0, a0, []), jA, ⟨U, O⟩, U, ⟨iH, iH, iH, U, (by exact hR)⟩, O⟩ ?_
 ·rintro ⟨k3, t5, x1⟩ ⟨iv1_0, iv1_1, iv1_2, hd, hR⟩;replace hd : a0.drop k3 = t5 := hd;replace hR : qcd  t5 k3 x1 = R := hR;replace iv1_0 : x1.length ≤ k3 := iv1_0;replace iv1_1 : k3 ≤ a0.length := iv1_1;replace iv1_2 : x1.length ≤ k3 := iv1_2;refine qb<|qa [.p]<|su (ze U U U) U<|qc ?_;refine zp (f := S2062.c) (l := a0) 6 U fun hlz1 => ?_;refine qb ?_;refine ql _ U (fun h1 => ?_) (fun h1 => ?_)
  ·replace h1 : (decide (((k3 : Nat) : Int) < (List.length a0 : Int))) = true := h1;obtain ⟨y4, t5, rfl, hx1, hd⟩ := zq hd (decT h1);replace h1 := decT h1;rw [qcd] at hR;(try dsimp only at hR);refine qn<|qb<|qq<|qb<|qa [.p, .p, .w, .w]<|su (z4 (f := S2062.c) (l := a0) (a := y4) U Tryz.underlying22 kq U U (Int.natCast_nonneg _) hx1) U<|su (qp U kq U U U) U<|sw (zh 5 U qub U U) U<|z7 U U (qw (tv := .g (G.agg (S2062.c y4))) U kq U U U U U)<|qc<|qa [.p, .r, .p, .k, .p]<|su (zd U U) U<|sr (zj U kq U U U U) U ?_;refine su (qt U Tryz.underlying91 qam q6r U (qv U jh) U (by simp [S2062.c, S45.c]) (by decide)) U ?_;refine st_k U U (ve (f := S2062.c) (out := x1) (new := [y4]) U q33 U U (wx U (wy (by decide) (by simp [S2062.c, S45.c]))) (qgf U) (by simp; omega)) U ?_;refine su (zw U U) U<|qc<|qa [.p, .p]<|su (zl U U U iE) U<|sm U U<|qc ?_;exact ⟨U, (k3 + 1, t5, x1 ++ [y4]), jA, ⟨U, O⟩, U, ⟨iB, iB, iB, hd, hR⟩, by simp⟩
  ·replace h1 : (decide (((k3 : Nat) : Int) < (List.length a0 : Int))) = false := h1;obtain rfl := zu hd (decF h1);rw [qcd] at hR;refine zr<|qb<|qa [.p, .p]<|su (zd U U) U<|su (zw U U) U<|qc<|qo ?_;subst hR;exact zb U (qat U U)
theorem qso {y : S5036} (h : qnv y = true) : y.Leases.length ≤ 9 ∧ y.Shares.length ≤ 5 ∧ qkx y.Request = true := by
 unfold qnv at h;rw [cond_eq_ite] at h
 split at h
 ·cases h
 ·rename_i h1
  simp only [Bool.or_eq_true, Bool.and_eq_true, decide_eq_true_eq, not_or, Bool.not_eq_true', Bool.not_eq_false, not_and, Decidable.not_not, ne_eq] at h1;obtain ⟨⟨⟨a1, a2⟩, a3⟩, a4⟩ := h1;refine ⟨?_, by omega, a1⟩
  by_cases h5 : (4 : Int) < (y.Leases.length : Int)
  ·have := a3 h5; omega
  ·omega
theorem q2c (a : S5025) : ∀ (t : List S5036) (k : Nat), qbk a t k = true → ∀ x ∈ t, qnv x = true
 | [], _, _, x, hx => by cases hx
 | y :: t, k, h, x, hx => by
  rw [qbk] at h;rw [cond_eq_ite] at h
  split at h
  ·cases h
  ·rename_i h1
   rcases List.mem_cons.1 hx with rfl | hx
   ·simpa using h1
   ·exact q2c a t _ h x hx
theorem qpo {a : S5025} (h : qky a = true) : ∀ x ∈ a.Slots, qnv x = true := by
 unfold qky at h;rw [cond_eq_ite] at h
 split at h
 ·cases h
 ·exact q2c a _ _ h
theorem q6s {b : Bool} {a : S5025} (h : ((b && qky a) == true) = true) : ∀ x ∈ a.Slots, x.Leases.length ≤ 1000 ∧ x.Shares.length ≤ 1000 := by
 intro x hx
 have h1 : qky a = true := by
  simp only [beq_iff_eq, Bool.and_eq_true] at h;exact h.2
 obtain ⟨h2, h3, _⟩ := qso (qpo h1 x hx)
 omega
def qpp (a0 : List S2062) (a1 : S5025) : Option Bool :=
 qz (bif ((quc (qim a0) 2) && (decide ((qnw (qim a0)) = 0))) && (qky a1) then qq7 a1 else some default) fun r1 => some ((((quc (qim a0) 2) && (decide ((qnw (qim a0)) = 0))) && (qky a1)) && (decide (r1 = 0)))
theorem zam {g : GL} (a0 : List S2062) (a1 : S5025) {R : Bool}  (hb0 : a0.length * 112 ≤ 140737488351232) (hR : qpp a0 a1 = some R) : Con (EG g) 6 [G.sl 11 (List.map S2062.c a0), G.agg [G.sl 16 (List.map S5036.c a1.Slots), G.sl 14 (List.map S5072.c a1.Waiting)]] (G.bool R) := by
 unfold qpp at hR;refine qm Tryz.func6 U U fun w0 M0 => ?_;refine zp (f := S2062.c) (l := a0) 0 U fun hla0 => ?_;refine qb<|qa [.p, .p]<|su (zg U U) U<|sa U U<|qc<|qb ?_;obtain ⟨r1, br1, hR⟩ := qi hR;refine qa [.p, .p, .p, .p, .p, .p, .p, .p, .p, .p, .p, .p, .p, .p, .p, .p, .p, .p, .p]<|sm rfl rfl<|su (qf rfl q6t rfl (q6q a0 (by first | assumption | omega | (simp [qh]; done) | (simp [qh]; omega))) (qe rfl qj)) rfl<|su (qf rfl zan rfl (zao (qim a0) 2) (qe rfl (qe rfl qj))) rfl<|sm rfl rfl<|sg rfl rfl (fun h => qk rfl rfl) rfl<|sg rfl rfl (fun h => qf rfl q6t rfl (q6q a0 (by first | assumption | omega | (simp [qh]; done) | (simp [qh]; omega))) (qe (gd h rfl) qj)) rfl<|sg rfl rfl (fun h => qf rfl zap rfl (zaq (qim a0)) (qe (gd h rfl) qj)) rfl<|sg rfl rfl (fun h => jq rfl (gd h rfl) rfl) rfl<|su (zy rfl rfl rfl rfl) rfl<|sm rfl rfl<|sg rfl rfl (fun h => qp rfl qmj rfl rfl rfl) rfl<|sg rfl rfl (fun h => qf rfl zar rfl (zaf a1) (qe (gd h rfl) qj)) rfl<|su (zy rfl rfl rfl rfl) rfl<|sm rfl rfl<|sg rfl rfl (fun h => qp rfl qmj rfl rfl rfl) rfl<|sg rfl rfl (fun h => qf rfl zas rfl (zah a1 (q6s h) (xm br1 h)) (qe (gd h rfl) qj)) rfl<|sg rfl rfl (fun h => jq rfl (gd h rfl) rfl) rfl<|su (zy rfl rfl rfl rfl) rfl<|sa rfl rfl<|qc<|qo ?_;obtain rfl := Option.some.inj hR;exact zb U (rv_g U)
def qzy (a0 : S5042) (a1 : ByteArray) (a2 : ByteArray) (a3 : Int) : Option (S5042 × Int) :=
 qz (qjy a0) fun r1 => (bif decide (r1 ≠ 0) then some ((S5042.mk [] []), r1) else qz (q34 a0 a1 a2 a3) fun r2 => some (r2.1, r2.2))
theorem zat {g : GL} (a0 : S5042) (a1 : ByteArray) (a2 : ByteArray) (a3 : Int) {R : S5042 × Int}  (hb : a0.Slots.length ≤ 1000000) (hb1 : a0.Waiting.length ≤ 1000000) (hl : ∀ a ∈ a0.Slots, a.Leases.length ≤ 1000000) (hR : qzy a0 a1 a2 a3 = some R) : Con (EG g) 9 [G.agg [G.sl 16 (List.map S5100.c a0.Slots), G.sl 14 (List.map S5072.c a0.Waiting)], G.str a1, G.str a2, G.int a3] (G.tup [G.agg [G.sl 16 (List.map S5100.c R.1.Slots), G.sl 14 (List.map S5072.c R.1.Waiting)], G.int R.2]) := by
 unfold qzy at hR;refine qm Tryz.func9 U U fun w0 M0 => ?_;refine qb<|qa [.p, .w, .p]<|su (zg U U) U<|sw (zh 8 U xg U U) U<|sa U U<|qc<|qb<|qb ?_;obtain ⟨r1, br1, hR⟩ := qi hR;refine qa [.p, .p, .p]<|su (qp U zi U U U) U<|su (qf U qq8 U (qq9 a0 br1) (qe U qj)) U<|sa U U<|qc<|qb<|qa [.p, .p]<|sm U U<|su (zx U U U) U<|qc ?_;refine ql _ U (fun h1 => ?_) (fun h1 => ?_)
 ·replace h1 : (decide (r1 ≠ 0)) = true := h1;replace hR := zm hR h1;(try simp only [bB] at h1);refine qb<|qa [.p, .p, .w, .p]<|su (jc U xg U qa8 kx U) U<|sm U U<|z7 U U (qw (tv := .g (G.agg [G.lit (.slice none 0 0), G.lit (.slice none 0 0)])) U zi U U U U U)<|sa U U<|qc<|qo ?_;obtain rfl := Option.some.inj hR;exact resN U ⟨qf4 (kr U U zi U U) (qaj ⟨jz _, jz _, O⟩), rv_g U, O⟩ (by simp)
 ·replace h1 : (decide (r1 ≠ 0)) = false := h1;replace hR := zn hR h1;(try simp only [bB] at h1);refine qn<|qb ?_;obtain ⟨r2, br2, hR⟩ := qi hR;refine qa [.p, .p, .p, .p, .p, .p, .p, .w, .p]<|su (qp U zi U U U) U<|sm U U<|sm U U<|sm U U<|su (qf U zau U (zav a0 a1 a2 a3 hb hb1 hl br2) (qe U (qe U (qe U (qe U qj))))) U<|su (qu U U U) U<|su (qu U U U) U<|z7 U U (qw (tv := .g (G.agg [G.sl 16 (List.map S5100.c r2.1.Slots), G.sl 14 (List.map S5072.c r2.1.Waiting)])) U zi U U U U U)<|sa U U<|qc<|qo ?_;obtain rfl := Option.some.inj hR;exact resN U ⟨kr U U zi U U, rv_g U, O⟩ (by simp)
end Go.Sim
set_option maxRecDepth 100000
namespace Go.Sim
def mL : List S2062 := [S2062.mk ⟨#[104, 111, 117, 114]⟩ ⟨#[84]⟩ ⟨#[]⟩ 60 60 0 0 (S45.mk 10 20 127) 2]
def mX : S115 := S115.mk ⟨#[112]⟩ ⟨#[97, 98]⟩ ⟨#[65]⟩ ⟨#[]⟩ ⟨#[102, 97, 114]⟩ ⟨#[]⟩ (S45.mk 10 13 127) 5 0 1 0
def mY : S115 := S115.mk ⟨#[113]⟩ ⟨#[99, 100]⟩ ⟨#[65]⟩ ⟨#[]⟩ ⟨#[102, 97, 114]⟩ ⟨#[]⟩ (S45.mk 10 13 127) 5 0 1 0
def mY' : S115 := S115.mk ⟨#[113]⟩ ⟨#[99, 100]⟩ ⟨#[65]⟩ ⟨#[]⟩ ⟨#[102, 97, 114]⟩ ⟨#[]⟩ (S45.mk 10 11 127) 5 0 1 0
def mB1 : S5042 := S5042.mk [qk1 mX] []
def mB2 : S5042 := S5042.mk [qk1 mX, qk1 mY] []
def mB3 : S5042 := S5042.mk [qk1 mX, S5100.mk mY' ⟨#[99, 100]⟩ [] []] []
def mM (d : Int) (n : UInt8) : S1079 := S1079.mk (1440 * d + 5) ⟨#[65]⟩ ⟨#[]⟩ 0 1 0 ⟨#[n]⟩
theorem mk1 : qnx mL ⟨[], []⟩ mX = some (mB1, 0) := by
 rw [qsp (ms := []) (by kernel_rfl) (by kernel_rfl) (by kernel_rfl) (by kernel_rfl) (by decide) (by kernel_rfl) (by kernel_rfl) (by kernel_rfl) (fun x h => by cases h)];rw [show inI mX.Minute (ivs [] mX mL) = false by kernel_rfl]
 rfl
theorem mv1 : qgg mB1 (-1) = some [mM 10 112, mM 11 112, mM 12 112, mM 13 112] := by kernel_rfl
theorem mk2 : qnx mL mB1 mY = some (mB2, 0) := by
 rw [qsp (by kernel_rfl) (by kernel_rfl) (by kernel_rfl) (by kernel_rfl) (by decide) mv1 (by kernel_rfl) (by kernel_rfl) (fun x h => by
  have : x = qk1 mX := List.mem_singleton.1 h
  subst this; exact ⟨by decide, by decide⟩)]
 rw [show inI mY.Minute (ivs [mM 10 112, mM 11 112, mM 12 112, mM 13 112] mY mL) = false by kernel_rfl]
 rfl
end Go.Sim
set_option maxRecDepth 100000
namespace Go.Sim
def mS3 : List S1079 := [mM 10 112, mM 10 113, mM 11 112, mM 11 113, mM 12 112, mM 13 112]
theorem mk3 : qzy mB2 ⟨#[99, 100]⟩ ⟨#[113]⟩ 12 = some (mB3, 0) := by kernel_rfl
theorem mk4 : qjz mB3 = some (mS3, 0) := by kernel_rfl
theorem mk5 : qud mL mS3 (S1079.mk 15845 ⟨#[65]⟩ ⟨#[]⟩ 0 0 0 ⟨#[122]⟩) = some (0, 0) := by kernel_rfl
theorem mk6 : qud mL mS3 (S1079.mk 17285 ⟨#[65]⟩ ⟨#[]⟩ 0 0 0 ⟨#[122]⟩) = some (1, 0) := by kernel_rfl
theorem mq0 (r : List S1079) (h : qgg (S5042.mk [] []) (-1) = some r) : r.length ≤ 1000 := by cases h; decide
theorem mq1 (r : List S1079) (h : qgg mB1 (-1) = some r) : r.length ≤ 1000 := by rw [mv1] at h; cases h; decide
open Go.Proofs
def qzz  : Option Bool :=
 qz (qnx [(S2062.mk (⟨#[104, 111, 117, 114]⟩) (⟨#[84]⟩) ByteArray.empty 60 60 0 0 (S45.mk 10 20 127) 2)] (S5042.mk [] []) (S115.mk (⟨#[112]⟩) (⟨#[97, 98]⟩) (⟨#[65]⟩) ByteArray.empty (⟨#[102, 97, 114]⟩) ByteArray.empty (S45.mk 10 13 127) 5 0 1 0)) fun r1 => qz (qnx [(S2062.mk (⟨#[104, 111, 117, 114]⟩) (⟨#[84]⟩) ByteArray.empty 60 60 0 0 (S45.mk 10 20 127) 2)] r1.1 (S115.mk (⟨#[113]⟩) (⟨#[99, 100]⟩) (⟨#[65]⟩) ByteArray.empty (⟨#[102, 97, 114]⟩) ByteArray.empty (S45.mk 10 13 127) 5 0 1 0)) fun r2 => qz (qzy r2.1 (⟨#[99, 100]⟩) (⟨#[113]⟩) 12) fun r3 => qz (qjz r3.1) fun r4 => qz (qud [(S2062.mk (⟨#[104, 111, 117, 114]⟩) (⟨#[84]⟩) ByteArray.empty 60 60 0 0 (S45.mk 10 20 127) 2)] r4.1 (S1079.mk 15845 (⟨#[65]⟩) ByteArray.empty 0 0 0 (⟨#[122]⟩))) fun r5 => qz (qud [(S2062.mk (⟨#[104, 111, 117, 114]⟩) (⟨#[84]⟩) ByteArray.empty 60 60 0 0 (S45.mk 10 20 127) 2)] r4.1 (S1079.mk 17285 (⟨#[65]⟩) ByteArray.empty 0 0 0 (⟨#[122]⟩))) fun r6 => some (((decide (IntKind.i64.wrap ((IntKind.i64.wrap ((IntKind.i64.wrap ((IntKind.i64.wrap ((IntKind.i64.wrap (r1.2 + r2.2)) + r3.2)) + r4.2)) + r5.2)) + r6.2) = 0)) && (decide (r5.1 = 0))) && (decide (r6.1 = 1)))
set_option maxHeartbeats 16000000 in
theorem zaw {g : GL}  {R : Bool}   (hR : qzz  = some R) : Con (EG g) 7 [] (G.bool R) := by
 unfold qzz at hR;refine qm Tryz.func7 U U fun w0 M0 => ?_;refine qb<|qa [.p]<|sa U U<|qc<|qb<|qa [.p, .p, .p, .p]<|su (jc U z46 U pl46 (z5 U (z5 U (z5 U kx))) U) U<|su (jc U qub U q6u (z5 U (z5 U (z5 U (z5 U (z5 U (z5 U kx)))))) U) U ?_;refine su (qt U Tryz.underlying22 kq qub U (qv U jh) U (by exact lens rfl) (by decide)) U ?_;refine sa U U<|qc<|qb<|qa [.p, .p, .w, .w]<|su (jc U z46 U pl46 (z5 U (z5 U (z5 U kx))) U) U<|su (jc U z116 U zax (z5 U (z5 U (z5 U (z5 U (z5 U (z5 U (z5 U kx))))))) U) U<|sw (zh 2 U z116 U U) U<|z7 U U (qw (tv := .g (G.agg [G.str (⟨#[112]⟩), G.str (⟨#[97, 98]⟩), G.str (⟨#[65]⟩), G.str ByteArray.empty, G.str (⟨#[102, 97, 114]⟩), G.str ByteArray.empty, G.int 10, G.int 13, G.int 127, G.int 5, G.int 0, G.int 1, G.int 0])) U w5 U U U U U)<|qc<|qb<|qa [.r, .w, .w]<|sr (zj U w5 U U U U) U<|sw (zh 3 U z116 U U) U<|z7 U U (qw (tv := .g (G.agg [G.str (⟨#[112]⟩), G.str (⟨#[97, 98]⟩), G.str (⟨#[65]⟩), G.str ByteArray.empty, G.str (⟨#[102, 97, 114]⟩), G.str ByteArray.empty, G.int 10, G.int 13, G.int 127, G.int 5, G.int 0, G.int 1, G.int 0])) U w5 U U U U U)<|qc<|qb<|qa [.p, .w, .p, .w]<|su (zo U vh U) U<|z7 U U (qw (tv := .g (G.str (⟨#[113]⟩))) U ty9 U U U U U)<|su (zo U qk2 U) U<|z7 U U (qw (tv := .g (G.str (⟨#[99, 100]⟩))) U ty9 U U U U U)<|qc<|qb ?_;obtain ⟨r1, br1, hR⟩ := qi hR;have q0 := mq0;refine qa [.p, .p, .r, .p, .p, .p, .p, .w, .w, .p]<|sm rfl rfl<|su (qg7 (x := G.agg [G.lit (.slice none 0 0), G.lit (.slice none 0 0)]) (y := G.agg [G.sl 16 (List.map S5100.c []), G.sl 14 (List.map S5072.c [])]) (jc rfl xg rfl qa8 kx rfl) (qaj ⟨jz 16, jz 14, trivial⟩)) rfl<|sr (zj rfl w5 rfl rfl rfl rfl) rfl<|su (qf rfl q6v rfl (q6w [(S2062.mk (⟨#[104, 111, 117, 114]⟩) (⟨#[84]⟩) ByteArray.empty 60 60 0 0 (S45.mk 10 20 127) 2)] (S5042.mk [] []) (S115.mk (⟨#[112]⟩) (⟨#[97, 98]⟩) (⟨#[65]⟩) ByteArray.empty (⟨#[102, 97, 114]⟩) ByteArray.empty (S45.mk 10 13 127) 5 0 1 0) (by first | assumption | omega | (simp [qh]; done) | (simp [qh]; omega)) (by first | assumption | omega | (simp [qh]; done) | (simp [qh]; omega)) (by first | assumption | omega | (simp [qh]; done) | (simp [qh]; omega)) br1) (qe rfl (qe rfl (qe rfl qj)))) rfl<|sm rfl rfl<|su (qu rfl rfl rfl) rfl<|su (qu rfl rfl rfl) rfl<|sw (zh 4 rfl xg rfl rfl) rfl<|z7 rfl rfl (qw (tv := .g (G.agg [G.sl 16 (List.map S5100.c r1.1.Slots), G.sl 14 (List.map S5072.c r1.1.Waiting)])) rfl zi rfl rfl rfl rfl rfl)<|sa rfl rfl<|qc<|qb ?_;obtain ⟨r2, br2, hR⟩ := qi hR;have e1 : r1 = (mB1, 0) := Option.some.inj (br1.symm.trans mk1)
 have q1 : r1.1.Slots.length ≤ 1000 := by rw [e1]; decide
 have q2 : r1.1.Waiting.length ≤ 1000 := by rw [e1]; decide
 have q3 : ∀ r, qgg r1.1 (-1) = some r → r.length ≤ 1000 := by rw [e1]; exact mq1
 refine qa [.p, .r, .r, .p, .p, .p, .p, .w, .p]<|sm rfl rfl<|sr (zj rfl zi rfl rfl rfl rfl) rfl<|sr (zj rfl w5 rfl rfl rfl rfl) rfl<|su (qf rfl q6v rfl (q6w [(S2062.mk (⟨#[104, 111, 117, 114]⟩) (⟨#[84]⟩) ByteArray.empty 60 60 0 0 (S45.mk 10 20 127) 2)] r1.1 (S115.mk (⟨#[113]⟩) (⟨#[99, 100]⟩) (⟨#[65]⟩) ByteArray.empty (⟨#[102, 97, 114]⟩) ByteArray.empty (S45.mk 10 13 127) 5 0 1 0) (by first | assumption | omega | (simp [qh]; done) | (simp [qh]; omega)) (by first | assumption | omega | (simp [qh]; done) | (simp [qh]; omega)) (by first | assumption | omega | (simp [qh]; done) | (simp [qh]; omega)) br2) (qe rfl (qe rfl (qe rfl qj)))) rfl<|sm rfl rfl<|su (qu rfl rfl rfl) rfl<|su (qu rfl rfl rfl) rfl<|z7 rfl rfl (qw (tv := .g (G.agg [G.sl 16 (List.map S5100.c r2.1.Slots), G.sl 14 (List.map S5072.c r2.1.Waiting)])) rfl zi rfl rfl rfl rfl rfl)<|sa rfl rfl<|qc<|qb ?_;obtain ⟨r3, br3, hR⟩ := qi hR
 have e2 : r2 = (mB2, 0) := by rw [e1] at br2; exact Option.some.inj (br2.symm.trans mk2)
 have q4 : r2.1.Slots.length ≤ 1000000 := by rw [e2]; decide
 have q5 : r2.1.Waiting.length ≤ 1000000 := by rw [e2]; decide
 have q6 : ∀ a ∈ r2.1.Slots, a.Leases.length ≤ 1000000 := by rw [e2]; decide
 refine qa [.r, .p, .p, .p, .p, .w, .w, .p]<|sr (zj rfl zi rfl rfl rfl rfl) rfl<|su (qf rfl zay rfl (zat r2.1 (⟨#[99, 100]⟩) (⟨#[113]⟩) 12 (by first | assumption | omega | (simp [qh]; done) | (simp [qh]; omega)) (by first | assumption | omega | (simp [qh]; done) | (simp [qh]; omega)) (by first | assumption | omega | (simp [qh]; done) | (simp [qh]; omega)) br3) (qe rfl (qe rfl (qe rfl (qe rfl qj))))) rfl<|sm rfl rfl<|su (qu rfl rfl rfl) rfl<|su (qu rfl rfl rfl) rfl<|sw (zh 7 rfl xg rfl rfl) rfl<|z7 rfl rfl (qw (tv := .g (G.agg [G.sl 16 (List.map S5100.c r3.1.Slots), G.sl 14 (List.map S5072.c r3.1.Waiting)])) rfl zi rfl rfl rfl rfl rfl)<|sa rfl rfl<|qc<|qb ?_;obtain ⟨r4, br4, hR⟩ := qi hR
 have e3 : r3 = (mB3, 0) := by rw [e2] at br3; exact Option.some.inj (br3.symm.trans mk3)
 have q7 : r3.1.Slots.length ≤ 1000000000000000 := by rw [e3]; decide
 refine qa [.r, .p, .p, .p, .p, .p, .p]<|sr (zj rfl zi rfl rfl rfl rfl) rfl<|su (qf rfl q38 rfl (q39 r3.1 (by first | assumption | omega | (simp [qh]; done) | (simp [qh]; omega)) br4) (qe rfl qj)) rfl<|sm rfl rfl<|su (qu rfl rfl rfl) rfl<|su (qu rfl rfl rfl) rfl<|sa rfl rfl<|sa rfl rfl<|qc<|qb ?_;obtain ⟨r5, br5, hR⟩ := qi hR
 have e4 : r4 = (mS3, 0) := by rw [e3] at br4; exact Option.some.inj (br4.symm.trans mk4)
 have q8 : r4.1.length ≤ 1000 := by rw [e4]; decide
 refine qa [.p, .p, .p, .p, .p, .p, .p, .p, .p]<|sm rfl rfl<|sm rfl rfl<|su (jc rfl qny rfl qsq (z5 rfl (z5 rfl (z5 rfl kx))) rfl) rfl<|su (qf rfl q6x rfl (q6y [(S2062.mk (⟨#[104, 111, 117, 114]⟩) (⟨#[84]⟩) ByteArray.empty 60 60 0 0 (S45.mk 10 20 127) 2)] r4.1 (S1079.mk 15845 (⟨#[65]⟩) ByteArray.empty 0 0 0 (⟨#[122]⟩)) (by first | assumption | omega | (simp [qh]; done) | (simp [qh]; omega)) br5) (qe rfl (qe rfl (qe rfl qj)))) rfl<|sm rfl rfl<|su (qu rfl rfl rfl) rfl<|su (qu rfl rfl rfl) rfl<|sa rfl rfl<|sa rfl rfl<|qc<|qb ?_;obtain ⟨r6, br6, hR⟩ := qi hR;refine qa [.p, .p, .p, .p, .p, .p, .p, .p, .p]<|sm rfl rfl<|sm rfl rfl<|su (jc rfl qny rfl qsq (z5 rfl (z5 rfl (z5 rfl kx))) rfl) rfl<|su (qf rfl q6x rfl (q6y [(S2062.mk (⟨#[104, 111, 117, 114]⟩) (⟨#[84]⟩) ByteArray.empty 60 60 0 0 (S45.mk 10 20 127) 2)] r4.1 (S1079.mk 17285 (⟨#[65]⟩) ByteArray.empty 0 0 0 (⟨#[122]⟩)) (by first | assumption | omega | (simp [qh]; done) | (simp [qh]; omega)) br6) (qe rfl (qe rfl (qe rfl qj)))) rfl<|sm rfl rfl<|su (qu rfl rfl rfl) rfl<|su (qu rfl rfl rfl) rfl<|sa rfl rfl<|sa rfl rfl<|qc<|qb<|qa [.p, .p, .p, .p, .p, .p, .p, .p, .p, .p, .p, .p, .p, .p, .p, .p, .p, .p, .p, .p, .p]<|sm rfl rfl<|sm rfl rfl<|su (jo rfl rfl rfl) rfl<|sm rfl rfl<|su (jo rfl rfl rfl) rfl<|sm rfl rfl<|su (jo rfl rfl rfl) rfl<|sm rfl rfl<|su (jo rfl rfl rfl) rfl<|sm rfl rfl<|su (jo rfl rfl rfl) rfl<|su (jq rfl rfl rfl) rfl<|sm rfl rfl<|sg rfl rfl (fun h => qk rfl rfl) rfl<|sg rfl rfl (fun h => jq rfl (gd h rfl) rfl) rfl<|su (zy rfl rfl rfl rfl) rfl<|sm rfl rfl<|sg rfl rfl (fun h => qk rfl rfl) rfl<|sg rfl rfl (fun h => jq rfl (gd h rfl) rfl) rfl<|su (zy rfl rfl rfl rfl) rfl<|sa rfl rfl<|qc<|qo ?_;obtain rfl := Option.some.inj hR;exact zb U (rv_g U)
theorem qfg {α β : Type} {x : Option α} {a : α} {f : α → Option β} {r : Option β} (h : x = some a) (k : f a = r) : qz x f = r := by rw [h]; exact k
theorem que : qzz = some true := by
 unfold qzz;refine qfg mk1<|qfg mk2<|qfg mk3<|qfg mk4<|qfg mk5<|qfg mk6 ?_
 decide
theorem mkt_ex : ∃ b : Bool, b = true ∧ ∀ g : List (Nat × List Value), Con (EG g) 7 [] (G.bool b) := ⟨true, rfl, fun g => zaw que⟩
noncomputable def mktB : Bool := mkt_ex.choose
theorem qpq : mktB = true := mkt_ex.choose_spec.1
theorem q2d {g : GL} : Con (EG g) 7 [] (G.bool mktB) := mkt_ex.choose_spec.2 g
theorem qvz {a b : S5072} (h : qra a b) : 0 < qin b a := by
 unfold qin;rw [show ∀ x y : Int, s176 [x, y] = bif decide (x ≠ 0) then x else bif decide (y ≠ 0) then y else 0 from fun _ _ => rfl, qv0, qrb]
 rcases h with h | ⟨h1, h2⟩
 ·have h' : ¬ b.Rank < a.Rank := by omega
  simp [h, h']
 ·have h3 : qa9 b.Request.Name a.Request.Name = false := by
   cases hs : qa9 b.Request.Name a.Request.Name with
   | false => rfl
   | true => exact (zaz h2 hs).elim
  have h4 : ¬ b.Request.Name = a.Request.Name := fun e => by rw [e, qsr] at h2; cases h2
  simp [h1, h3, h4]
theorem qpr {x : List (ByteArray × Bool)} {S : List ByteArray} (h : ∀ n, vj x n false = true ↔ n ∈ S) (m : ByteArray) : ∀ n, vj (mset x m true) n false = true ↔ n ∈ S ++ [m] := by
 intro n;rw [qrc]
 by_cases e : m = n
 ·subst e; simp
 ·rw [if_neg e, h n];simp only [List.mem_append, List.mem_singleton];exact ⟨.inl, fun k => k.resolve_right fun e' => e e'.symm⟩
theorem qmk {b : S5042} (h : BookV b) : ∀ (t : List S5072) (k : Nat) (x : List (ByteArray × Bool)) (S : List ByteArray), b.Waiting.drop k = t → (∀ n, vj x n false = true ↔ n ∈ S) → (S ++ qk3 t).Nodup → qdj b t k x = some 0
 | [], _, _, _, _, _, _ => rfl
 | y :: t, k, x, S, hd, hx, hn => by
  obtain ⟨h1, h2, h3⟩ := qds hd;have hw := h.w y (List.mem_of_getElem? h1);have hwl := h.wl
  have key : ∃ q, (bif decide (0 < ((k : Nat) : Int)) then ixO b.Waiting (max 0 (IntKind.i64.wrap (((k : Nat) : Int) - 1))) else some default) = some q ∧ (0 < k → b.Waiting[k - 1]? = some q) := by
   by_cases hk : 0 < k
   ·obtain ⟨q, q1, q2⟩ := qv1 h3 (by omega);rw [decide_eq_true (by omega), cond_true] at q1 ⊢;exact ⟨q, q1, q2⟩
   ·rw [decide_eq_false (by omega), cond_false];exact ⟨default, U, fun h' => absurd h' hk⟩
  obtain ⟨q, q1, q2⟩ := key
  have hc : (decide (0 < ((k : Nat) : Int)) && decide (qin y q ≤ 0)) = false := by
   by_cases hk : 0 < k
   ·obtain ⟨e1, e1'⟩ := List.getElem?_eq_some_iff.1 (q2 hk);obtain ⟨e2, e2'⟩ := List.getElem?_eq_some_iff.1 h1;have := List.pairwise_iff_getElem.1 h.or (k - 1) k e1 e2 (by omega);rw [e1', e2'] at this;have := qvz this;rw [decide_eq_false (show ¬ qin y q ≤ 0 by omega), Bool.and_false]
   ·rw [decide_eq_false (by omega), Bool.false_and]
  have hns : ¬ y.Request.Name ∈ S := by
   intro hm;have := (List.nodup_append.1 hn).2.2 _ hm y.Request.Name (by simp [qk3]);exact this U
  have hz : j7 [(ql8 y), (jg (vj x y.Request.Name false) 9), (jg ((decide (0 < ((k : Nat) : Int))) && (decide ((qin y q) ≤ 0))) 11)] = 0 := ke.2 fun z hz => by
   simp only [List.mem_cons, List.not_mem_nil, or_false] at hz
   rcases hz with rfl | rfl | rfl
   ·exact qv2 hw
   ·rw [show vj x y.Request.Name false = false from Bool.eq_false_iff.2 fun e => hns ((hx _).1 e)]; rfl
   ·rw [hc]; rfl
  rw [qdj, q1];simp only [qz];rw [hz, decide_eq_false (by simp), cond_false];exact qmk h t (k + 1) _ (S ++ [y.Request.Name]) h2 (qpr hx _) (by rw [List.append_assoc]; exact hn)
theorem qml {b : S5042} (h : BookV b) : ∀ (t : List S5100) (k : Nat) (x : List (ByteArray × Bool)) (S : List ByteArray), (∀ s ∈ t, SlotV s) → (∀ n, vj x n false = true ↔ n ∈ S) → (S ++ (qer t ++ qk3 b.Waiting)).Nodup → qce b t k x = some 0
 | [], k, x, S, _, hx, hn => by
  have := h.wl;rw [qce, decide_eq_false (by omega), cond_false];exact qmk h _ 0 x S U hx (by simpa [qer] using hn)
 | y :: t, k, x, S, hs, hx, hn => by
  have hns : ¬ y.Request.Name ∈ S := by
   intro hm;have := (List.nodup_append.1 hn).2.2 _ hm y.Request.Name (by simp [qer]);exact this U
  have hz : j7 [0, (jg (vj x y.Request.Name false) 9)] = 0 := ke.2 fun z hz => by
   simp only [List.mem_cons, List.not_mem_nil, or_false] at hz
   rcases hz with rfl | rfl
   ·rfl
   ·rw [show vj x y.Request.Name false = false from Bool.eq_false_iff.2 fun e => hns ((hx _).1 e)]; rfl
  rw [qce, qv3 (hs y List.mem_cons_self)];simp only [qz];rw [hz, decide_eq_false (by simp), cond_false];exact qml h t (k + 1) _ (S ++ [y.Request.Name]) (fun s hm => hs s (List.mem_cons_of_mem _ hm)) (qpr hx _) (by rw [List.append_assoc]; exact hn)
theorem qes {b : S5042} (h : BookV b) : qjy b = some 0 := by
 have := h.sl;unfold qjy;rw [decide_eq_false (by omega), cond_false];exact qml h _ 0 [] [] h.s (fun n => by simp [vj, mget]) (by simpa using h.nd)
theorem qmm (f : S5100 → Bool) : ∀ (l : List S5100) (k : Nat), 0 ≤ wk f l k ↔ ∃ x ∈ l, f x = true
 | [], k => by rw [wk]; simp
 | y :: t, k => by
  rw [wk]
  cases h : f y with
  | true => simp [h]
  | false => rw [cond_false, qmm f t]; simp [h]
section
variable {E : Env} {w0 : World} {M0 : Nat → Prop}
def G.e0 : G := ⟨fun _ _ u => ∃ b o, u = .slice (some ⟨b, o, none⟩) 0 0, fun h _ _ => h⟩
theorem q4a {o : Oper} {ev : Operand → TV} {t el : TypeId} {k : Nat} {b : Bool} (ho : o.op = .buildSlice t 0 #[]) (ht : E.P.underlying t = some (.slice el)) (he : tyK E.P el = some (k + 1, b)) (mem : Mem) : Eff E o mem ev (.g .e0) :=
 qj9 (fun w M ρ e hM hev => by
  refine ⟨.slice (some ⟨w.heap.size, 0, none⟩) 0 0, w.alloc (.cells #[] el), ?_, Grow.alloc w _, w.heap.size, 0, U⟩
  simp [execOp, ho, Instr.buildSlice, underlying, ht, jt he, Instr.fill, newRow, Array.range_zero']) mem
theorem qz0 {α : Type} {f : α → List G} {new : List α} {o : Oper} {ev : Operand → TV} {s x : Operand} {t e : TypeId} {k by_ : Nat} (ho : o.op = .call ⟨.builtin .append, #[s, x], #[t, t]⟩) (ha : appK E.P t = some (e, k + 1, by_ + 1)) (hs : ev s = .g .e0)
  (hx : ev x = .g (.sl (k + 1) (new.map f))) (hb : new.length * (by_ + 1) ≤ 140737488355328) (mem : Mem) : Eff E o mem ev (.g (.sl (k + 1) (new.map f))) := by
 intro w0 M0 ρ w e' hm he;obtain ⟨i, z, t1, t2, t3, t4, t5, t6⟩ := qet ha;have h1 := he s (by rw [ho]; simp [Op.operands, Call.operands]);rw [hs] at h1;obtain ⟨b0, o0, h1⟩ := h1;have h2 := he x (by rw [ho]; simp [Op.operands, Call.operands]);rw [hx] at h2;obtain ⟨a, c, v1, v2, v3, v4, v5⟩ := h2
 have hrun : (execOp e' o) = (do pure (.value (← Builtin.append_ #[t, t] o.type #[.slice (some ⟨b0, o0, none⟩) 0 0, .slice a (new.map f).length c])) : Sem Next) := by simp [execOp, ho, resolve, invoke, builtin, h1, v1]
 rw [hrun]
 by_cases hz : (new.map f).length = 0
 ·rw [hz];have hn : new.map f = [] := List.eq_nil_of_length_eq_zero hz
  have hf : (Builtin.firstCells i.size 0 (.slice a 0 c)).run E.P w = .ok #[] w := by
   cases a with
   | none => simp [Builtin.firstCells]
   | some a => simp [Builtin.firstCells, loadCells, loadCellsFrom]
  have hr : (Builtin.append_ #[t, t] o.type #[.slice (some ⟨b0, o0, none⟩) 0 0, .slice a 0 c]).run E.P w = .ok (.slice (some ⟨b0, o0, none⟩) 0 0) w := by
   simp [Builtin.append_, run_underlying t1, sizeOf, typeInfo, t2, Builtin.lenOf, hf, storeCells]
  rw [Sem.run_bind, hr, hn];exact ⟨Grow.refl w, some ⟨b0, o0, none⟩, 0, U, Nat.le_refl _, Nat.zero_le _, by simp, .inl ⟨rfl, fun h => by cases h⟩⟩
 ·have hpos : 0 < (new.map f).length := Nat.pos_of_ne_zero hz;have hfl := qak v4
  rcases v5 with ⟨v5, _⟩ | ⟨b, oo, rfl, v6, v7⟩
  ·rw [v5] at hfl;simp only [List.length_nil] at hfl;have := Nat.mul_pos hpos (show 0 < k + 1 by omega)
   omega
  obtain ⟨vs, w8, w9⟩ := v7.vals
  have hlv : vs.length = (new.map f).length * i.size := by rw [w8.length, hfl, t4]
  have hadd : ∀ j u, vs[j]? = some u → w.cell? ((⟨b, oo, none⟩ : Addr).add j) = some u := fun j u hj => by rw [Addr.add_lit]; exact w9 j u hj
  have hmax : (new.map f).length ≤ maxLen := Nat.le_trans v2 v3
  have h63 : (new.map f).length ≤ 9223372036854775807 := by simp only [maxLen] at hmax; omega
  have hbb : (0 + (new.map f).length) * i.bytes ≤ 140737488355328 := by rw [t5, Nat.zero_add, List.length_map]; exact hb
  have hr := run_append_grow (P := E.P) w t o.type e i z t1 t2 t3 ⟨b0, o0, none⟩ 0 0 [] (by simp) (by simp) ⟨b, oo, none⟩ (new.map f).length c vs hlv hadd (by omega) (by omega) (growslice_fits (by omega) hbb);rw [Sem.run_bind, hr];have hge := grownCap_ge w (0 + (new.map f).length) 0 e;have hle := grownCap_le_maxLen w (0 + (new.map f).length) 0 e (by rw [Nat.zero_add]; exact hmax)
  have hg : Grow w (w.drew.alloc (.cells (([] : List Value).toArray ++ vs.toArray ++ Builtin.zeroCells z.cells (grownCap w (0 + (new.map f).length) 0 e - (0 + (new.map f).length))) e)) :=
   ⟨rfl, rfl, rfl, by simp, fun q hq => RowKit.Below.heap_alloc w.drew _ q hq⟩
  refine ⟨hg, some ⟨w.heap.size, 0, none⟩, grownCap w (0 + (new.map f).length) 0 e, by rw [Nat.zero_add], by omega, hle, v4, .inr ⟨w.heap.size, 0, rfl, fun h => absurd (hm.lt _ h) (Nat.lt_irrefl _), ?_⟩⟩;refine j8 (heap_alloc_new w.drew _) (w8.mono (fun q hq _ => hg.block q hq) (fun _ _ h => h)) ?_;intro j u hj;have hjl : j < vs.length := (List.getElem?_eq_some_iff.1 hj).1
  simp
  rw [Array.getElem?_append_left (by simpa using hjl)]
  simpa using hj
end
def qcf (x2 : List S5100) : List S5072 → Nat → (List S5072) → S5042
 | [], k8, x7 => (S5042.mk x2 x7)
 | y9 :: t10, k8, x7 => qcf x2 t10 (k8 + 1) (x7 ++ [y9])
def qcg (rec1 : Nat → (List S5100) → S5042) (x2 : List S5100) (k3 : Nat) (y4 : S5036) : List S5102 → Nat → (List S5102) → S5042
 | [], k13, x12 => rec1 (k3 + 1) (x2 ++ [(S5100.mk (S115.mk y4.Request.Name y4.Request.Carrier y4.Request.Kind y4.Request.Terminal y4.Request.Partner y4.Request.Link (S45.mk y4.Request.Period.fFrom y4.Request.Period.fTo y4.Request.Period.Days) y4.Request.Minute y4.Request.Seats y4.Request.Size y4.Request.Noise) y4.Holder x12 y4.Shares)])
 | y14 :: t15, k13, x12 => qcg rec1 x2 k3 y4 t15 (k13 + 1) (x12 ++ [y14])
def qau (a0 : S5025) : List S5036 → Nat → (List S5100) → S5042
 | [], k3, x2 => qcf x2 a0.Waiting 0 ([] : List S5072)
 | y4 :: t5, k3, x2 => qcg (fun k_ z0_ => qau a0 t5 k_ z0_) x2 k3 y4 y4.Leases 0 ([] : List S5102)
def xo (a0 : S5025) : S5042 :=
 qau a0 a0.Slots 0 ([] : List S5100)
theorem q6z {g : GL} (a0 : S5025)  (hb : a0.Slots.length ≤ 1000) (hb1 : a0.Waiting.length ≤ 1000) (hb2 : ∀ x ∈ a0.Slots, x.Leases.length ≤ 1000 ∧ x.Shares.length ≤ 1000)  : Con (EG g) 10 [G.agg [G.sl 16 (List.map S5036.c a0.Slots), G.sl 14 (List.map S5072.c a0.Waiting)]] (G.agg [G.sl 16 (List.map S5100.c ((xo a0).Slots)), G.sl 14 (List.map S5072.c ((xo a0).Waiting))]) := by
 generalize hR : xo a0 = R;unfold xo at hR;refine qm Tryz.func10 U U fun w0 M0 => ?_;refine qb<|qa [.p, .w]<|su (zg U U) U<|sw (zh 2 U xg U U) U<|qc<|qb<|qa [.w]<|sw (zh 3 U xg U U) U<|qc<|qb<|qb<|qfh 3 0 2030 16 101 U U U U<|qfh 3 1 2031 14 105 U U U U<|qa [.p, .p, .p, .p]<|su (qd U wj U) U<|su (qg U qdz U) U<|su (qy (f := S5036.c) (l := a0.Slots) U Tryz.underlying23 U) U<|sm U U<|qc<|qq<|za (γ := Nat × (List S5036) × (List S5100)) (fun g => ([(1, .g (G.ref [G.sl 16 (List.map S5036.c a0.Slots), G.sl 14 (List.map S5072.c a0.Waiting)])), (2, .ptr 2 0), (3, .ptr 3 0), (12, .g (G.sl 16 (List.map S5036.c a0.Slots))), (13, .g (G.int (List.length a0.Slots : Int))), (14, .g (G.int ((g.1 : Nat) : Int)))], [(2, .box [.g (G.lit (.slice none 0 0)), .g (G.lit (.slice none 0 0))]), (3, .box [.osl 2030 16 0 (List.length g.2.2), .osl 2031 14 0 (0)]), (2030, .arr 101 16 (List.map S5100.c g.2.2)), (2031, .arr 105 14 (List.map S5072.c ([] : List S5072)))])) (fun g => g.2.2.length ≤ g.1 ∧ a0.Slots.drop g.1 = g.2.1 ∧ qau a0 g.2.1 g.1 g.2.2 = R) (fun g => List.length g.2.1) ⟨U, (0, a0.Slots, ([] : List S5100)), jA, jA, U, ⟨iH, U, (by exact hR)⟩, O⟩ ?_
 ·rintro ⟨k3, t5, x2⟩ ⟨iv1_0, hd, hR⟩;replace hd : a0.Slots.drop k3 = t5 := hd;replace hR : qau a0 t5 k3 x2 = R := hR;replace iv1_0 : x2.length ≤ k3 := iv1_0;refine qb<|qa [.p]<|su (ze U U U) U<|qc ?_;refine zp (f := S5036.c) (l := a0.Slots) 12 U fun hlz1 => ?_;refine qb ?_;refine ql _ U (fun h1 => ?_) (fun h1 => ?_)
  ·replace h1 : (decide (((k3 : Nat) : Int) < (List.length a0.Slots : Int))) = true := h1;obtain ⟨y4, t5, rfl, hx1, hd⟩ := zq hd (decT h1);replace h1 := decT h1;rw [qau] at hR;(try dsimp only at hR);refine qn<|qb<|qq<|qb<|qa [.p, .p, .w, .w]<|su (z4 (f := S5036.c) (l := a0.Slots) (a := y4) U Tryz.underlying23 qbs U U (Int.natCast_nonneg _) hx1) U<|su (qp U qbs U U U) U<|sw (zh 5 U q4b U U) U<|z7 U U (qw (tv := .g (G.agg [G.str y4.Request.Name, G.str y4.Request.Carrier, G.str y4.Request.Kind, G.str y4.Request.Terminal, G.str y4.Request.Partner, G.str y4.Request.Link, G.int y4.Request.Period.fFrom, G.int y4.Request.Period.fTo, G.int y4.Request.Period.Days, G.int y4.Request.Minute, G.int y4.Request.Seats, G.int y4.Request.Size, G.int y4.Request.Noise, G.str y4.Holder, G.sl 3 (List.map S5102.c y4.Leases), G.sl 1 (List.map cStr y4.Shares)])) U qbs U U U U U)<|qc<|qb<|qhk (l := [(1, .g (G.ref [G.sl 16 (List.map S5036.c a0.Slots), G.sl 14 (List.map S5072.c a0.Waiting)])), (2, .ptr 2 0), (3, .ptr 3 0), (5, .g (G.ref [G.str y4.Request.Name, G.str y4.Request.Carrier, G.str y4.Request.Kind, G.str y4.Request.Terminal, G.str y4.Request.Partner, G.str y4.Request.Link, G.int y4.Request.Period.fFrom, G.int y4.Request.Period.fTo, G.int y4.Request.Period.Days, G.int y4.Request.Minute, G.int y4.Request.Seats, G.int y4.Request.Size, G.int y4.Request.Noise, G.str y4.Holder, G.sl 3 (List.map S5102.c y4.Leases), G.sl 1 (List.map cStr y4.Shares)])), (12, .g (G.sl 16 (List.map S5036.c a0.Slots))), (13, .g (G.int (List.length a0.Slots : Int))), (14, .g (G.int ((k3 : Nat) : Int)))]) (m := [(2, .box [.g (G.lit (.slice none 0 0)), .g (G.lit (.slice none 0 0))]), (3, .box [.osl 2030 16 0 (List.length x2), .osl 2031 14 0 (0)]), (2030, .arr 101 16 (List.map S5100.c x2)), (2031, .arr 105 14 (List.map S5072.c ([] : List S5072)))]) 5 U ⟨.inl ⟨U, U⟩, .inl ⟨U, U⟩, .inl ⟨U, U⟩, .inr (qgh U), .inl ⟨U, U⟩, .inl ⟨U, U⟩, .inl ⟨U, U⟩, O⟩ jA U U ?_;have hsh := hb2 _ (List.mem_of_getElem? hx1);refine zt [.p, .p, .p, .p, .p, .p, .p, .p, .p, .w, .w] (by kernel_rfl)<|su (qd U qbf U) U<|su (qp U w5 U U U) U<|su (qd U qhi U) U<|su (qg U ty9 U) U<|su (q4a U Tryz.underlying35 ty9) U<|su (qd U qbh U) U<|su (qg U ty22 U) U<|su (qz0 (f := cStr) (new := y4.Shares) U q4c U U (by simp; omega)) U<|su (jc U qhl U q2e (z5 U (z5 U (z5 U kx))) U) U<|sw (zh 6 U qhl U U) U<|z7 U U (qw (tv := .g (G.agg [G.str y4.Request.Name, G.str y4.Request.Carrier, G.str y4.Request.Kind, G.str y4.Request.Terminal, G.str y4.Request.Partner, G.str y4.Request.Link, G.int y4.Request.Period.fFrom, G.int y4.Request.Period.fTo, G.int y4.Request.Period.Days, G.int y4.Request.Minute, G.int y4.Request.Seats, G.int y4.Request.Size, G.int y4.Request.Noise, G.str y4.Holder, G.lit (.slice none 0 0), G.sl 1 (List.map cStr y4.Shares)])) U ko U U U U U)<|qc<|qb<|qb<|qfh 6 14 2074 3 104 U U U U<|qa [.p, .p, .p, .p]<|su (qd U qas U) U<|su (qg U qeo U) U<|su (qy (f := S5102.c) (l := y4.Leases) U Tryz.underlying34 U) U<|sm U U<|qc<|qq<|za (γ := Nat × (List S5102) × (List S5102)) (fun g => ([(1, .g (G.ref [G.sl 16 (List.map S5036.c a0.Slots), G.sl 14 (List.map S5072.c a0.Waiting)])), (2, .ptr 2 0), (3, .ptr 3 0), (6, .ptr 6 0), (12, .g (G.sl 16 (List.map S5036.c a0.Slots))), (13, .g (G.int (List.length a0.Slots : Int))), (14, .g (G.int ((k3 : Nat) : Int))), (28, .g (G.sl 3 (List.map S5102.c y4.Leases))), (29, .g (G.int (List.length y4.Leases : Int))), (30, .g (G.int ((g.1 : Nat) : Int)))], [(2, .box [.g (G.lit (.slice none 0 0)), .g (G.lit (.slice none 0 0))]), (3, .box [.osl 2030 16 0 (List.length x2), .osl 2031 14 0 (0)]), (6, .box [.g (G.str y4.Request.Name), .g (G.str y4.Request.Carrier), .g (G.str y4.Request.Kind), .g (G.str y4.Request.Terminal), .g (G.str y4.Request.Partner), .g (G.str y4.Request.Link), .g (G.int y4.Request.Period.fFrom), .g (G.int y4.Request.Period.fTo), .g (G.int y4.Request.Period.Days), .g (G.int y4.Request.Minute), .g (G.int y4.Request.Seats), .g (G.int y4.Request.Size), .g (G.int y4.Request.Noise), .g (G.str y4.Holder), .osl 2074 3 0 (List.length g.2.2), .g (G.sl 1 (List.map cStr y4.Shares))]), (2030, .arr 101 16 (List.map S5100.c x2)), (2031, .arr 105 14 (List.map S5072.c ([] : List S5072))), (2074, .arr 104 3 (List.map S5102.c g.2.2))])) (fun g => g.2.2.length ≤ g.1 ∧ y4.Leases.drop g.1 = g.2.1 ∧ qcg (fun k_ z0_ => qau a0 t5 k_ z0_) x2 k3 y4 g.2.1 g.1 g.2.2 = R) (fun g => List.length g.2.1) ⟨U, (0, y4.Leases, ([] : List S5102)), jA, jA, U, ⟨iH, U, (by exact hR)⟩, O⟩ ?_
   ·rintro ⟨k13, t15, x12⟩ ⟨iv3_0, hd3, hR⟩;replace hd3 : y4.Leases.drop k13 = t15 := hd3;replace hR : qcg (fun k_ z0_ => qau a0 t5 k_ z0_) x2 k3 y4 t15 k13 x12 = R := hR;replace iv3_0 : x12.length ≤ k13 := iv3_0;refine qb<|qa [.p]<|su (ze U U U) U<|qc ?_;refine zp (f := S5102.c) (l := y4.Leases) 28 U fun hlz3 => ?_;refine qb ?_;refine ql _ U (fun h5 => ?_) (fun h5 => ?_)
    ·replace h5 : (decide (((k13 : Nat) : Int) < (List.length y4.Leases : Int))) = true := h5;obtain ⟨y14, t15, rfl, hx3, hd3⟩ := zq hd3 (decT h5);replace h5 := decT h5;rw [qcg] at hR;(try dsimp only at hR);refine qn<|qb<|qq<|qb<|qa [.p, .p, .w, .w]<|su (z4 (f := S5102.c) (l := y4.Leases) (a := y14) U Tryz.underlying34 qep U U (Int.natCast_nonneg _) hx3) U<|su (qp U qep U U U) U<|sw (zh 8 U za0 U U) U<|z7 U U (qw (tv := .g (G.agg (S5102.c y14))) U qep U U U U U)<|qc<|qa [.p, .r, .r, .p, .k, .p, .w]<|su (zo U qav U) U<|sr (zz U qeu U U U) U<|sr (zj U qep U U U U) U ?_;refine su (qt U Tryz.underlying99 qb2 qrd U (qv U jh) U (by simp [S5102.c]) (by decide)) U ?_;refine st_k U U (qc1 6 14 U (ve (f := S5102.c) (out := x12) (new := [y14]) U qre U U (wx U (wy (by decide) (by simp [S5102.c]))) (qrf U) (by simp; omega))) U ?_;refine su (zo U qav U) U<|z7 U U (qw (tv := .osl 2074 3 0 (List.length (x12 ++ [y14]))) U qeu U U U U U)<|qc<|qa [.p, .p]<|su (zl U U U iE) U<|sm U U<|qc ?_;exact ⟨U, (k13 + 1, t15, x12 ++ [y14]), jA, jA, U, ⟨iB, hd3, hR⟩, by simp⟩
    ·replace h5 : (decide (((k13 : Nat) : Int) < (List.length y4.Leases : Int))) = false := h5;obtain rfl := zu hd3 (decF h5);rw [qcg] at hR;refine zr<|qba (l := [(1, .g (G.ref [G.sl 16 (List.map S5036.c a0.Slots), G.sl 14 (List.map S5072.c a0.Waiting)])), (2, .ptr 2 0), (3, .ptr 3 0), (6, .ptr 6 0), (12, .g (G.sl 16 (List.map S5036.c a0.Slots))), (13, .g (G.int (List.length a0.Slots : Int))), (14, .g (G.int ((k3 : Nat) : Int)))]) (m := [(2, .box [.g (G.lit (.slice none 0 0)), .g (G.lit (.slice none 0 0))]), (3, .box [.osl 2030 16 0 (List.length x2), .osl 2031 14 0 (0)]), (6, .box [.g (G.str y4.Request.Name), .g (G.str y4.Request.Carrier), .g (G.str y4.Request.Kind), .g (G.str y4.Request.Terminal), .g (G.str y4.Request.Partner), .g (G.str y4.Request.Link), .g (G.int y4.Request.Period.fFrom), .g (G.int y4.Request.Period.fTo), .g (G.int y4.Request.Period.Days), .g (G.int y4.Request.Minute), .g (G.int y4.Request.Seats), .g (G.int y4.Request.Size), .g (G.int y4.Request.Noise), .g (G.str y4.Holder), .g (G.sl 3 (List.map S5102.c x12)), .g (G.sl 1 (List.map cStr y4.Shares))]), (2030, .arr 101 16 (List.map S5100.c x2)), (2031, .arr 105 14 (List.map S5072.c ([] : List S5072)))]) 6 14 2074 3 _ U U U ((List.length_map ..).trans U) jA jA U U<|qa [.p, .r, .r, .p, .k, .p, .w]<|su (zo U xe U) U<|sr (zz U qbt U U U) U<|sr (zj U ko U U U U) U ?_;refine su (qt U Tryz.underlying40 ko qhl U (qv U jh) U (by exact lens rfl) (by decide)) U ?_;refine st_k U U (qc1 3 0 U (ve (f := S5100.c) (out := x2) (new := [(S5100.mk (S115.mk y4.Request.Name y4.Request.Carrier y4.Request.Kind y4.Request.Terminal y4.Request.Partner y4.Request.Link (S45.mk y4.Request.Period.fFrom y4.Request.Period.fTo y4.Request.Period.Days) y4.Request.Minute y4.Request.Seats y4.Request.Size y4.Request.Noise) y4.Holder x12 y4.Shares)]) U qk4 U U (wx U (wy (by decide) (by simp [S5100.c, S115.c, S45.c, S5102.c]))) (qrf U) (by simp; omega))) U ?_;refine su (zo U xe U) U<|z7 U U (qw (tv := .osl 2030 16 0 (List.length (x2 ++ [(S5100.mk (S115.mk y4.Request.Name y4.Request.Carrier y4.Request.Kind y4.Request.Terminal y4.Request.Partner y4.Request.Link (S45.mk y4.Request.Period.fFrom y4.Request.Period.fTo y4.Request.Period.Days) y4.Request.Minute y4.Request.Seats y4.Request.Size y4.Request.Noise) y4.Holder x12 y4.Shares)]))) U qbt U U U U U)<|qc<|qa [.p, .p]<|su (zl U U U iE) U<|sm U U<|qc ?_;exact ⟨U, (k3 + 1, t5, x2 ++ [(S5100.mk (S115.mk y4.Request.Name y4.Request.Carrier y4.Request.Kind y4.Request.Terminal y4.Request.Partner y4.Request.Link (S45.mk y4.Request.Period.fFrom y4.Request.Period.fTo y4.Request.Period.Days) y4.Request.Minute y4.Request.Seats y4.Request.Size y4.Request.Noise) y4.Holder x12 y4.Shares)]), jA, jA, U, ⟨iB, hd, hR⟩, by simp⟩
  ·replace h1 : (decide (((k3 : Nat) : Int) < (List.length a0.Slots : Int))) = false := h1;obtain rfl := zu hd (decF h1);rw [qau] at hR;refine zr<|qb<|qb<|qa [.p, .p, .p, .p]<|su (qd U qbl U) U<|su (qg U qf3 U) U<|su (qy (f := S5072.c) (l := a0.Waiting) U Tryz.underlying24 U) U<|sm U U<|qc<|qq<|za (γ := Nat × (List S5072) × (List S5072)) (fun g => ([(2, .ptr 2 0), (3, .ptr 3 0), (49, .g (G.sl 14 (List.map S5072.c a0.Waiting))), (50, .g (G.int (List.length a0.Waiting : Int))), (51, .g (G.int ((g.1 : Nat) : Int)))], [(2, .box [.g (G.lit (.slice none 0 0)), .g (G.lit (.slice none 0 0))]), (3, .box [.osl 2030 16 0 (List.length x2), .osl 2031 14 0 (List.length g.2.2)]), (2030, .arr 101 16 (List.map S5100.c x2)), (2031, .arr 105 14 (List.map S5072.c g.2.2))])) (fun g => g.2.2.length ≤ g.1 ∧ a0.Waiting.drop g.1 = g.2.1 ∧ qcf x2 g.2.1 g.1 g.2.2 = R) (fun g => List.length g.2.1) ⟨U, (0, a0.Waiting, ([] : List S5072)), jA, jA, U, ⟨iH, U, (by exact hR)⟩, O⟩ ?_
   ·rintro ⟨k8, t10, x7⟩ ⟨iv2_0, hd2, hR⟩;replace hd2 : a0.Waiting.drop k8 = t10 := hd2;replace hR : qcf x2 t10 k8 x7 = R := hR;replace iv2_0 : x7.length ≤ k8 := iv2_0;refine qb<|qa [.p]<|su (ze U U U) U<|qc ?_;refine zp (f := S5072.c) (l := a0.Waiting) 49 U fun hlz2 => ?_;refine qb ?_;refine ql _ U (fun h3 => ?_) (fun h3 => ?_)
    ·replace h3 : (decide (((k8 : Nat) : Int) < (List.length a0.Waiting : Int))) = true := h3;obtain ⟨y9, t10, rfl, hx2, hd2⟩ := zq hd2 (decT h3);replace h3 := decT h3;rw [qcf] at hR;(try dsimp only at hR);refine qn<|qb<|qq<|qb<|qa [.p, .p, .w, .w]<|su (z4 (f := S5072.c) (l := a0.Waiting) (a := y9) U Tryz.underlying24 qdi U U (Int.natCast_nonneg _) hx2) U<|su (qp U qdi U U U) U<|sw (zh 10 U q6p U U) U<|z7 U U (qw (tv := .g (G.agg (S5072.c y9))) U qdi U U U U U)<|qc<|qa [.p, .r, .r, .p, .k, .p, .w]<|su (zo U qdk U) U<|sr (zz U qjn U U U) U<|sr (zj U qdi U U U U) U ?_;refine su (qt U Tryz.underlying41 qf5 q60 U (qv U jh) U (by simp [S5072.c, S115.c, S45.c]) (by decide)) U ?_;refine st_k U U (qc1 3 1 U (ve (f := S5072.c) (out := x7) (new := [y9]) U qv4 U U (wx U (wy (by decide) (by simp [S5072.c, S115.c, S45.c]))) (qrf U) (by simp; omega))) U ?_;refine su (zo U qdk U) U<|z7 U U (qw (tv := .osl 2031 14 0 (List.length (x7 ++ [y9]))) U qjn U U U U U)<|qc<|qa [.p, .p]<|su (zl U U U iE) U<|sm U U<|qc ?_;exact ⟨U, (k8 + 1, t10, x7 ++ [y9]), jA, jA, U, ⟨iB, hd2, hR⟩, by simp⟩
    ·replace h3 : (decide (((k8 : Nat) : Int) < (List.length a0.Waiting : Int))) = false := h3;obtain rfl := zu hd2 (decF h3);rw [qcf] at hR;refine zr<|qb<|qba (l := [(2, .ptr 2 0), (3, .ptr 3 0)]) (m := [(2, .box [.g (G.lit (.slice none 0 0)), .g (G.lit (.slice none 0 0))]), (3, .box [.g (G.sl 16 (List.map S5100.c x2)), .osl 2031 14 0 (List.length x7)]), (2031, .arr 105 14 (List.map S5072.c x7))]) 3 0 2030 16 _ U U U ((List.length_map ..).trans U) ⟨U, U, O⟩ ⟨U, U, U, O⟩ U U<|qba (l := [(2, .ptr 2 0), (3, .ptr 3 0)]) (m := [(2, .box [.g (G.lit (.slice none 0 0)), .g (G.lit (.slice none 0 0))]), (3, .box [.g (G.sl 16 (List.map S5100.c x2)), .g (G.sl 14 (List.map S5072.c x7))])]) 3 1 2031 14 _ U U U ((List.length_map ..).trans U) ⟨U, U, O⟩ ⟨U, U, O⟩ U U<|qa [.r, .w]<|sr (zj U zi U U U U) U<|z7 U U (qw (tv := .g (G.agg [G.sl 16 (List.map S5100.c x2), G.sl 14 (List.map S5072.c x7)])) U zi U U U U U)<|qc<|qo ?_;subst hR;exact zb U (kr U U zi U U)
theorem qkc {α : Type} {l : List α} {n : Nat} {x : α} (h : ixO l ((n : Nat) : Int) = some x) : l[n]? = some x := by
 have := zk h; rwa [Int.toNat_natCast] at this
theorem qio {s : ByteArray} : qdr s = 0 ↔ s147 s = true := by unfold qdr; rw [qd8]; cases s91 s <;> simp
theorem q61 (a : ByteArray) : ∀ (l : List ByteArray) (k : Nat), qhm a l k = true ↔ a ∈ l
 | [], k => by rw [qhm]; simp
 | y :: t, k => by
  rw [qhm]
  by_cases h : y = a
  ·subst h; simp
  ·rw [decide_eq_false h, cond_false, q61 a t, List.mem_cons];exact ⟨.inr, fun q => q.resolve_left fun e => h e.symm⟩
theorem q62 (l : List ByteArray) (a : ByteArray) : s92 l a = true ↔ a ∈ l := q61 a l 0
theorem q2f (a0 : S5036) : ∀ (k n : Nat), j9 a0 k 0 ((n : Nat) : Int) = some 0 → ∀ j c, n ≤ j → a0.Shares[j]? = some c → s147 c = true ∧ ¬ c = a0.Holder ∧ ¬ c ∈ a0.Shares.take j
 | 0, n, h => by rw [j9] at h; cases h
 | k + 1, n, h => by
  intro j c hj hc;have hjl : j < a0.Shares.length := (List.getElem?_eq_some_iff.1 hc).1;rw [j9, cond_eq_ite] at h;rw [if_pos (by rw [decide_eq_true (show ((n : Nat) : Int) < (a0.Shares.length : Int) by omega)]; rfl)] at h;obtain ⟨y, hy, h⟩ := qi h;have hy' := qkc hy;obtain ⟨y', hy2, h⟩ := qi h
  have fin : ∀ e : Int, e ≠ 0 → qbg (fun z0_ z1_ => j9 a0 k z0_ z1_) a0 ((n : Nat) : Int) e = some 0 → False := by
   intro e he hq;unfold qbg at hq;rw [decide_eq_false he] at hq;simp only [cond_false, Bool.false_and] at hq;obtain ⟨_, _, hq⟩ := qi hq;replace hq : j9 a0 k e (((n : Nat) : Int) + 1) = some 0 := hq
   cases k with
   | zero => rw [j9] at hq; cases hq
   | succ k =>
    rw [j9, decide_eq_false he, Bool.and_false, cond_false] at hq;exact he (Option.some.inj hq)
  rw [cond_eq_ite] at h
  split at h
  ·exact (fin 31 (by decide) h).elim
  rename_i c1
  by_cases h0 : qdr y = 0
  ·rw [h0] at h hy2 c1;rw [decide_eq_true rfl, cond_true] at hy2;have e2 : y' = y := Option.some.inj (hy2.symm.trans hy);rw [e2] at c1
   have c1 : ¬ y = a0.Holder := by simpa using c1
   unfold qbg at h;rw [decide_eq_true (show (0 : Int) = 0 from rfl)] at h;simp only [cond_true, Bool.true_and] at h;obtain ⟨y2, hy3, h⟩ := qi h;have e3 : y2 = y := Option.some.inj (hy3.symm.trans hy);rw [e3, Int.toNat_natCast] at h;rw [cond_eq_ite] at h
   split at h
   ·replace h : j9 a0 k 9 (((n : Nat) : Int) + 1) = some 0 := h
    cases k with
    | zero => rw [j9] at h; cases h
    | succ k => rw [j9, decide_eq_false (show ¬ (9 : Int) = 0 by decide), Bool.and_false, cond_false] at h; cases h
   rename_i c2
   unfold qfd at h
   by_cases e : j = n
   ·subst e;have : c = y := Option.some.inj (hc.symm.trans hy');rw [this];exact ⟨qio.1 h0, c1, fun hm => c2 ((q62 _ _).2 hm)⟩
   ·exact q2f a0 k (n + 1) h j c (by omega) hc
  ·exact (fin _ h0 h).elim
theorem qz1 (a0 : S5036) {x : Int} (h : qb6 a0 x = some 0) : x = 0 ∧ ∀ j c, a0.Shares[j]? = some c → s147 c = true ∧ ¬ c = a0.Holder ∧ ¬ c ∈ a0.Shares.take j := by
 unfold qb6 at h
 by_cases hx : x = 0
 ·subst hx; exact ⟨rfl, fun j c hc => q2f a0 _ 0 h j c (Nat.zero_le _) hc⟩
 ·rw [j9, decide_eq_false hx, Bool.and_false, cond_false] at h;exact absurd (Option.some.inj h) hx
theorem q2g (a0 : S5036) : ∀ (k n : Nat), vn a0 k 0 ((n : Nat) : Int) = some 0 → (∀ j l, n ≤ j → a0.Leases[j]? = some l → qhg l = 0 ∧ qhh a0 l = 0 ∧ (0 < j → ∀ q, a0.Leases[j - 1]? = some q → q.fTo < l.fFrom)) ∧
  a0.Shares.length ≤ 4 ∧ ∀ j c, a0.Shares[j]? = some c → s147 c = true ∧ ¬ c = a0.Holder ∧ ¬ c ∈ a0.Shares.take j
 | 0, n, h => by rw [vn] at h; cases h
 | k + 1, n, h => by
  rw [vn, cond_eq_ite] at h
  split at h
  ·rename_i c0
   have c0 : ((n : Nat) : Int) < (a0.Leases.length : Int) := by simpa using c0
   obtain ⟨y6, h6, h⟩ := qi h;obtain ⟨y7, h7, h⟩ := qi h;have e7 : y7 = y6 := Option.some.inj (h7.symm.trans h6);subst e7;obtain ⟨y8, h8, h⟩ := qi h;obtain ⟨y9, h9, h⟩ := qi h
   have fin : ∀ e : Int, e ≠ 0 → qdh (fun z0_ z1_ => vn a0 k z0_ z1_) ((n : Nat) : Int) e = some 0 → False := by
    intro e he hq;replace hq : vn a0 k e (((n : Nat) : Int) + 1) = some 0 := hq
    cases k with
    | zero => rw [vn] at hq; cases hq
    | succ k =>
     rw [vn, decide_eq_false he, Bool.and_false, cond_false, Bool.false_and, cond_false] at hq;exact he (qz1 a0 hq).1
   rw [cond_eq_ite] at h
   split at h
   ·exact (fin 15 (by decide) h).elim
   rename_i c1
   by_cases h0 : s89 [qhg y7, qhh a0 y7] = 0
   ·rw [h0] at h;unfold qdh at h;obtain ⟨g1, g2, g3⟩ := q2g a0 k (n + 1) h;refine ⟨fun j l hj hl => ?_, g2, g3⟩
    by_cases e : j = n
    ·subst e;have el : l = y7 := Option.some.inj (hl.symm.trans (qkc h6));have hz := (qhn _).1 h0;rw [el];refine ⟨hz _ (by simp), hz _ (by simp), fun hj0 q hq => ?_⟩;rw [h0, decide_eq_true (show (0 : Int) = 0 from rfl), decide_eq_true (show (0 : Int) < ((j : Nat) : Int) by omega)] at h8 h9 c1;simp only [Bool.true_and, cond_true, Bool.and_self] at h8 h9 c1;have e8 : y8 = y7 := Option.some.inj (h8.symm.trans h6)
     have e9 : y9 = q := by
      have : ixO a0.Leases (((j : Nat) : Int) - 1) = ixO a0.Leases ((j - 1 : Nat) : Int) := by congr 1; omega
      rw [this] at h9;exact Option.some.inj ((qkc h9).symm.trans hq)
     rw [e8, e9] at c1
     have c1 : ¬ y7.fFrom ≤ q.fTo := by simpa using c1
     omega
    ·exact g1 j l (by omega) hl
   ·exact (fin _ h0 h).elim
  ·rename_i c0
   have c0 : ¬ ((n : Nat) : Int) < (a0.Leases.length : Int) := by simpa using c0
   rw [cond_eq_ite] at h
   split at h
   ·have := (qz1 a0 h).1; omega
   rename_i c1
   have c1 : ¬ (4 : Int) < (a0.Shares.length : Int) := by simpa using c1
   refine ⟨fun j l hj hl => ?_, by omega, (qz1 a0 h).2⟩;have := (List.getElem?_eq_some_iff.1 hl).1
   omega
def qf0 (y : S5036) : S5100 := S5100.mk y.Request y.Holder y.Leases y.Shares
theorem qv5 {r : S115} (h : qil r = 0) : ReqV r := by
 unfold qil qfi at h;rw [cond_eq_ite] at h
 split at h
 ·cases h
 rename_i c1
 have h1 := q63 h;refine ⟨h1, fun e => c1 ?_⟩;rw [h, decide_eq_true (show (0 : Int) = 0 from rfl), Bool.true_and];refine decide_eq_true ?_;rw [qk5 h1.per] at e;rw [qnz _ h1.per];have e : dayL r.Period.Days (r.Period.fTo + 1 - r.Period.fFrom).toNat r.Period.fFrom = [] := e;rw [e]; rfl
theorem qps {y : S5036} {l : S5102} (h1 : qhg l = 0) (h2 : qhh y l = 0) : LeaseV (qf0 y) l := by
 unfold qhg qfc at h1;rw [cond_eq_ite] at h1
 split at h1
 ·cases h1
 rename_i c1
 have hz := (qhn _).1 h1;rw [h1, decide_eq_true (show (0 : Int) = 0 from rfl), Bool.true_and] at c1
 have c1 : ¬ l.fTo < l.fFrom := by simpa using c1
 have d : ∀ n, s109 n = 0 → 0 ≤ n ∧ n ≤ 99999 := fun n hn => by unfold s109 at hn; exact qaw.1 hn
 unfold qhh at h2;rw [cond_eq_ite] at h2
 split at h2
 ·cases h2
 rename_i c2
 rw [cond_eq_ite] at h2
 split at h2
 ·cases h2
 rename_i c3
 simp only [Bool.or_eq_true, decide_eq_true_eq, not_or] at c2;exact ⟨qio.1 (hz _ (by simp)), d _ (hz (s109 l.fFrom) (by simp)), d _ (hz (s109 l.fTo) (by simp)), by omega, by show y.Request.Period.fFrom ≤ _ ∧ _ ≤ y.Request.Period.fTo; omega, by show ¬ l.Carrier = y.Holder; simpa using c3⟩
theorem qz2 {y : S5036} (h : qpm y = some 0) : SlotV (qf0 y) := by
 unfold qpm at h
 have key : s89 [qil y.Request, qdr y.Holder] = 0 ∧ y.Leases.length ≤ 8 ∧ qar y 0 = some 0 := by
  have nz : ∀ e : Int, qar y e = some 0 → e = 0 := by
   intro e hq
   by_cases he : e = 0
   ·exact he
   ·unfold qar at hq;rw [vn, decide_eq_false he, Bool.and_false, cond_false, Bool.false_and, cond_false] at hq;exact (qz1 y hq).1
  rw [cond_eq_ite] at h
  split at h
  ·have := nz _ h; omega
  rename_i c1
  have h0 := nz _ h;rw [h0] at h c1;rw [decide_eq_true (show (0 : Int) = 0 from rfl), Bool.true_and] at c1
  have c1 : ¬ (8 : Int) < (y.Leases.length : Int) := by simpa using c1
  exact ⟨h0, by omega, h⟩
 obtain ⟨k1, k2, k3⟩ := key;unfold qar at k3;obtain ⟨g1, g2, g3⟩ := q2g y _ 0 k3;have hz := (qhn _).1 k1
 have hlp : ∀ j (hj : j < y.Leases.length), ∀ i (hi : i < j), (y.Leases[i]'(by omega)).fTo < (y.Leases[j]).fFrom := by
  intro j
  induction j with
  | zero => intro hj i hi; omega
  | succ j ih =>
   intro hj i hi;have q1 := (g1 (j + 1) _ (Nat.zero_le _) (List.getElem?_eq_getElem hj)).2.2 (Nat.succ_pos _) _ (List.getElem?_eq_getElem (show j < y.Leases.length by omega))
   by_cases e : i = j
   ·subst e; exact q1
   ·have q2 := ih (by omega) i (by omega);have q3 := g1 j _ (Nat.zero_le _) (List.getElem?_eq_getElem (show j < y.Leases.length by omega));have q4 := (qps q3.1 q3.2.1).o
    omega
 refine ⟨qv5 (hz (qil y.Request) (by simp)), qio.1 (hz (qdr y.Holder) (by simp)), k2, fun l hl => ?_, ?_, g2, fun c hc => ?_, ?_⟩
 ·obtain ⟨j, hj⟩ := List.mem_iff_getElem?.1 hl;have := g1 j l (Nat.zero_le _) hj;exact qps this.1 this.2.1
 ·show y.Leases.Pairwise _;exact List.pairwise_iff_getElem.2 fun i j hi hj hij => hlp j hj i hij
 ·obtain ⟨j, hj⟩ := List.mem_iff_getElem?.1 hc;have := g3 j c hj;exact ⟨this.1, this.2.1⟩
 ·show y.Shares.Nodup;refine List.pairwise_iff_getElem.2 fun i j hi hj hij e => ?_;refine (g3 j _ (List.getElem?_eq_getElem hj)).2.2 ?_;rw [List.mem_iff_getElem];exact ⟨i, by rw [List.length_take]; omega, by rw [List.getElem_take]; exact e⟩
theorem qip (n : ByteArray) : ∀ (l : List S5036) (k : Nat), 0 ≤ qb7 n l k ↔ ∃ x ∈ l, x.Request.Name = n
 | [], k => by rw [qb7]; simp
 | y :: t, k => by
  rw [qb7]
  by_cases h : y.Request.Name = n
  ·rw [decide_eq_true h, cond_true]; simp [h]
  ·rw [decide_eq_false h, cond_false, qip n t]; simp [h]
theorem qmn (n : ByteArray) : ∀ (l : List S5072) (k : Nat), 0 ≤ qb8 n l k ↔ ∃ x ∈ l, x.Request.Name = n
 | [], k => by rw [qb8]; simp
 | y :: t, k => by
  rw [qb8]
  by_cases h : y.Request.Name = n
  ·rw [decide_eq_true h, cond_true]; simp [h]
  ·rw [decide_eq_false h, cond_false, qmn n t]; simp [h]
theorem q64 (a0 : S5025) : ∀ (t : List S5036) (k : Nat), a0.Slots.drop k = t → vw a0 t k = some 0 → (∀ j y, k ≤ j → a0.Slots[j]? = some y → qpm y = some 0 ∧ ∀ x ∈ a0.Slots.take j, ¬ x.Request.Name = y.Request.Name) ∧ a0.Waiting.length ≤ 64 ∧ kw a0 a0.Waiting 0 = some 0
 | [], k, hd, h => by
  rw [vw, cond_eq_ite] at h
  split at h
  ·cases h
  rename_i c1
  have c1 : ¬ (64 : Int) < (a0.Waiting.length : Int) := by simpa using c1
  refine ⟨fun j y hj hy => ?_, by omega, h⟩;have h1 := (List.getElem?_eq_some_iff.1 hy).1;have h2 := congrArg List.length hd;rw [List.length_drop] at h2
  simp at h2; omega
 | y :: t, k, hd, h => by
  obtain ⟨h1, h2, h3⟩ := qds hd;rw [vw] at h;obtain ⟨r, hr, h⟩ := qi h
  have j3 : ∀ e : Int, qcc (fun k_ => vw a0 t k_) k e = some 0 → e = 0 ∧ vw a0 t (k + 1) = some 0 := by
   intro e hq;unfold qcc at hq
   by_cases he : e = 0
   ·subst he; rw [decide_eq_false (by simp), cond_false] at hq; exact ⟨rfl, hq⟩
   ·rw [decide_eq_true he, cond_true] at hq; exact absurd (Option.some.inj hq) he
  rw [cond_eq_ite] at h
  split at h
  ·have := (j3 _ h).1; omega
  rename_i c1
  obtain ⟨hr0, h⟩ := j3 _ h;rw [hr0] at hr c1;rw [decide_eq_true (show (0 : Int) = 0 from rfl), Bool.true_and] at c1;obtain ⟨g1, g2⟩ := q64 a0 t (k + 1) h2 h;refine ⟨fun j z hj hz => ?_, g2⟩
  by_cases e : j = k
  ·subst e;have ez : z = y := Option.some.inj (hz.symm.trans h1);rw [ez];refine ⟨hr, fun x hx hxe => c1 (decide_eq_true ?_)⟩;rw [Int.toNat_natCast];unfold qq6;exact (qip _ _ _).2 ⟨x, hx, hxe⟩
  ·exact g1 j z (by omega) hz
theorem q65 (a0 : S5025) : ∀ (t : List S5072) (k : Nat), a0.Waiting.drop k = t → a0.Waiting.length ≤ 1000 → kw a0 t k = some 0 → ∀ j y, k ≤ j → a0.Waiting[j]? = some y → qpn y = 0 ∧ (∀ x ∈ a0.Slots, ¬ x.Request.Name = y.Request.Name) ∧ (∀ x ∈ a0.Waiting.take j, ¬ x.Request.Name = y.Request.Name) ∧ (0 < j → ∀ q, a0.Waiting[j - 1]? = some q → qq5 q y = true)
 | [], k, hd, _, h => by
  intro j y hj hy;have h1 := (List.getElem?_eq_some_iff.1 hy).1;have h2 := congrArg List.length hd;rw [List.length_drop] at h2
  simp at h2; omega
 | y :: t, k, hd, hl, h => by
  obtain ⟨h1, h2, h3⟩ := qds hd;rw [kw] at h
  have j1 : ∀ e : Int, qca (fun k_ => kw a0 t k_) k e = some 0 → e = 0 ∧ kw a0 t (k + 1) = some 0 := by
   intro e hq;unfold qca at hq
   by_cases he : e = 0
   ·subst he; rw [decide_eq_false (by simp), cond_false] at hq; exact ⟨rfl, hq⟩
   ·rw [decide_eq_true he, cond_true] at hq; exact absurd (Option.some.inj hq) he
  have j2 : ∀ e : Int, qcb (fun k_ => kw a0 t k_) a0 k y e = some 0 → e = 0 ∧ kw a0 t (k + 1) = some 0 ∧ (0 < k → ∀ q, a0.Waiting[k - 1]? = some q → qq5 q y = true) := by
   intro e hq;unfold qcb at hq;obtain ⟨p, hp, hq⟩ := qi hq;rw [cond_eq_ite] at hq
   split at hq
   ·have := (j1 _ hq).1; omega
   rename_i c1
   obtain ⟨e0, hq⟩ := j1 _ hq;refine ⟨e0, hq, fun hk q hqk => ?_⟩;subst e0;rw [decide_eq_true (show (0 : Int) = 0 from rfl), decide_eq_true (show (0 : Int) < ((k : Nat) : Int) by omega)] at hp c1;simp only [Bool.and_self, cond_true, Bool.true_and] at hp c1;rw [wrap_i64 (by unfold I64; omega)] at hp
   have : p = q := by
    have e1 : ixO a0.Waiting (((k : Nat) : Int) - 1) = ixO a0.Waiting ((k - 1 : Nat) : Int) := by congr 1; omega
    rw [e1] at hp;exact Option.some.inj ((qkc hp).symm.trans hqk)
   subst this
   simpa using c1
  rw [cond_eq_ite] at h
  split at h
  ·have := (j2 _ h).1; omega
  rename_i c1
  obtain ⟨g1, g2, g3⟩ := j2 _ h;rw [g1, decide_eq_true (show (0 : Int) = 0 from rfl), Bool.true_and] at c1;simp only [Bool.or_eq_true, decide_eq_true_eq, not_or] at c1;intro j z hj hz
  by_cases e : j = k
  ·subst e;have ez : z = y := Option.some.inj (hz.symm.trans h1);rw [ez];refine ⟨g1, fun x hx hxe => c1.1 ?_, fun x hx hxe => c1.2 ?_, g3⟩
   ·unfold qq6; exact (qip _ _ _).2 ⟨x, hx, hxe⟩
   ·rw [Int.toNat_natCast]; unfold qvy; exact (qmn _ _ _).2 ⟨x, hx, hxe⟩
  ·exact q65 a0 t (k + 1) h2 hl g2 j z (by omega) hz
theorem qz3 {a b c : S5072} (h : qra a b) (k : qra b c) : qra a c := by
 rcases h with h | ⟨h1, h⟩ <;> rcases k with k | ⟨k1, k⟩
 ·exact .inl (by omega)
 ·exact .inl (by omega)
 ·exact .inl (by omega)
 ·exact .inr ⟨by omega, qz4 h k⟩
theorem qz5 {α : Type} {r : α → α → Prop} (tr : ∀ {a b c}, r a b → r b c → r a c) {l : List α} (h : ∀ j y q, 0 < j → l[j]? = some y → l[j - 1]? = some q → r q y) : l.Pairwise r := by
 refine List.pairwise_iff_getElem.2 fun i j hi hj hij => ?_
 induction j with
 | zero => omega
 | succ j ih =>
  have q1 := h (j + 1) _ _ (Nat.succ_pos _) (List.getElem?_eq_getElem hj) (List.getElem?_eq_getElem (show j + 1 - 1 < l.length by omega))
  by_cases e : i = j
  ·subst e; exact q1
  ·exact tr (ih (by omega) (by omega)) q1
theorem qv6 (x2 : List S5100) : ∀ (l : List S5072) (k : Nat) (x : List S5072), qcf x2 l k x = S5042.mk x2 (x ++ l)
 | [], k, x => by rw [qcf, List.append_nil]
 | y :: t, k, x => by rw [qcf, qv6 x2 t]; simp
theorem qv7 (rec1 : Nat → (List S5100) → S5042) (x2 : List S5100) (k3 : Nat) (y4 : S5036) : ∀ (l : List S5102) (k : Nat) (x : List S5102), qcg rec1 x2 k3 y4 l k x = rec1 (k3 + 1) (x2 ++ [S5100.mk y4.Request y4.Holder (x ++ l) y4.Shares])
 | [], k, x => by rw [qcg, List.append_nil]
 | y :: t, k, x => by rw [qcg, qv7 rec1 x2 k3 y4 t]; simp
theorem qv8 (a0 : S5025) : ∀ (l : List S5036) (k : Nat) (x : List S5100), qau a0 l k x = S5042.mk (x ++ l.map qf0) a0.Waiting
 | [], k, x => by rw [qau, qv6]; simp
 | y :: t, k, x => by rw [qau, qv7, qv8 a0 t]; simp [qf0]
theorem qax (a0 : S5025) : xo a0 = S5042.mk (a0.Slots.map qf0) a0.Waiting := by unfold xo; rw [qv8]; rfl
theorem qz6 {a0 : S5025} (h : qq7 a0 = some 0) : BookV (xo a0) := by
 unfold qq7 at h;rw [cond_eq_ite] at h
 split at h
 ·cases h
 rename_i c1
 have c1 : ¬ (64 : Int) < (a0.Slots.length : Int) := by simpa using c1
 obtain ⟨g1, g2, g3⟩ := q64 a0 _ 0 rfl h;have g4 := q65 a0 _ 0 rfl (by omega) g3;rw [qax];refine ⟨by show (a0.Slots.map qf0).length ≤ 64; rw [List.length_map]; omega, g2, fun x hx => ?_, fun w hw => ?_, ?_, ?_⟩
 ·obtain ⟨y, hy, rfl⟩ := List.mem_map.1 hx;obtain ⟨j, hj⟩ := List.mem_iff_getElem?.1 hy;exact qz2 (g1 j y (Nat.zero_le _) hj).1
 ·obtain ⟨j, hj⟩ := List.mem_iff_getElem?.1 hw;have := (g4 j w (Nat.zero_le _) hj).1;unfold qpn at this;have hz := (qhn _).1 this;exact ⟨qv5 (hz _ (by simp)), qaw.1 (hz (s90 w.Rank 0 999999999) (by simp))⟩
 ·have e : qer (a0.Slots.map qf0) = a0.Slots.map fun x => x.Request.Name := by unfold qer; rw [List.map_map]; rfl
  show (qer (a0.Slots.map qf0) ++ qk3 a0.Waiting).Nodup;rw [e];refine List.nodup_append.2 ⟨?_, ?_, ?_⟩
  ·refine List.pairwise_iff_getElem.2 fun i j hi hj hij he => ?_;rw [List.length_map] at hi hj;rw [List.getElem_map, List.getElem_map] at he;refine (g1 j _ (Nat.zero_le _) (List.getElem?_eq_getElem hj)).2 (a0.Slots[i]) ?_ he;rw [List.mem_iff_getElem];exact ⟨i, by rw [List.length_take]; omega, by rw [List.getElem_take]⟩
  ·refine List.pairwise_iff_getElem.2 fun i j hi hj hij he => ?_;unfold qk3 at hi hj he;rw [List.length_map] at hi hj;rw [List.getElem_map, List.getElem_map] at he;refine (g4 j _ (Nat.zero_le _) (List.getElem?_eq_getElem hj)).2.2.1 (a0.Waiting[i]) ?_ he;rw [List.mem_iff_getElem];exact ⟨i, by rw [List.length_take]; omega, by rw [List.getElem_take]⟩
  ·intro a ha b hb hab;obtain ⟨x, hx, rfl⟩ := List.mem_map.1 ha;obtain ⟨w, hw, rfl⟩ := List.mem_map.1 hb;obtain ⟨j, hj⟩ := List.mem_iff_getElem?.1 hw;exact (g4 j w (Nat.zero_le _) hj).2.1 x hx hab
 ·refine qz5 (r := qra) (fun {a b c} h k => qz3 h k) fun j y q hj hy hq => ?_;have := (g4 j y (Nat.zero_le _) hy).2.2.2 hj q hq;unfold qq5 at this;unfold qra
  simpa using this
theorem qmo (f : S2062 → Bool) : ∀ (l : List S2062) (k : Nat), 0 ≤ qch f l k ↔ ∃ x ∈ l, f x = true
 | [], k => by rw [qch]; simp
 | y :: t, k => by
  rw [qch]
  cases h : f y with
  | true => simp [h]
  | false => rw [cond_false, qmo f t]; simp [h]
theorem qmp (n : ByteArray) : ∀ (l : List S2062) (k : Nat), 0 ≤ qci n l k ↔ ∃ x ∈ l, x.Name = n
 | [], k => by rw [qci]; simp
 | y :: t, k => by
  rw [qci]
  by_cases h : y.Name = n
  ·rw [decide_eq_true h, cond_true]; simp [h]
  ·rw [decide_eq_false h, cond_false, qmp n t]; simp [h]
theorem qv9 {k : ByteArray} (h : k = (⟨#[65]⟩ : ByteArray) ∨ k = (⟨#[68]⟩ : ByteArray) ∨ k = (⟨#[84]⟩ : ByteArray)) : mhas kindL k = true := by
 rcases h with rfl | rfl | rfl <;> decide
theorem qz7 {l : S2062} (h : LimR l) : qbu l = 0 :=
 qfj.2 ⟨h.n, qv9 h.k, by
  have := h.t;unfold qrg at this;rw [qd8]
  simpa using this, h.le, h.st, h.f, h.o, by have := h.ft; omega, h.per, h.mo⟩
theorem qwa (a0 : List S2062) : ∀ (t : List S2062) (k : Nat), a0.drop k = t → qdl a0 t k = 0 → qbm a0 t k = 0
 | [], _, _, _ => rfl
 | y :: t, k, hd, h => by
  obtain ⟨h1, h2, h3⟩ := qds hd;rw [qdl, cond_eq_ite] at h
  split at h
  ·rename_i c; simp at c; exact absurd h c
  rename_i c1
  rw [cond_eq_ite] at h
  split at h
  ·cases h
  rename_i c2
  have hl := qz7 (q2h (by simpa using c1))
  have hz : vo [(qbu y), (xa (decide (0 ≤ (qk6 (List.take (Int.toNat ((k : Nat) : Int)) a0) y.Name))) 9)] = 0 := jx.2 fun x hx => by
   simp only [List.mem_cons, List.not_mem_nil, or_false] at hx
   rcases hx with rfl | rfl
   ·exact hl
   ·refine (xk (by decide)).2 (decide_eq_false fun hq => c2 (decide_eq_true ?_));unfold qk6 qwb at hq;obtain ⟨x, hx, hxe⟩ := (qmo _ _ _).1 hq;unfold quf;exact (qmp _ _ _).2 ⟨x, hx, by simpa [qug] using hxe⟩
  rw [qbm, hz, decide_eq_false (by simp), cond_false];exact qwa a0 t (k + 1) h2 h
theorem qz8 {a0 : List S2062} (h : qnw a0 = 0) : qbv a0 = 0 := by
 unfold qnw at h;rw [cond_eq_ite] at h
 split at h
 ·cases h
 rename_i c1
 unfold qbv;rw [decide_eq_false (by simpa using c1), cond_false];exact qwa a0 _ 0 U h
theorem qwc : ∀ (l : List S2062) (k : Nat) (x : List S2062), qcd l k x = x ++ l
 | [], k, x => by rw [qcd, List.append_nil]
 | y :: t, k, x => by rw [qcd, qwc t]; simp
theorem qss (l : List S2062) : qim l = l := by unfold qim; rw [qwc]; rfl
structure OpenV (a0 : List S2062) (a1 : S5025) : Prop where
 lims : qbv a0 = 0
 ref : qnw a0 = 0
 book : BookV (xo a1)
 sl : a1.Slots.length ≤ 5
 wl : a1.Waiting.length ≤ 5
 bs : ∀ x ∈ a1.Slots, x.Request.Period.fTo - x.Request.Period.fFrom < 14
 bw : ∀ x ∈ a1.Waiting, x.Request.Period.fTo - x.Request.Period.fFrom < 14
theorem qz9 {p : S45} (h : s102 p = 0) : s40 p = 0 := by
 obtain ⟨q1, q2, q3, q4, q5, q6⟩ := vk _ h
 have d : ∀ n : Int, 0 ≤ n → n ≤ 99999 → s109 n = 0 := fun n h1 h2 => by unfold s109; exact qaw.2 ⟨h1, h2⟩
 unfold s40;rw [d _ q1 (by omega), d _ (by omega) (by omega), decide_eq_false (show ¬ p.fTo < p.fFrom by omega), wrap_i64 (by unfold I64; omega), decide_eq_false (show ¬ 400 < p.fTo - p.fFrom by omega)];exact qaw.2 ⟨q5, q6⟩
theorem qst {r : S115} (hv : RqOk r) (h : qkx r = true) : r.Period.fTo - r.Period.fFrom < 14 := by
 unfold qkx at h;rw [qz9 hv.per] at h;obtain ⟨q1, q2, q3, q4, q5, q6⟩ := vk _ hv.per;rw [wrap_i64 (by unfold I64; omega)] at h;simp only [Bool.and_eq_true, Bool.or_eq_true, decide_eq_true_eq, ne_eq, not_true_eq_false, false_or] at h;exact h.2
theorem q66 : ∀ (t : List S5072) (k : Nat), qb9 t k = true → ∀ x ∈ t, qkx x.Request = true
 | [], _, _, x, hx => by cases hx
 | y :: t, k, h, x, hx => by
  rw [qb9, cond_eq_ite] at h
  split at h
  ·cases h
  ·rename_i h1
   rcases List.mem_cons.1 hx with rfl | hx
   ·simpa using h1
   ·exact q66 t _ h x hx
theorem qwd (a : S5025) : ∀ (t : List S5036) (k : Nat), qbk a t k = true → qb9 a.Waiting 0 = true
 | [], _, h => h
 | y :: t, k, h => by
  rw [qbk, cond_eq_ite] at h
  split at h
  ·cases h
  ·exact qwd a t _ h
theorem q4d {a0 : List S2062} {a1 : S5025} (h : qpp a0 a1 = some true) : OpenV a0 a1 := by
 unfold qpp at h;obtain ⟨r, hr, h⟩ := qi h;have h := Option.some.inj h;simp only [Bool.and_eq_true, decide_eq_true_eq] at h;obtain ⟨⟨⟨h1, h2⟩, h3⟩, h4⟩ := h;rw [qss] at h1 h2;rw [qss, h1, h2, h3, decide_eq_true (show (0 : Int) = 0 from rfl)] at hr;simp only [Bool.and_self, cond_true] at hr;subst h4;have hb := qz6 hr;have h3' := h3;unfold qky at h3;rw [cond_eq_ite] at h3
 split at h3
 ·cases h3
 rename_i c1
 simp only [Bool.or_eq_true, Bool.and_eq_true, decide_eq_true_eq, not_or, not_and, Decidable.not_not, ne_eq] at c1;have e := qax a1;have hsl := hb.sl;have hwl := hb.wl;rw [e] at hsl hwl;have hsl : (a1.Slots.map qf0).length ≤ 64 := hsl;have hwl : a1.Waiting.length ≤ 64 := hwl;rw [List.length_map] at hsl;refine ⟨qz8 h2, h2, hb, ?_, ?_, fun x hx => ?_, fun x hx => ?_⟩
 ·by_cases c : (5 : Int) < (a1.Slots.length : Int)
  ·have := c1.1 c; omega
  ·omega
 ·by_cases c : (5 : Int) < (a1.Waiting.length : Int)
  ·have := c1.2 c; omega
  ·omega
 ·have hv := hb.s (qf0 x) (by rw [e]; exact List.mem_map_of_mem hx);exact qst hv.rq.ok (qso (qpo h3' x hx)).2.2
 ·have hv := hb.w x (by rw [e]; exact hx);exact qst hv.rq.ok (q66 _ 0 (qwd a1 _ 0 h3) x hx)
def mvOf (r : S115) (d : Int) : S1079 := S1079.mk (1440 * d + r.Minute) r.Kind r.Terminal r.Seats r.Size r.Noise r.Name
def mvs (r : S115) : List S1079 := (s69 r.Period).1.map (mvOf r)
theorem qwe {r : S115} (hm : 0 ≤ r.Minute ∧ r.Minute ≤ 1439) : ∀ (t : List Int), (∀ d ∈ t, 0 ≤ d ∧ d ≤ 99999) → ∀ (k : Nat) (x : List S1079), qcj r t k x = x ++ t.map (mvOf r)
 | [], _, k, x => by rw [qcj]; simp
 | d :: t, hd, k, x => by
  have h := hd d List.mem_cons_self;rw [qcj, qwe hm t (fun y hy => hd y (List.mem_cons_of_mem _ hy)), wrap_i64 (n := 1440 * d) (by unfold I64; omega), wrap_i64 (by unfold I64; omega)]
  simp [mvOf]
theorem q0a {r : S115} (h : RqOk r) : quh r = mvs r := by
 unfold quh mvs;rw [qwe h.m _ (qkd h.per)]; rfl
theorem qsu {r : S115} (h : RqOk r) : ql9 r = (mvs r, 0) := by
 unfold ql9;rw [qwf h, decide_eq_false (by simp), cond_false, q0a h]
theorem q0b {p : S45} (hp : s102 p = 0) : (s69 p).1.Pairwise (· < ·) := by
 rw [qk5 hp]
 have key : ∀ (m : Int) (n : Nat) (f : Int), (dayL m n f).Pairwise (· < ·) := by
  intro m n
  induction n with
  | zero => intro f; exact List.Pairwise.nil
  | succ n ih =>
   intro f;unfold dayL
   split
   ·exact List.Pairwise.cons (fun d hd => by have := qd0 _ _ _ d hd; omega) (ih _)
   ·exact ih _
 exact key _ _ _
theorem q67 {r : S115} (h : RqOk r) : (∀ m ∈ mvs r, MvOk m) ∧ ((mvs r).map S1079.Moment).Pairwise (· ≤ ·) := by
 constructor
 ·intro m hm;obtain ⟨d, hd, rfl⟩ := List.mem_map.1 hm;have h1 := qkd h.per d hd;have h2 := h.m; have h3 := h.s; have h4 := h.z; have h5 := h.no;refine ⟨by show 0 ≤ 1440 * d + r.Minute; omega, by show 1440 * d + r.Minute ≤ 143999999; omega, h.k, ?_, h3.1, h3.2, ?_, h4.2, h5.1, h5.2, h.n⟩
  ·show r.Terminal = _ ∨ _;have ht := h.t;unfold qiq at ht;show r.Terminal = _ ∨ s147 r.Terminal = true;rw [qd8]
   simpa using ht
  ·show 0 ≤ r.Size; omega
 ·unfold mvs;rw [List.map_map, List.pairwise_map]
  exact (q0b h.per).imp fun {a b} hab => by show 1440 * a + r.Minute ≤ 1440 * b + r.Minute; omega
theorem q0c {r : S115} (h : RqOk r) (hb : r.Period.fTo - r.Period.fFrom < 14) : (mvs r).length ≤ 14 := by
 unfold mvs;rw [List.length_map, qk5 h.per];have := qho r.Period.Days (r.Period.fTo + 1 - r.Period.fFrom).toNat r.Period.fFrom;show (dayL r.Period.Days (r.Period.fTo + 1 - r.Period.fFrom).toNat r.Period.fFrom).length ≤ 14
 omega
theorem qwg {r : S115} (h : RqOk r) (hb : r.Period.fTo - r.Period.fFrom < 14) : qal (mvs r) = some 0 := (qhp (by have := q0c h hb; omega)).2 (q67 h)
def mrg (a b : List S1079) : List S1079 := ((qpt a b).getD ([], 0)).1
theorem q68 {a b : List S1079} (ha : qal a = some 0) (hb : qal b = some 0) (hl : a.length + b.length ≤ 30000) : qpt a b = some (mrg a b, 0) ∧ (mrg a b).Perm (a ++ b) ∧ Srt ltM (mrg a b) ∧ qal (mrg a b) = some 0 := by
 obtain ⟨Z, h1, h2, h3, h4⟩ := q0d ha hb hl
 have e : mrg a b = Z := by unfold mrg; rw [h1]; rfl
 rw [e];exact ⟨h1, h2, h3, h4⟩
def bmv : List S1079 → List S115 → List S1079
 | x, [] => x
 | x, r :: t => bmv (mrg x (mvs r)) t
structure Brf (r : S115) : Prop where
 ok : RqOk r
 b : r.Period.fTo - r.Period.fFrom < 14
structure MvV (x : List S1079) (n : Nat) : Prop where
 z : qal x = some 0
 l : x.length ≤ n
theorem q0e {x : List S1079} {n : Nat} {r : S115} (h : MvV x n) (hr : Brf r) (hn : n ≤ 20000) : MvV (mrg x (mvs r)) (n + 14) ∧ qpt x (ql9 r).1 = some (mrg x (mvs r), 0) ∧ (mrg x (mvs r)).Perm (x ++ mvs r) ∧ Srt ltM (mrg x (mvs r)) := by
 have hl := q0c hr.ok hr.b;have h1 := h.l;obtain ⟨g1, g2, g3, g4⟩ := q68 h.z (qwg hr.ok hr.b) (by omega);refine ⟨⟨g4, by rw [g2.length_eq, List.length_append]; omega⟩, by rw [qsu hr.ok]; exact g1, g2, g3⟩
theorem qwh : ∀ (t : List S115) (x : List S1079) (n : Nat), (∀ r ∈ t, Brf r) → MvV x n → n + t.length * 14 ≤ 20000 → qck t x = some (bmv x t) ∧ MvV (bmv x t) (n + t.length * 14) ∧ (bmv x t).Perm (x ++ t.flatMap mvs) ∧ (Srt ltM x → Srt ltM (bmv x t))
 | [], x, n, _, h, _ => ⟨rfl, by simpa [bmv] using h, by simp [bmv], fun h => h⟩
 | r :: t, x, n, hr, h, hn => by
  rw [List.length_cons] at hn;obtain ⟨g1, g2, g3, g4⟩ := q0e h (hr r List.mem_cons_self) (by omega);obtain ⟨k1, k2, k3, k4⟩ := qwh t (mrg x (mvs r)) (n + 14) (fun q hq => hr q (List.mem_cons_of_mem _ hq)) g1 (by omega);refine ⟨by rw [qck, g2]; exact k1, ?_, ?_, fun _ => k4 g4⟩
  ·have e : n + (r :: t).length * 14 = n + 14 + t.length * 14 := by rw [List.length_cons]; omega
   rw [e]; exact k2
  ·show (bmv (mrg x (mvs r)) t).Perm (x ++ (r :: t).flatMap mvs);rw [List.flatMap_cons, ← List.append_assoc];exact k3.trans (List.Perm.append_right _ g3)
theorem qwi : MvV [] 0 := ⟨by rfl, Nat.le_refl _⟩
theorem qwj {b : S5042} (h : ∀ x ∈ b.Slots, Brf x.Request) (hn : b.Slots.length ≤ 1000) : qgg b (-1) = some (bmv [] (b.Slots.map S5100.Request)) ∧ MvV (bmv [] (b.Slots.map S5100.Request)) (b.Slots.length * 14) := by
 obtain ⟨g1, g2, _⟩ := qwh (b.Slots.map S5100.Request) [] 0 (fun r hr => by
  obtain ⟨x, hx, rfl⟩ := List.mem_map.1 hr
  exact h x hx) qwi (by rw [List.length_map]; omega)
 rw [List.length_map, Nat.zero_add] at g2;exact ⟨g1, g2⟩
def fit (ls : List S2062) (ms : List S1079) (r : S115) : Bool := !inI r.Minute (ivs ms r ls)
def acc (ls : List S2062) : List S1079 → List S5072 → List S5072
 | _, [] => []
 | ms, w :: t => bif fit ls ms w.Request then w :: acc ls (mrg ms (mvs w.Request)) t else acc ls ms t
def zfw (w : S5072) : S5100 := qk1 w.Request
theorem qpu {x : S5100} (h : SlotV x) : x.Leases.length ≤ 1000000 ∧ x.Shares.length ≤ 1000000 := by
 have := h.ln; have := h.sn; omega
structure BkB (b : S5042) : Prop where
 v : BookV b
 s : ∀ x ∈ b.Slots, Brf x.Request
 w : ∀ x ∈ b.Waiting, Brf x.Request
 n : b.Slots.length + b.Waiting.length ≤ 30
def bM (b : S5042) : List S1079 := bmv [] (b.Slots.map S5100.Request)
theorem qrh {b : S5042} (h : BkB b) : qjz b = some (bM b, 0) := by
 have hn := h.n;obtain ⟨g1, g2⟩ := qwj h.s (by omega);unfold qjz;rw [qes h.v];simp only [qz];rw [decide_eq_false (by simp), cond_false, g1]
 rfl
theorem q0f (l : S2062) {a b : List S1079} (h : a.Perm b) : (ofL l a).Perm (ofL l b) := by unfold ofL; exact (h.filter _).map _
theorem qwk {a b : List Int} (h : a.Perm b) (x n : Int) : cntI a x n = cntI b x n := by unfold cntI; rw [(h.filter _).length_eq]
theorem q4e (l : S2062) (a b : List S1079) : ofL l (a ++ b) = ofL l a ++ ofL l b := by unfold ofL; rw [List.filter_append, List.map_append]
theorem q0g (a b : List Int) (x n : Int) : cntI (a ++ b) x n = cntI a x n + cntI b x n := by unfold cntI; rw [List.filter_append, List.length_append]; omega
theorem q4f {a0 : List S2062} {a1 : S5025} (h : OpenV a0 a1) : BkB (xo a1) := by
 have hb := h.book;refine ⟨hb, ?_, ?_, ?_⟩
 ·intro x hx;have hv := hb.s x hx;rw [qax] at hx;obtain ⟨y, hy, rfl⟩ := List.mem_map.1 hx;exact ⟨hv.rq.ok, h.bs y hy⟩
 ·intro x hx;have hv := hb.w x hx;rw [qax] at hx;exact ⟨hv.rq.ok, h.bw x hx⟩
 ·rw [qax];show (a1.Slots.map qf0).length + a1.Waiting.length ≤ 30;have := h.sl; have := h.wl;rw [List.length_map]; omega
theorem q2i {b : S5042} (h : ∀ x ∈ b.Slots, Brf x.Request) (hn : b.Slots.length ≤ 57) : ∀ r, qgg b (-1) = some r → r.length ≤ 800 := by
 intro r hr;obtain ⟨g1, g2⟩ := qwj h (by omega);rw [g1] at hr
 cases hr
 have := g2.l; omega
structure QIn (a0 : List S2062) (a1 : S5025) : Prop where
 o : OpenV a0 a1
 b : BkB (xo a1)
theorem q_in {a0 : List S2062} {a1 : S5025} {r1 : Bool} (h : qpp a0 a1 = some r1) (h1 : r1 = true) : QIn a0 a1 := by
 rw [h1] at h;have := q4d h;exact ⟨this, q4f this⟩
theorem QIn.slots {a0 : List S2062} {a1 : S5025} (h : QIn a0 a1) : ∀ x ∈ a1.Slots, x.Leases.length ≤ 1000 ∧ x.Shares.length ≤ 1000 := by
 intro x hx;have hv := h.b.v.s (qf0 x) (by rw [qax]; exact List.mem_map_of_mem hx);have h1 : x.Leases.length ≤ 8 := hv.ln;have h2 : x.Shares.length ≤ 4 := hv.sn
 omega
theorem QIn.bw {a0 : List S2062} {a1 : S5025} (h : QIn a0 a1) : ∀ x ∈ a1.Waiting, Brf x.Request := by
 intro x hx;exact h.b.w x (by rw [qax]; exact hx)
theorem QIn.wl {a0 : List S2062} {a1 : S5025} (h : QIn a0 a1) : (xo a1).Waiting.length ≤ 5 ∧ (xo a1).Slots.length ≤ 5 := by
 have := h.o.sl; have := h.o.wl;rw [qax];show a1.Waiting.length ≤ 5 ∧ (a1.Slots.map qf0).length ≤ 5;rw [List.length_map]; omega
theorem QIn.w14 {a0 : List S2062} {a1 : S5025} (h : QIn a0 a1) : ∀ x ∈ (xo a1).Waiting, ((ql9 x.Request).1).length ≤ 14 := by
 intro x hx;have := h.b.w x hx;rw [qsu this.ok];exact q0c this.ok this.b
theorem QIn.mv {a0 : List S2062} {a1 : S5025} (h : QIn a0 a1) : ∀ r, qgg (xo a1) (-1) = some r → r.length ≤ 800 := q2i h.b.s (by have := h.wl; omega)
theorem qri {b : S5042} (h : BkB b) : ∀ r, qjz b = some r → r.1.length ≤ 1000 := by
 intro r hr;rw [qrh h] at hr
 cases hr
 have hn := h.n;obtain ⟨_, g2⟩ := qwj h.s (by omega);have := g2.l;show (bM b).length ≤ 1000;unfold bM; omega
structure LkS (x y : S5100) : Prop where
 rq : y.Request = x.Request
 le : y.Leases = x.Leases
 v : SlotV y
def LkL (l m : List S5100) : Prop := m.length = l.length ∧ ∀ (i : Nat) (x y : S5100), l[i]? = some x → m[i]? = some y → LkS x y
structure Lk (b c : S5042) : Prop where
 s : LkL b.Slots c.Slots
 w : c.Waiting = b.Waiting
theorem LkL.rqs {l m : List S5100} (h : LkL l m) : m.map S5100.Request = l.map S5100.Request := by
 apply List.ext_getElem?
 intro i;rw [List.getElem?_map, List.getElem?_map]
 cases hx : l[i]? with
 | none =>
  have : m[i]? = none := by rw [List.getElem?_eq_none_iff] at hx ⊢; have := h.1; omega
  rw [this]
 | some x =>
  have hi := (List.getElem?_eq_some_iff.1 hx).1;have hy : m[i]? = some (m[i]'(by have := h.1; omega)) := List.getElem?_eq_getElem _;rw [hy];simp only [Option.map_some];rw [(h.2 i x _ hx hy).rq]
theorem LkL.mem {l m : List S5100} (h : LkL l m) {y : S5100} (hy : y ∈ m) : ∃ x ∈ l, LkS x y := by
 obtain ⟨i, hi, rfl⟩ := List.mem_iff_getElem.1 hy
 have hl : i < l.length := by have := h.1; omega
 exact ⟨l[i], List.getElem_mem hl, h.2 i _ _ (List.getElem?_eq_getElem hl) (List.getElem?_eq_getElem hi)⟩
theorem qsv (l : List S5100) : qer l = (l.map S5100.Request).map S115.Name := by unfold qer; rw [List.map_map]; rfl
theorem Lk.bk {b c : S5042} (h : Lk b c) (hb : BkB b) : BkB c := by
 refine ⟨⟨?_, ?_, fun y hy => ?_, ?_, ?_, ?_⟩, fun y hy => ?_, ?_, ?_⟩
 ·have := hb.v.sl; have := h.s.1; omega
 ·rw [h.w]; exact hb.v.wl
 ·obtain ⟨x, _, hx⟩ := h.s.mem hy; exact hx.v
 ·rw [h.w]; exact hb.v.w
 ·rw [qsv, h.s.rqs, ← qsv, h.w]; exact hb.v.nd
 ·rw [h.w]; exact hb.v.or
 ·obtain ⟨x, hm, hx⟩ := h.s.mem hy; rw [hx.rq]; exact hb.s x hm
 ·rw [h.w]; exact hb.w
 ·rw [h.w, h.s.1]; exact hb.n
theorem Lk.bM {b c : S5042} (h : Lk b c) : bM c = bM b := by
 unfold Go.Sim.bM; rw [h.s.rqs]
theorem Lk.refl {b : S5042} (hb : BkB b) : Lk b b := ⟨⟨rfl, fun i x y hx hy => by
 rw [hx] at hy; cases hy
 exact ⟨U, U, hb.v.s x (List.mem_of_getElem? hx)⟩⟩, U⟩
theorem Lk.trans {b c d : S5042} (h : Lk b c) (k : Lk c d) : Lk b d := ⟨⟨k.s.1.trans h.s.1, fun i x z hx hz => by
 have hi := (List.getElem?_eq_some_iff.1 hx).1;have hy : c.Slots[i]? = some (c.Slots[i]'(by have := h.s.1; omega)) := List.getElem?_eq_getElem _;have h1 := h.s.2 i x _ hx hy;have h2 := k.s.2 i _ z hy hz
 exact ⟨h2.rq.trans h1.rq, h2.le.trans h1.le, h2.v⟩⟩, k.w.trans h.w⟩
theorem qwl (f : S5100 → Bool) : ∀ (l : List S5100) (k : Nat), 0 ≤ wk f l k → ∃ j x, wk f l k = ((k + j : Nat) : Int) ∧ l[j]? = some x ∧ f x = true
 | [], k, h => by rw [wk] at h; omega
 | y :: t, k, h => by
  rw [wk, cond_eq_ite] at h ⊢
  split at h
  ·rename_i c
   rw [if_pos c];exact ⟨0, y, by simp, rfl, c⟩
  ·rename_i c
   rw [if_neg c];obtain ⟨j, x, h1, h2, h3⟩ := qwl f t (k + 1) h;exact ⟨j + 1, x, by rw [h1]; congr 1; omega, by simpa using h2, h3⟩
theorem qrj {b : S5042} {n : ByteArray} (h : 0 ≤ xz b n) : ∃ j x, xz b n = ((j : Nat) : Int) ∧ b.Slots[j]? = some x ∧ x.Request.Name = n := by
 unfold xz qrk at h ⊢;obtain ⟨j, x, h1, h2, h3⟩ := qwl _ _ _ h;refine ⟨j, x, by rw [h1]; congr 1; omega, h2, ?_⟩;unfold qui at h3;exact of_decide_eq_true h3
theorem qir {α : Type} {l : List α} {j : Nat} {x : α} (h : l[j]? = some x) : ixO l ((j : Nat) : Int) = some x := by
 unfold ixO; rw [decide_eq_true (by omega), cond_true, Int.toNat_natCast]; exact h
theorem l162 (b : S5042) : ∀ (t : List ByteArray) (k : Nat) (x : List S5100), (∀ n ∈ t, 0 ≤ xz b n) → ∃ r, xv (fun n => qma n b) t k x = some (x ++ r) ∧ r.length = t.length ∧ (∀ y ∈ r, y ∈ b.Slots) ∧ ∀ n ∈ t, ∃ j y, xz b n = ((j : Nat) : Int) ∧ b.Slots[j]? = some y ∧ y ∈ r
 | [], k, x, _ => ⟨[], by rw [xv]; simp, rfl, (fun _ h => by cases h), fun _ h => by cases h⟩
 | n :: t, k, x, h => by
  obtain ⟨j, y, h1, h2, h3⟩ := qrj (h n List.mem_cons_self);obtain ⟨r, g1, g2, g3, g4⟩ := l162 b t (k + 1) (x ++ [y]) fun n hn => h n (List.mem_cons_of_mem _ hn);refine ⟨y :: r, ?_, by simp [g2], fun z hz => ?_, fun m hm => ?_⟩
  ·rw [xv]
   have e : qma n b = some y := by unfold qma; rw [h1, qir h2]; rfl
   show qz (qma n b) (fun r6 => xv (fun n => qma n b) t (k + 1) (x ++ [r6])) = _;rw [e];show xv (fun n => qma n b) t (k + 1) (x ++ [y]) = _;rw [g1]; simp
  ·rcases List.mem_cons.1 hz with rfl | hz
   ·exact List.mem_of_getElem? h2
   ·exact g3 z hz
  ·rcases List.mem_cons.1 hm with rfl | hm
   ·exact ⟨j, y, h1, h2, List.mem_cons_self⟩
   ·obtain ⟨j', y', q1, q2, q3⟩ := g4 m hm;exact ⟨j', y', q1, q2, List.mem_cons_of_mem _ q3⟩
theorem l166 (f : S5100 → ByteArray) : ∀ (t : List S5100) (k : Nat) (x : List ByteArray), qcl f t k x = x ++ t.map f
 | [], k, x => by rw [qcl]; simp
 | y :: t, k, x => by rw [qcl, l166 f t]; simp
theorem q4g {k n : Nat} (hn : 1 ≤ n) (hn8 : n ≤ 8) (hk : k < n) : ∃ j : Nat, Int.tmod (IntKind.i64.wrap (IntKind.i64.wrap (((k : Nat) : Int) + (n : Int)) - 1)) (n : Int) = ((j : Nat) : Int) ∧ j < n := by
 rw [qfk (x := ((k : Nat) : Int) + (n : Int)) (by omega) (by omega), qfk (by omega) (by omega)];refine ⟨(k + n - 1) % n, ?_, Nat.mod_lt _ (by omega)⟩;rw [show ((k : Nat) : Int) + (n : Int) - 1 = ((k + n - 1 : Nat) : Int) by omega]
 rfl
theorem qwm {b : S5042} (hb : BkB b) {ns : List ByteArray} (h1 : 1 ≤ ns.length) (h8 : ns.length ≤ 8) {r2 : List S5100} (hr : r2.length = ns.length) (hr2 : ∀ y ∈ r2, y ∈ b.Slots ∧ y.Leases = []) (hr3 : ∀ n ∈ ns, ∃ j y, xz b n = ((j : Nat) : Int) ∧ b.Slots[j]? = some y ∧ y ∈ r2) :
  ∀ (t : List ByteArray) (k : Nat) (x8 : List S5100), ns.drop k = t → LkL b.Slots x8 → ∃ R, qcm b ns b r2 t k x8 = some R ∧ Lk b R.1
 | [], k, x8, _, hx => ⟨_, rfl, ⟨hx, rfl⟩⟩
 | y :: t, k, x8, hd, hx => by
  obtain ⟨d1, d2, d3⟩ := qds hd;obtain ⟨j, x, e1, e2, e3⟩ := hr3 y (List.mem_of_getElem? d1);have hj := (List.getElem?_eq_some_iff.1 e2).1
  have hj8 : j < x8.length := by have := hx.1; omega
  have e4 : x8[j]? = some x8[j] := List.getElem?_eq_getElem hj8;have hs := hx.2 j x _ e2 e4;obtain ⟨q, m1, m2⟩ := q4g h1 h8 d3
  have m3 : (qbw r2 qbx)[q]? = some (qbx (r2[q]'(by omega))) := by
   unfold qbw; rw [l166];simp only [List.nil_append, List.getElem?_map];rw [List.getElem?_eq_getElem (by omega : q < r2.length)]; rfl
  have hmem := hr2 _ (List.getElem_mem (l := r2) (by omega : q < r2.length));rw [qcm, e1, qir e4];simp only [qz];rw [m1, qir m3];simp only [Int.toNat_natCast];rw [List.set_set];refine qwm hb h1 h8 hr hr2 hr3 t (k + 1) _ d2 ⟨by rw [List.length_set]; exact hx.1, fun i u v hu hv => ?_⟩
  by_cases hij : j = i
  ·subst hij;rw [List.getElem?_set_self hj8] at hv;rw [e2] at hu
   cases hu; cases hv
   refine ⟨hs.rq, hs.le, ?_⟩;have hle : (x8[j]).Leases = [] := hs.le.trans (hr2 x e3).2;have hv := hs.v;refine ⟨hv.rq, ?_, ?_, ?_, ?_, Nat.zero_le _, (fun c hc => nomatch hc), List.Pairwise.nil⟩
   ·exact (hb.v.s _ hmem.1).ho
   ·show (x8[j]).Leases.length ≤ 8;rw [hle]; exact Nat.zero_le _
   ·intro l hl;have hl : l ∈ (x8[j]).Leases := hl;rw [hle] at hl; cases hl
   ·show (x8[j]).Leases.Pairwise _;rw [hle]; exact List.Pairwise.nil
  ·rw [List.getElem?_set_ne hij] at hv;exact hx.2 i u v hu hv
theorem qwn {b : S5042} {ns : List ByteArray} {r2 : List S5100} (h2 : ∃ R, qcm b ns b r2 ns 0 b.Slots = some R ∧ Lk b R.1) : ∀ (t : List ByteArray) (k : Nat), ∃ R, qcn b ns b r2 t k = some R ∧ (R.2 = 0 → Lk b R.1)
 | [], k => by
  obtain ⟨R, q1, q2⟩ := h2;exact ⟨R, by rw [qcn]; exact q1, fun _ => q2⟩
 | y :: t, k => by
  rw [qcn, cond_eq_ite]
  split
  ·exact ⟨_, U, fun h => by cases h⟩
  ·exact qwn h2 t (k + 1)
theorem qpv {b : S5042} (hb : BkB b) {ns : List ByteArray} (h1 : 1 ≤ ns.length) (h8 : ns.length ≤ 8) (hk : ∀ n ∈ ns, 0 ≤ xz b n) : ∃ R, quj b ns = some R ∧ (R.2 = 0 → Lk b R.1) := by
 unfold quj;rw [qis fun x hx => qpu (hb.v.s x hx)];simp only [qz];obtain ⟨r2, g1, g2, g3, g4⟩ := l162 b ns 0 [] hk;unfold quk;rw [g1];simp only [List.nil_append];rw [cond_eq_ite]
 split
 ·exact ⟨_, U, fun h => by cases h⟩
 ·rename_i c
  have hl : ∀ y ∈ r2, y.Leases = [] := by
   intro y hy
   cases hq : y.Leases with
   | nil => rfl
   | cons a t =>
    exfalso
    apply c
    unfold qrl qrk;refine decide_eq_true ((qmm qn0 r2 0).2 ⟨y, hy, ?_⟩);unfold qn0;rw [hq];exact decide_eq_true (by simp only [List.length_cons]; omega)
  exact qwn (qwm hb h1 h8 g2 (fun y hy => ⟨g3 y hy, hl y hy⟩) g4 ns 0 b.Slots U (Lk.refl hb).s) _ _
theorem qhq {b : S5042} {n : ByteArray} : xq b n = 0 ↔ 0 ≤ xz b n := by
 unfold xq; rw [xb (by decide), decide_eq_false_iff_not]; omega
theorem qwo {b : S5042} (hb : BkB b) (x y : ByteArray) : ∃ R, qwp b x y = some R ∧ (R.2 = 0 → Lk b R.1) := by
 unfold qwp;rw [cond_eq_ite]
 split
 ·rename_i c
  exact ⟨_, U, fun h => absurd h (of_decide_eq_true c)⟩
 ·rename_i c
  have c1 : ¬ j7 [(xq b x), (xq b y), (jg (decide (x = y)) 9)] ≠ 0 := fun h => c (decide_eq_true h);have c2 := ke.1 (Decidable.not_not.1 c1)
  obtain ⟨R, g1, g2⟩ := qpv hb (ns := [x, y]) (by simp) (by simp) (by
   intro n hn;simp only [List.mem_cons, List.not_mem_nil, or_false] at hn
   rcases hn with rfl | rfl
   ·exact qhq.1 (c2 _ (by simp))
   ·exact qhq.1 (c2 (xq b n) (by simp)))
  rw [g1];exact ⟨_, U, g2⟩
theorem qwq {b : S5042} (hb : BkB b) {ns : List ByteArray} (h1 : 1 ≤ ns.length) (h8 : ns.length ≤ 8) : ∀ (t : List ByteArray) (k : Nat), (∀ n ∈ ns, n ∈ t ∨ 0 ≤ xz b n) → ∃ R, qco b ns t k = some R ∧ (R.2 = 0 → Lk b R.1)
 | [], k, h => by
  obtain ⟨R, g1, g2⟩ := qpv hb h1 h8 fun n hn => (h n hn).resolve_left fun h => by cases h
  rw [qco, g1];exact ⟨_, U, g2⟩
 | y :: t, k, h => by
  rw [qco, cond_eq_ite]
  split
  ·rename_i c
   exact ⟨_, U, fun h => absurd h (of_decide_eq_true c)⟩
  ·rename_i c
   have c1 : ¬ j7 [(xq b y), (jg (s88 (List.take (Int.toNat ((k : Nat) : Int)) ns) y) 9)] ≠ 0 := fun h => c (decide_eq_true h);have c2 := ke.1 (Decidable.not_not.1 c1);refine qwq hb h1 h8 t (k + 1) fun n hn => ?_
   rcases h n hn with h | h
   ·rcases List.mem_cons.1 h with rfl | h
    ·exact .inr (qhq.1 (c2 _ (by simp)))
    ·exact .inl h
   ·exact .inr h
theorem qwr {b : S5042} (hb : BkB b) (ns : List ByteArray) : ∃ R, qws b ns = some R ∧ (R.2 = 0 → Lk b R.1) := by
 unfold qws;rw [cond_eq_ite]
 split
 ·rename_i c
  exact ⟨_, U, fun h => absurd h (of_decide_eq_true c)⟩
 ·rename_i c
  have c1 : ¬ j7 [(jg (decide ((List.length ns : Int) < 2)) 16), (jg (decide (8 < (List.length ns : Int))) 5)] ≠ 0 := fun h => c (decide_eq_true h);obtain ⟨q1, q2⟩ := qwt c1;exact qwq hb (by omega) q2 ns 0 fun n hn => .inl hn
theorem qpw {b : S5042} (hb : BkB b) (x y : ByteArray) : ∃ R, qwu b x y = some R ∧ (R.2 = 0 → Lk b R.1) := by
 unfold qwu;rw [qes hb.v];simp only [qz];rw [decide_eq_false (by simp), cond_false];obtain ⟨R, g1, g2⟩ := qwo hb x y;rw [g1];exact ⟨_, U, g2⟩
theorem qpx {b : S5042} (hb : BkB b) (ns : List ByteArray) : ∃ R, qwv b ns = some R ∧ (R.2 = 0 → Lk b R.1) := by
 unfold qwv;rw [qes hb.v];simp only [qz];rw [decide_eq_false (by simp), cond_false];obtain ⟨R, g1, g2⟩ := qwr hb ns;rw [g1];exact ⟨_, U, g2⟩
theorem qrm {b : S5042} (hb : BkB b) (x : ByteArray) : ∃ R, qww b x = some R := by
 unfold qww;rw [qes hb.v];simp only [qz];rw [cond_eq_ite]
 split
 ·exact ⟨_, U⟩
 ·rename_i c
  have c1 : ¬ j7 [(0 : Int), (xq b x)] ≠ 0 := fun h => c (decide_eq_true h);have c2 := ke.1 (Decidable.not_not.1 c1);obtain ⟨j, y, e1, e2, _⟩ := qrj (qhq.1 (c2 (xq b x) (by simp)));rw [e1, qir e2];exact ⟨_, U⟩
theorem qul {b : S5042} (hb : BkB b) (x y z : ByteArray) : ∃ R, qwx b x y z = some R ∧ (R.2 = 0 → Lk b R.1) := by
 unfold qwx qrn;rw [cond_eq_ite]
 split
 ·rename_i c
  exact ⟨_, U, fun h => absurd h (of_decide_eq_true c)⟩
 ·rename_i c
  have c1 : ¬ j7 [qbb x, xq b y, qbb z] ≠ 0 := fun h => c (decide_eq_true h);have c2 := ke.1 (Decidable.not_not.1 c1);obtain ⟨j, u, e1, e2, _⟩ := qrj (qhq.1 (c2 (xq b y) (by simp)));have hz : s147 z = true := qfl.1 (c2 (qbb z) (by simp));rw [qis fun x hx => qpu (hb.v.s x hx)];simp only [qz];rw [e1, qir e2];simp only [];rw [cond_eq_ite]
  split
  ·exact ⟨_, U, fun h => by cases h⟩
  ·rw [cond_eq_ite]
   split
   ·rename_i c3
    exact ⟨_, U, fun h => absurd h (of_decide_eq_true c3)⟩
   ·rename_i c3
    refine ⟨_, U, fun _ => ?_⟩;have c4 : (qn1 u z).2 = 0 := Decidable.not_not.1 fun h => c3 (decide_eq_true h);have hv := hb.v.s u (List.mem_of_getElem? e2)
    have hg : (qn1 u z).1 = qpy u z ∧ u.Leases = [] := by
     unfold qn1 at c4 ⊢;rw [cond_eq_ite] at c4 ⊢
     split at c4
     ·rename_i c5
      exact absurd c4 (of_decide_eq_true c5)
     ·rename_i c5
      rw [if_neg c5];refine ⟨U, ?_⟩;have c6 : qum u z = 0 := Decidable.not_not.1 fun h => c5 (decide_eq_true h);unfold qum at c6;have c7 := ke.1 c6 (jg (decide ((0 : Int) < List.length u.Leases)) 19) (by simp);have c8 := of_decide_eq_false ((xb (by decide)).1 c7);exact List.eq_nil_of_length_eq_zero (by omega)
    refine ⟨⟨by rw [List.length_set], fun i p q hp hq => ?_⟩, U⟩;have hj := (List.getElem?_eq_some_iff.1 e2).1;simp only [Int.toNat_natCast] at hq
    by_cases hij : j = i
    ·subst hij;rw [List.getElem?_set_self hj] at hq;rw [e2] at hp
     cases hp; cases hq
     rw [hg.1];refine ⟨rfl, rfl, ⟨hv.rq, hz, ?_, ?_, ?_, Nat.zero_le _, (fun c hc => nomatch hc), List.Pairwise.nil⟩⟩
     ·show u.Leases.length ≤ 8;rw [hg.2]; exact Nat.zero_le _
     ·intro l hl;have hl : l ∈ u.Leases := hl;rw [hg.2] at hl; cases hl
     ·show u.Leases.Pairwise _;rw [hg.2]; exact List.Pairwise.nil
    ·rw [List.getElem?_set_ne hij] at hq;rw [hp] at hq; cases hq;exact ⟨U, U, hb.v.s p (List.mem_of_getElem? hp)⟩
theorem qmq {b : S5042} (hb : BkB b) (x y z : ByteArray) : ∃ R, qwy b x y z = some R ∧ (R.2 = 0 → Lk b R.1) := by
 unfold qwy;rw [qes hb.v];simp only [qz];rw [decide_eq_false (by simp), cond_false];obtain ⟨R, g1, g2⟩ := qul hb x y z;rw [g1];exact ⟨_, U, g2⟩
end Go.Sim
