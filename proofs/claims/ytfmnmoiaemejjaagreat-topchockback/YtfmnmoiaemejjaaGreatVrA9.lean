/-
  What is proved: lemmas and contracts of functions on the way to the law topChockBack (part 9).
-/
import Derived.Test.YtfmnmoiaemejjaaGreatVrA8
import Derived.Test.YtfmnmoiaemejjaaGreatVrA3
import Derived.Test.YtfmnmoiaemejjaaGreatVrA7
import Derived.Test.YtfmnmoiaemejjaaGreatVrA5
set_option linter.unusedSectionVars false
set_option linter.unusedSimpArgs false
set_option linter.unusedVariables false
set_option linter.unnecessarySimpa false
set_option linter.deprecated false
set_option maxRecDepth 10000
namespace Go.Sim
open Go.Proofs
def qde (a0 : S5042) : List S5072 → Nat → (List (ByteArray × Bool)) → Option Int
 | [], k8, x7 => some 0
 | y9 :: t10, k8, x7 => zc (bif decide (0 < ((k8 : Nat) : Int)) then ixO a0.Waiting (max 0 (IntKind.i64.wrap (((k8 : Nat) : Int) - 1))) else some default) fun y11 => (bif decide ((vu [(qlr y9), (jv (vd x7 y9.Request.Name false) 9), (jv ((decide (0 < ((k8 : Nat) : Int))) && (decide ((qh9 y9 y11) ≤ 0))) 11)]) ≠ 0) then some (vu [(qlr y9), (jv (vd x7 y9.Request.Name false) 9), (jv ((decide (0 < ((k8 : Nat) : Int))) && (decide ((qh9 y9 y11) ≤ 0))) 11)]) else qde a0 t10 (k8 + 1) (mset x7 y9.Request.Name true))
def qcg (a0 : S5042) : List S5100 → Nat → (List (ByteArray × Bool)) → Option Int
 | [], k3, x2 => (bif decide (64 < (List.length a0.Waiting : Int)) then some 5 else qde a0 a0.Waiting 0 x2)
 | y4 :: t5, k3, x2 => zc (qxh y4) fun r12 => (bif decide ((vu [r12, (jv (vd x2 y4.Request.Name false) 9)]) ≠ 0) then some (vu [r12, (jv (vd x2 y4.Request.Name false) 9)]) else qcg a0 t5 (k3 + 1) (mset x2 y4.Request.Name true))
def qp2 (a0 : S5042) : Option Int :=
 (bif decide (64 < (List.length a0.Slots : Int)) then some 5 else qcg a0 a0.Slots 0 [])
theorem q4g {g : GL} (a0 : S5042) {R : Int}   (hR : qp2 a0 = some R) : Con (EG g) 37 [G.agg [G.sl 16 (List.map S5100.c a0.Slots), G.sl 14 (List.map S5072.c a0.Waiting)]] (G.int R) := by
 unfold qp2 at hR;refine qm Tryz.func37 U U fun w0 M0 => ?_;refine qb<|qa [.p, .p]<|su (zi U U) U<|sa U U<|qd<|qb<|qb<|qa [.p, .p, .p, .p]<|su (qc U xw U) U<|su (qf U qc1 U) U<|su (zb (f := S5100.c) (l := a0.Slots) U Tryz.underlying40 U) U<|su (zy U U U) U<|qd ?_;refine ql _ U (fun h1 => ?_) (fun h1 => ?_)
 ·replace hR := zk hR h1;refine qb<|qa [.p]<|sa U U<|qd<|qo ?_;obtain rfl := Option.some.inj hR;exact za U (rv_g U)
 ·replace h1 : (decide (64 < (List.length a0.Slots : Int))) = false := h1;replace hR := zl hR h1;(try simp only [bB] at h1);refine qn<|qb<|qa [.w, .p]<|sw (qfr 15 U U) U<|su (qfv U U) U<|qd<|qb<|qb<|qa [.p, .p, .p, .p]<|su (qc U xw U) U<|su (qf U qc1 U) U<|su (zb (f := S5100.c) (l := a0.Slots) U Tryz.underlying40 U) U<|sm U U<|qd<|qp<|zf (γ := Nat × (List S5100) × (List (ByteArray × Bool))) (fun g => ([(1, .g (G.ref [G.sl 16 (List.map S5100.c a0.Slots), G.sl 14 (List.map S5072.c a0.Waiting)])), (3, .omap 15), (17, .g (G.sl 16 (List.map S5100.c a0.Slots))), (18, .g (G.int (List.length a0.Slots : Int))), (19, .g (G.int ((g.1 : Nat) : Int)))], [(15, mpB (K := ByteArray) (V := Bool) (Value.string) (fun v => G.bool v) g.2.2)])) (fun g => a0.Slots.drop g.1 = g.2.1 ∧ qcg a0 g.2.1 g.1 g.2.2 = some R) (fun g => List.length g.2.1) ⟨U, (0, a0.Slots, []), jA, ⟨U, O⟩, U, ⟨U, (by exact hR)⟩, O⟩ ?_
  ·rintro ⟨k3, t5, x2⟩ ⟨hd, hR⟩;replace hd : a0.Slots.drop k3 = t5 := hd;replace hR : qcg a0 t5 k3 x2 = some R := hR;refine qb<|qa [.p]<|su (zd U U U) U<|qd ?_;refine zu (f := S5100.c) (l := a0.Slots) 17 U fun hlz1 => ?_;refine qb ?_;refine ql _ U (fun h2 => ?_) (fun h2 => ?_)
   ·replace h2 : (decide (((k3 : Nat) : Int) < (List.length a0.Slots : Int))) = true := h2;obtain ⟨y4, t5, rfl, hx1, hd⟩ := zq hd (decT h2);replace h2 := decT h2;rw [qcg] at hR;(try dsimp only at hR);refine qn<|qb<|qp<|qb<|qa [.p, .p, .w, .w]<|su (z5 (f := S5100.c) (l := a0.Slots) (a := y4) U Tryz.underlying40 xd U U (Int.natCast_nonneg _) hx1) U<|su (qr U xd U U U) U<|sw (zm 5 U qj4 U U) U<|je U U (qw (tv := .g (G.agg [G.str y4.Request.Name, G.str y4.Request.Carrier, G.str y4.Request.Kind, G.str y4.Request.Terminal, G.str y4.Request.Partner, G.str y4.Request.Link, G.int y4.Request.Period.fFrom, G.int y4.Request.Period.fTo, G.int y4.Request.Period.Days, G.int y4.Request.Minute, G.int y4.Request.Seats, G.int y4.Request.Size, G.int y4.Request.Noise, G.str y4.Holder, G.sl 3 (List.map S5102.c y4.Leases), G.sl 1 (List.map cStr y4.Shares)])) U xd U U U U U)<|qd<|qb<|qb ?_;obtain ⟨r12, br12, hR⟩ := qh hR;refine zr [.r, .p, .p, .p, .p, .r, .r, .p, .p, .p, .p] (by kernel_rfl)<|sr (zj U xd U U U U) U<|su (qg U zaa U (zct y4 br12) (qe U qk)) U<|su (qcr U U) U<|su (qu U qbq U) U<|su (qu U kh U) U<|sr (zo U ty9 U U U) U<|sr (ql3 (kf := Value.string) (vf := (fun v => G.bool v)) (m := x2) (k := y4.Request.Name) (z := false) U Tryz.underlying153 Tryz.underlying9 zr4 (fun _ _ => U) U U U) U<|su (qg U qfc U (qfh (vd x2 y4.Request.Name false) 9) (qe U (qe U qk))) U ?_;refine su (qt U Tryz.underlying170 ty37 z37 U (qx U (qx U jp)) U (by simp []) (by decide)) U ?_;refine su (qg U qip U (qjc [r12, (jv (vd x2 y4.Request.Name false) 9)]) (qe U qk)) U<|sa U U<|qd<|qb<|qa [.p, .p]<|sm U U<|su (zx U U U) U<|qd ?_;refine ql _ U (fun h8 => ?_) (fun h8 => ?_)
    ·replace hR := zk hR h8;refine qb<|qa [.p, .p]<|sm U U<|sa U U<|qd<|qo ?_;obtain rfl := Option.some.inj hR;exact za U (rv_g U)
    ·replace h8 : (decide ((vu [r12, (jv (vd x2 y4.Request.Name false) 9)]) ≠ 0)) = false := h8;replace hR := zl hR h8;(try simp only [bB] at h8);refine qn<|qa [.p, .p, .p, .r, .w]<|su (qcr U U) U<|su (qu U qbq U) U<|su (qu U kh U) U<|sr (zo U ty9 U U U) U<|je U U (qdo (kf := Value.string) (vf := (fun v => G.bool v)) (m := x2) (k := y4.Request.Name) (v := true) (ins := false) U Tryz.underlying153 Tryz.underlying9 U U U U)<|qd<|qa [.p, .p]<|su (zn U U U iE) U<|sm U U<|qd ?_;exact ⟨U, (k3 + 1, t5, mset x2 y4.Request.Name true), jA, ⟨U, O⟩, U, ⟨hd, hR⟩, by simp⟩
   ·replace h2 : (decide (((k3 : Nat) : Int) < (List.length a0.Slots : Int))) = false := h2;obtain rfl := zz hd (decF h2);rw [qcg] at hR;refine zw<|qb<|qb<|qa [.p, .p, .p, .p]<|su (qc U qcy U) U<|su (qf U qie U) U<|su (zb (f := S5072.c) (l := a0.Waiting) U Tryz.underlying41 U) U<|su (zy U U U) U<|qd ?_;refine ql _ U (fun h4 => ?_) (fun h4 => ?_)
    ·replace hR := zk hR h4;refine qb<|qa [.p]<|sa U U<|qd<|qo ?_;obtain rfl := Option.some.inj hR;exact za U (rv_g U)
    ·replace h4 : (decide (64 < (List.length a0.Waiting : Int))) = false := h4;replace hR := zl hR h4;(try simp only [bB] at h4);refine qn<|qb<|qb<|qa [.p, .p, .p, .p]<|su (qc U qcy U) U<|su (qf U qie U) U<|su (zb (f := S5072.c) (l := a0.Waiting) U Tryz.underlying41 U) U<|sm U U<|qd<|qp<|zf (γ := Nat × (List S5072) × (List (ByteArray × Bool))) (fun g => ([(1, .g (G.ref [G.sl 16 (List.map S5100.c a0.Slots), G.sl 14 (List.map S5072.c a0.Waiting)])), (3, .omap 15), (46, .g (G.sl 14 (List.map S5072.c a0.Waiting))), (47, .g (G.int (List.length a0.Waiting : Int))), (48, .g (G.int ((g.1 : Nat) : Int)))], [(15, mpB (K := ByteArray) (V := Bool) (Value.string) (fun v => G.bool v) g.2.2)])) (fun g => a0.Waiting.drop g.1 = g.2.1 ∧ qde a0 g.2.1 g.1 g.2.2 = some R) (fun g => List.length g.2.1) ⟨U, (0, a0.Waiting, x2), jA, ⟨U, O⟩, U, ⟨U, (by exact hR)⟩, O⟩ ?_
     ·rintro ⟨k8, t10, x7⟩ ⟨hd, hR⟩;replace hd : a0.Waiting.drop k8 = t10 := hd;replace hR : qde a0 t10 k8 x7 = some R := hR;refine qb<|qa [.p]<|su (zd U U U) U<|qd ?_;refine zu (f := S5072.c) (l := a0.Waiting) 46 U fun hlz2 => ?_;refine qb ?_;refine ql _ U (fun h5 => ?_) (fun h5 => ?_)
      ·replace h5 : (decide (((k8 : Nat) : Int) < (List.length a0.Waiting : Int))) = true := h5;obtain ⟨y9, t10, rfl, hx2, hd⟩ := zq hd (decT h5);replace h5 := decT h5;rw [qde] at hR;(try dsimp only at hR);refine qn<|qb<|qp<|qb<|qa [.p, .p, .p, .w, .p, .w]<|sm U U<|su (z5 (f := S5072.c) (l := a0.Waiting) (a := y9) U Tryz.underlying41 qfj U U (Int.natCast_nonneg _) hx2) U<|su (qr U qfj U U U) U<|sw (zm 8 U q6d U U) U<|sa U U<|je U U (qw (tv := .g (G.agg (S5072.c y9))) U qfj U U U U U)<|qd<|qb ?_;obtain ⟨y11, by11, hR⟩ := qh hR;refine zr [.p, .p, .p, .r, .p, .p, .p, .p, .p, .p, .p, .p, .p, .p, .p] (by kernel_rfl)<|sm U U<|su (zy U U U) U<|sm U U<|qff U U U (jf _ _) (fun h => zj U qfj U U U U) U<|sg U U (fun h => qc U qcy U) U<|sg U U (fun h => qf U qie (gd h U)) U<|sg U U (fun h => qj U U) U<|sg U U (fun h => kq U (gd h U) U) U<|sg U U (fun h => qhm U U (gd h U)) U<|sg U U (fun h => z5 (f := S5072.c) (l := a0.Waiting) (a := y11) U Tryz.underlying41 qfj (gd h U) (gd h U) (jj (xm by11 h)) (zh (xm by11 h))) U<|sg U U (fun h => qr U qfj (gd h U) U U) U<|sg U U (fun h => qg U zab U (zco y9 y11) (qe (gd h U) (qe (gd h U) qk))) U<|sg U U (fun h => vj U (gd h U) U) U<|su (zt U U U U) U<|sa U U<|qd<|qb<|qb<|zr [.r, .p, .p, .p, .p, .r, .r, .p, .p, .p, .p, .p, .p] (by kernel_rfl)<|sr (zj U qfj U U U U) U<|su (qg U zac U (zcs y9) (qe U qk)) U<|su (qcr U U) U<|su (qu U qeo U) U<|su (qu U kh U) U<|sr (zo U ty9 U U U) U<|sr (ql3 (kf := Value.string) (vf := (fun v => G.bool v)) (m := x7) (k := y9.Request.Name) (z := false) U Tryz.underlying153 Tryz.underlying9 zr4 (fun _ _ => U) U U U) U<|su (qg U qfc U (qfh (vd x7 y9.Request.Name false) 9) (qe U (qe U qk))) U<|sm U U<|su (qg U qfc U (qfh ((decide (0 < ((k8 : Nat) : Int))) && (decide ((qh9 y9 y11) ≤ 0))) 11) (qe U (qe U qk))) U ?_;refine su (qt U Tryz.underlying170 ty37 z37 U (qx U (qx U (qx U jp))) U (by simp []) (by decide)) U ?_;refine su (qg U qip U (qjc [(qlr y9), (jv (vd x7 y9.Request.Name false) 9), (jv ((decide (0 < ((k8 : Nat) : Int))) && (decide ((qh9 y9 y11) ≤ 0))) 11)]) (qe U qk)) U<|sa U U<|qd<|qb<|qa [.p, .p]<|sm U U<|su (zx U U U) U<|qd ?_;refine ql _ U (fun h7 => ?_) (fun h7 => ?_)
       ·replace hR := zk hR h7;refine qb<|qa [.p, .p]<|sm U U<|sa U U<|qd<|qo ?_;obtain rfl := Option.some.inj hR;exact za U (rv_g U)
       ·replace h7 : (decide ((vu [(qlr y9), (jv (vd x7 y9.Request.Name false) 9), (jv ((decide (0 < ((k8 : Nat) : Int))) && (decide ((qh9 y9 y11) ≤ 0))) 11)]) ≠ 0)) = false := h7;replace hR := zl hR h7;(try simp only [bB] at h7);refine qn<|qa [.p, .p, .p, .r, .w]<|su (qcr U U) U<|su (qu U qeo U) U<|su (qu U kh U) U<|sr (zo U ty9 U U U) U<|je U U (qdo (kf := Value.string) (vf := (fun v => G.bool v)) (m := x7) (k := y9.Request.Name) (v := true) (ins := false) U Tryz.underlying153 Tryz.underlying9 U U U U)<|qd<|qa [.p, .p]<|su (zn U U U iE) U<|sm U U<|qd ?_;exact ⟨U, (k8 + 1, t10, mset x7 y9.Request.Name true), jA, ⟨U, O⟩, U, ⟨hd, hR⟩, by simp⟩
      ·replace h5 : (decide (((k8 : Nat) : Int) < (List.length a0.Waiting : Int))) = false := h5;obtain rfl := zz hd (decF h5);rw [qde] at hR;refine zw<|qb<|qa [.p]<|sa U U<|qd<|qo ?_;obtain rfl := Option.some.inj hR;exact za U (rv_g U)
section
variable {E : Env} {w0 : World} {M0 : Nat → Prop}
theorem qlf {o : Oper} {mem : Mem} {ev : Operand → TV} {t : TypeId} {x : Operand} {id oid k hi : Nat} {g : G} (ho : o.op = .load t x) (ht : tyK E.P t = some (2, true)) (hx : ev x = .ptr id 0) (hb : qq mem id = some (.box [.osl oid k 0 hi, .g g])) :
  Eff E o mem ev (.agl [] oid k hi [g]) := by
 intro w0 M0 ρ w e hm he;have h1 := he x (by rw [ho]; simp [Op.operands]);rw [hx] at h1;obtain ⟨ow, h2, h3⟩ := h1;obtain ⟨ow', ty, vs, g1, g2, g3, g4⟩ := hm.blk id _ hb
 have : ow' = ow := by rw [h2] at g1; simpa using g1.symm
 subst this
 match vs, g4 with
 | [sv, u], ⟨⟨r1, r2⟩, ⟨r3, r4⟩, _⟩ =>
 have hc : ∀ j v, [sv, u][j]? = some v → w.cell? ⟨ow'.b, ow'.o + 0 + j, none⟩ = some v := by
  intro j v hj;rw [cell_of_row w _ _ _ _ _ g3, g2]
  simpa using hj
 have : (execOp e o).run E.P w = .ok (.value (.agg [sv, u].toArray)) w := by
  have := kd ht (show [sv, u].length = 2 from rfl) hc;rw [Nat.add_zero] at this
  simp [execOp, ho, h3, Instr.loadAt, Instr.sureAddr, this]
 rw [this];refine ⟨Grow.refl w, [], sv, [u], U, O, ⟨⟨r3, r4⟩, O⟩, ?_⟩
 rcases r1 with ⟨k1, _, k2, k3⟩ | ⟨ow, k1, _, k2, p, k3, k4⟩
 ·exact .inl ⟨k1, k2, k3⟩
 ·exact .inr ⟨ow, p, k1, k2, by simpa using k3, fun h => by simpa using k4 h⟩
end
theorem zdk {g : GL} (a0 : List S5102) (hb : a0.length ≤ 1000000) : ConN (EG g) 159 [G.sl 3 (List.map S5102.c a0)] 104 3 (List.map S5102.c a0) := by
 refine qdp Tryz.func159 U U fun w0 M0 => ?_;refine qb<|qa [.p]<|sa U U<|qd<|qb<|qb<|qa [.p, .p]<|sm U U<|su (qkx (f := S5102.c) (l := a0) U Tryz.underlying99 U U) U<|qd ?_;refine qoc U (fun h => ?_) ?_
 ·refine qb<|qa [.p]<|sa U U<|qd<|qo ?_;exact qkm (E := EG g) U U (by rw [h]; rfl)
 ·refine qn<|qb<|qa [.w, .p, .k, .p] ?_;refine sw (qfu (xs := List.map S5102.c []) 5 U Tryz.underlying99 qbp qqr U jp U (by simp) (by decide) U) U ?_;refine sm U U ?_;refine st_k U U (xb (f := S5102.c) (out := []) (new := a0) U qqp U U (qa6 U (qa5 (by decide) (by simp [S5102.c]))) (qkq U) (by simp; omega)) U ?_;refine su (ja U U) U<|qd<|qo ?_;exact qee (E := EG g) U U U (List.length_map ..)
theorem zdl {g : GL} (a0 : List S5102) (hb : a0.length ≤ 1000000) : Con (EG g) 159 [G.sl 3 (List.map S5102.c a0)] (G.sl 3 (List.map S5102.c a0)) := ConN.con (by decide) (zdk a0 hb)
theorem zdm {g : GL} (a0 : List ByteArray) (hb : a0.length ≤ 1000000) : ConN (EG g) 160 [G.sl 1 (List.map cStr a0)] 9 1 (List.map cStr a0) := by
 refine qdp Tryz.func160 U U fun w0 M0 => ?_;refine qb<|qa [.p]<|sa U U<|qd<|qb<|qb<|qa [.p, .p]<|sm U U<|su (qkx (f := cStr) (l := a0) U Tryz.underlying35 U U) U<|qd ?_;refine qoc U (fun h => ?_) ?_
 ·refine qb<|qa [.p]<|sa U U<|qd<|qo ?_;exact qkm (E := EG g) U U (by rw [h]; rfl)
 ·refine qn<|qb<|qa [.w, .p, .k, .p] ?_;refine sw (qfu (xs := List.map cStr []) 5 U Tryz.underlying35 ty9 z9 U jp U (by simp) (by decide) U) U ?_;refine sm U U ?_;refine st_k U U (xb (f := cStr) (out := []) (new := a0) U q6a U U (qa6 U (qa5 (by decide) (by simp [cStr]))) (qkq U) (by simp; omega)) U ?_;refine su (ja U U) U<|qd<|qo ?_;exact qee (E := EG g) U U U (List.length_map ..)
theorem zdn {g : GL} (a0 : List ByteArray) (hb : a0.length ≤ 1000000) : Con (EG g) 160 [G.sl 1 (List.map cStr a0)] (G.sl 1 (List.map cStr a0)) := ConN.con (by decide) (zdm a0 hb)
def qd2 (a0 : S5100) : S5100 :=
 a0
theorem zdo {g : GL} (a0 : S5100)  (hb : a0.Leases.length ≤ 1000000) (hb1 : a0.Shares.length ≤ 1000000)  : Con (EG g) 158 [G.agg [G.str a0.Request.Name, G.str a0.Request.Carrier, G.str a0.Request.Kind, G.str a0.Request.Terminal, G.str a0.Request.Partner, G.str a0.Request.Link, G.int a0.Request.Period.fFrom, G.int a0.Request.Period.fTo, G.int a0.Request.Period.Days, G.int a0.Request.Minute, G.int a0.Request.Seats, G.int a0.Request.Size, G.int a0.Request.Noise, G.str a0.Holder, G.sl 3 (List.map S5102.c a0.Leases), G.sl 1 (List.map cStr a0.Shares)]] (G.agg [G.str ((qd2 a0).Request.Name), G.str ((qd2 a0).Request.Carrier), G.str ((qd2 a0).Request.Kind), G.str ((qd2 a0).Request.Terminal), G.str ((qd2 a0).Request.Partner), G.str ((qd2 a0).Request.Link), G.int ((qd2 a0).Request.Period.fFrom), G.int ((qd2 a0).Request.Period.fTo), G.int ((qd2 a0).Request.Period.Days), G.int ((qd2 a0).Request.Minute), G.int ((qd2 a0).Request.Seats), G.int ((qd2 a0).Request.Size), G.int ((qd2 a0).Request.Noise), G.str ((qd2 a0).Holder), G.sl 3 (List.map S5102.c ((qd2 a0).Leases)), G.sl 1 (List.map cStr ((qd2 a0).Shares))]) := by
 generalize hR : qd2 a0 = R;unfold qd2 at hR;refine qm Tryz.func158 U U fun w0 M0 => ?_;refine qb<|qa [.w, .w]<|sw (qrw (tv := .g (G.agg [G.str a0.Request.Name, G.str a0.Request.Carrier, G.str a0.Request.Kind, G.str a0.Request.Terminal, G.str a0.Request.Partner, G.str a0.Request.Link, G.int a0.Request.Period.fFrom, G.int a0.Request.Period.fTo, G.int a0.Request.Period.Days, G.int a0.Request.Minute, G.int a0.Request.Seats, G.int a0.Request.Size, G.int a0.Request.Noise, G.str a0.Holder, G.sl 3 (List.map S5102.c a0.Leases), G.sl 1 (List.map cStr a0.Shares)])) 1 U U U) U<|sw (zm 2 U qj4 U U) U<|qd<|qb<|zr [.p, .r, .p, .p, .r, .p, .p, .w, .p, .w] (by kernel_rfl)<|su (qu U qbr U) U<|sr (zo U qf9 U U U) U<|su (qg U zaz U (zdl a0.Leases (by omega)) (qe U qk)) U<|su (qu U qf2 U) U<|sr (zo U ty22 U U U) U<|su (qg U za0 U (zdn a0.Shares (by omega)) (qe U qk)) U<|su (qu U qbr U) U<|je U U (qw (tv := .g (G.sl 3 (List.map S5102.c a0.Leases))) U qf9 U U U U U)<|su (qu U qf2 U) U<|je U U (qw (tv := .g (G.sl 1 (List.map cStr a0.Shares))) U ty22 U U U U U)<|qd<|qb<|qa [.r, .w]<|sr (zj U xd U U U U) U<|je U U (qw (tv := .g (G.agg [G.str a0.Request.Name, G.str a0.Request.Carrier, G.str a0.Request.Kind, G.str a0.Request.Terminal, G.str a0.Request.Partner, G.str a0.Request.Link, G.int a0.Request.Period.fFrom, G.int a0.Request.Period.fTo, G.int a0.Request.Period.Days, G.int a0.Request.Minute, G.int a0.Request.Seats, G.int a0.Request.Size, G.int a0.Request.Noise, G.str a0.Holder, G.sl 3 (List.map S5102.c a0.Leases), G.sl 1 (List.map cStr a0.Shares)])) U xd U U U U U)<|qd<|qo ?_;subst hR;exact za U (qad U U xd U U)
def qfm (a0 : S5100) : Option S5100 := bif decide (a0.Leases.length ≤ 1000000) && decide (a0.Shares.length ≤ 1000000) then some a0 else none
theorem q8d {g : GL} (a0 : S5100) {R : S5100} (hR : qfm a0 = some R) : Con (EG g) 158 [G.agg [G.str a0.Request.Name, G.str a0.Request.Carrier, G.str a0.Request.Kind, G.str a0.Request.Terminal, G.str a0.Request.Partner, G.str a0.Request.Link, G.int a0.Request.Period.fFrom, G.int a0.Request.Period.fTo, G.int a0.Request.Period.Days, G.int a0.Request.Minute, G.int a0.Request.Seats, G.int a0.Request.Size, G.int a0.Request.Noise, G.str a0.Holder, G.sl 3 (List.map S5102.c a0.Leases), G.sl 1 (List.map cStr a0.Shares)]] (G.agg [G.str (R.Request.Name), G.str (R.Request.Carrier), G.str (R.Request.Kind), G.str (R.Request.Terminal), G.str (R.Request.Partner), G.str (R.Request.Link), G.int (R.Request.Period.fFrom), G.int (R.Request.Period.fTo), G.int (R.Request.Period.Days), G.int (R.Request.Minute), G.int (R.Request.Seats), G.int (R.Request.Size), G.int (R.Request.Noise), G.str (R.Holder), G.sl 3 (List.map S5102.c (R.Leases)), G.sl 1 (List.map cStr (R.Shares))]) := by
 unfold qfm at hR;rw [cond_eq_ite] at hR
 split at hR
 ·rename_i h
  simp only [Bool.and_eq_true, decide_eq_true_eq] at h
  cases hR
  exact zdo a0 h.1 h.2
 ·cases hR
def qaa (a1 : S5100 → Option S5100) : List S5100 → Nat → (List S5100) → Option (List S5100)
 | [], k3, x1 => some x1
 | y4 :: t5, k3, x1 => zc (a1 y4) fun r6 => qaa a1 t5 (k3 + 1) (x1 ++ [r6])
def qx4 (a0 : List S5100) (a1 : S5100 → Option S5100) : Option (List S5100) :=
 qaa a1 a0 0 []
theorem zdp {g : GL} (a0 : List S5100) (a1 : S5100 → Option S5100) {R : List S5100} {ca1 : G} {ia1 : FuncId} {ka1 : List G} (ha1 : FnIs ca1 ia1 ka1) (Ka1 : ze Tryz.prog ia1) (Ha1 : ∀ (x0 : S5100) (r : S5100), a1 x0 = some r → Con (EG g) ia1 ([G.agg [G.str x0.Request.Name, G.str x0.Request.Carrier, G.str x0.Request.Kind, G.str x0.Request.Terminal, G.str x0.Request.Partner, G.str x0.Request.Link, G.int x0.Request.Period.fFrom, G.int x0.Request.Period.fTo, G.int x0.Request.Period.Days, G.int x0.Request.Minute, G.int x0.Request.Seats, G.int x0.Request.Size, G.int x0.Request.Noise, G.str x0.Holder, G.sl 3 (List.map S5102.c x0.Leases), G.sl 1 (List.map cStr x0.Shares)]] ++ ka1) (G.agg [G.str r.Request.Name, G.str r.Request.Carrier, G.str r.Request.Kind, G.str r.Request.Terminal, G.str r.Request.Partner, G.str r.Request.Link, G.int r.Request.Period.fFrom, G.int r.Request.Period.fTo, G.int r.Request.Period.Days, G.int r.Request.Minute, G.int r.Request.Seats, G.int r.Request.Size, G.int r.Request.Noise, G.str r.Holder, G.sl 3 (List.map S5102.c r.Leases), G.sl 1 (List.map cStr r.Shares)])) (hb : a0.length ≤ 1000000) (hR : qx4 a0 a1 = some R) : ConN (EG g) 157 [G.sl 16 (List.map S5100.c a0), ca1] 101 16 (List.map S5100.c R) := by
 unfold qx4 at hR;refine qdp Tryz.func157 U U fun w0 M0 => ?_;refine zu (f := S5100.c) (l := a0) 0 U fun hla0 => ?_;refine qb<|qa [.w]<|sw (xa 4 101 16 U U U) U<|qd<|qb<|qa [.w]<|sw (xa 5 101 16 U U U) U<|qd<|qb<|qb<|qa [.p, .p, .p]<|sm U U<|su (zb (f := S5100.c) (l := a0) U Tryz.underlying40 U) U<|sm U U<|qd<|qp<|zf (γ := Nat × (List S5100) × (List S5100)) (fun g => ([(1, .g (ca1)), (5, .osl 5 16 0 (List.length g.2.2)), (8, .g (G.sl 16 (List.map S5100.c a0))), (9, .g (G.int (List.length a0 : Int))), (10, .g (G.int ((g.1 : Nat) : Int)))], [(5, .arr 101 16 (List.map S5100.c g.2.2))])) (fun g => g.2.2.length ≤ g.1 ∧ g.1 ≤ a0.length ∧ g.2.2.length ≤ g.1 ∧ a0.drop g.1 = g.2.1 ∧ qaa a1 g.2.1 g.1 g.2.2 = some R) (fun g => List.length g.2.1) ⟨U, (0, a0, []), jA, ⟨U, O⟩, U, ⟨iH, iH, iH, U, (by exact hR)⟩, O⟩ ?_
 ·rintro ⟨k3, t5, x1⟩ ⟨iv1_0, iv1_1, iv1_2, hd, hR⟩;replace hd : a0.drop k3 = t5 := hd;replace hR : qaa a1 t5 k3 x1 = some R := hR;replace iv1_0 : x1.length ≤ k3 := iv1_0;replace iv1_1 : k3 ≤ a0.length := iv1_1;replace iv1_2 : x1.length ≤ k3 := iv1_2;refine qb<|qa [.p]<|su (zd U U U) U<|qd ?_;refine zu (f := S5100.c) (l := a0) 8 U fun hlz1 => ?_;refine qb ?_;refine ql _ U (fun h1 => ?_) (fun h1 => ?_)
  ·replace h1 : (decide (((k3 : Nat) : Int) < (List.length a0 : Int))) = true := h1;obtain ⟨y4, t5, rfl, hx1, hd⟩ := zq hd (decT h1);replace h1 := decT h1;rw [qaa] at hR;(try dsimp only at hR);refine qn<|qb<|qp<|qb<|qa [.p, .p, .w, .w]<|su (z5 (f := S5100.c) (l := a0) (a := y4) U Tryz.underlying40 xd U U (Int.natCast_nonneg _) hx1) U<|su (qr U xd U U U) U<|sw (zm 7 U qj4 U U) U<|je U U (qw (tv := .g (G.agg [G.str y4.Request.Name, G.str y4.Request.Carrier, G.str y4.Request.Kind, G.str y4.Request.Terminal, G.str y4.Request.Partner, G.str y4.Request.Link, G.int y4.Request.Period.fFrom, G.int y4.Request.Period.fTo, G.int y4.Request.Period.Days, G.int y4.Request.Minute, G.int y4.Request.Seats, G.int y4.Request.Size, G.int y4.Request.Noise, G.str y4.Holder, G.sl 3 (List.map S5102.c y4.Leases), G.sl 1 (List.map cStr y4.Shares)])) U xd U U U U U)<|qd ?_;obtain ⟨r6, br6, hR⟩ := qh hR;refine qa [.p, .p, .r, .p, .p, .k, .p]<|su (zg U U) U<|sm U U<|sr (zj U xd U U U U) U<|su (xi U ha1 Ka1 U (Ha1 y4 _ br6) (qe U qk)) U ?_;refine su (qt U Tryz.underlying40 xd qj4 U (qx U jp) U (by simp [S5100.c, S115.c, S45.c, S5102.c]) (by decide)) U ?_;refine st_k U U (xb (f := S5100.c) (out := x1) (new := [r6]) U qm4 U U (qa6 U (qa5 (by decide) (by simp [S5100.c, S115.c, S45.c, S5102.c]))) (qkq U) (by simp; omega)) U ?_;refine su (ja U U) U<|qd<|qa [.p, .p]<|su (zn U U U iE) U<|sm U U<|qd ?_;exact ⟨U, (k3 + 1, t5, x1 ++ [r6]), jA, ⟨U, O⟩, U, ⟨iB, iB, iB, hd, hR⟩, by simp⟩
  ·replace h1 : (decide (((k3 : Nat) : Int) < (List.length a0 : Int))) = false := h1;obtain rfl := zz hd (decF h1);rw [qaa] at hR;refine zw<|qb<|qa [.p, .p]<|su (zg U U) U<|su (ja U U) U<|qd<|qo ?_;obtain rfl := Option.some.inj hR;exact qee U U U ((List.length_map ..).trans U)
def qqf (a0 : S5042) : Option S5042 :=
 zc (qx4 a0.Slots qfm) fun r1 => some (S5042.mk r1 (qed (List.replicate (List.length a0.Waiting) (S5072.mk (S115.mk ByteArray.empty ByteArray.empty ByteArray.empty ByteArray.empty ByteArray.empty ByteArray.empty (S45.mk 0 0 0) 0 0 0 0) 0)) a0.Waiting))
theorem q2m {g : GL} (a0 : S5042) {R : S5042}  (hb : a0.Slots.length ≤ 1000000) (hb1 : a0.Waiting.length ≤ 1000000) (hR : qqf a0 = some R) : ConS (EG g) 111 [G.agg [G.sl 16 (List.map S5100.c a0.Slots), G.sl 14 (List.map S5072.c a0.Waiting)]] 101 16 (List.map S5100.c R.Slots) [G.sl 14 (List.map S5072.c R.Waiting)] := by
 unfold qqf at hR;refine qt0 Tryz.func111 U U fun w0 M0 => ?_;refine qb<|qa [.p, .w]<|su (zi rfl rfl) rfl<|sw (zm 2 rfl qbm rfl rfl) rfl<|qd<|qb<|qa [.p, .p, .p, .w, .p]<|su (qc rfl qcy rfl) rfl<|su (qf rfl qie rfl) rfl<|su (zb (f := S5072.c) (l := a0.Waiting) rfl Tryz.underlying41 rfl) rfl<|sw (qvk (f := S5072.c) (z := (S5072.mk (S115.mk ByteArray.empty ByteArray.empty ByteArray.empty ByteArray.empty ByteArray.empty ByteArray.empty (S45.mk 0 0 0) 0 0 0 0) 0)) 7 rfl q6g rfl rfl rfl (by first | exact Int.le_refl _ | omega) (by first | decide | omega) rfl rfl rfl) rfl<|su (ja rfl rfl) rfl<|qd<|qb<|qa [.p, .p, .p, .w]<|su (zg rfl rfl) rfl<|su (qc rfl qcy rfl) rfl<|su (qf rfl qie rfl) rfl ?_;refine sw (qvl (f := S5072.c) (d := List.replicate (List.length a0.Waiting) (S5072.mk (S115.mk ByteArray.empty ByteArray.empty ByteArray.empty ByteArray.empty ByteArray.empty ByteArray.empty (S45.mk 0 0 0) 0 0 0 0) 0)) (s := a0.Waiting) U qur U List.length_replicate U (qa6 U (qa5 (by decide) (by simp [S5072.c, S115.c, S45.c])))) U ?_;refine qd<|qb<|qgp (l := [(1, .g (G.ref [G.sl 16 (List.map S5100.c a0.Slots), G.sl 14 (List.map S5072.c a0.Waiting)])), (2, .ptr 2 0), (3, .g (G.sl 14 (List.map S5072.c (qed (List.replicate (List.length a0.Waiting) (S5072.mk (S115.mk ByteArray.empty ByteArray.empty ByteArray.empty ByteArray.empty ByteArray.empty ByteArray.empty (S45.mk 0 0 0) 0 0 0 0) 0)) a0.Waiting))))]) (m := [(2, .box [.g (G.lit (.slice none 0 0)), .g (G.lit (.slice none 0 0))])]) 7 U ⟨.inl ⟨U, U⟩, .inl ⟨U, U⟩, .inr (q3q ((qi _ _).trans List.length_replicate)), O⟩ ⟨U, O⟩ U U ?_;obtain ⟨r1, br1, hR⟩ := qh hR;refine qa [.p, .p, .w, .p, .p, .w]<|su (qc rfl xw rfl) rfl<|su (qf rfl qc1 rfl) rfl<|sw (ql4 (f0 := S5100.c) (l := r1) 14 rfl zax rfl (zdp a0.Slots qfm qgq zay (fun x0 r_ h_ => q8d x0 h_) (by first | assumption | omega | (simp [qi]; done) | (simp [qi]; omega)) br1) (qe rfl (qe rfl qk)) rfl) rfl<|sm rfl rfl<|su (qtz rfl qbm rfl qfi rfl rfl q6z (fun _ _ => rfl)) rfl<|je rfl rfl (qw (tv := .agl [] 14 16 (List.length r1) [G.sl 14 (List.map S5072.c (qed (List.replicate (List.length a0.Waiting) (S5072.mk (S115.mk ByteArray.empty ByteArray.empty ByteArray.empty ByteArray.empty ByteArray.empty ByteArray.empty (S45.mk 0 0 0) 0 0 0 0) 0)) a0.Waiting))]) rfl jc rfl rfl rfl rfl rfl)<|qd<|qo ?_;obtain rfl := Option.some.inj hR;exact zbu rfl jc rfl rfl rfl (by first | exact List.length_map .. | simp)
theorem qs2 : ∀ (t : List S5100) (k : Nat) (x r : List S5100), qaa qfm t k x = some r → r = x ++ t
 | [], _, x, r, h => by rw [qaa] at h; cases h; simp
 | y :: t, k, x, r, h => by
  rw [qaa] at h;obtain ⟨z, h1, h⟩ := qh h;unfold qfm at h1;rw [cond_eq_ite] at h1
  split at h1
  ·cases h1
   rw [qs2 t _ _ _ h]; simp
  ·cases h1
theorem qqg {α : Type} (z : α) (l : List α) : qed (List.replicate l.length z) l = l := by
 unfold qed
 simp
theorem qjv {a r : S5042} (h : qqf a = some r) : r = a := by
 unfold qqf at h;obtain ⟨x, h1, h⟩ := qh h
 cases h
 rw [qqg, qs2 _ _ _ _ h1]
 rfl
theorem q5a (a : List S5100) (h : ∀ x ∈ a, x.Leases.length ≤ 1000000 ∧ x.Shares.length ≤ 1000000) : ∀ (k : Nat) (x : List S5100), qaa qfm a k x = some (x ++ a) := by
 induction a with
 | nil => intro k x; rw [qaa]; simp
 | cons y t ih =>
  intro k x;have hy := h y List.mem_cons_self
  have e : qfm y = some y := by
   unfold qfm;rw [decide_eq_true hy.1, decide_eq_true hy.2]; rfl
  rw [qaa, e];simp only [zc];rw [ih (fun x hx => h x (List.mem_cons_of_mem _ hx))]
  simp
theorem qmh {a : S5042} (h : ∀ x ∈ a.Slots, x.Leases.length ≤ 1000000 ∧ x.Shares.length ≤ 1000000) : qqf a = some a := by
 unfold qqf
 have e : qx4 a.Slots qfm = some a.Slots := by unfold qx4; rw [q5a _ h]; rfl
 rw [e];simp only [zc];rw [qqg]
def rqG (x : S115) : G := G.agg (S115.c x)
def rqE (x : S115) : Value := .agg #[.string x.Name, .string x.Carrier, .string x.Kind, .string x.Terminal, .string x.Partner, .string x.Link, .int .i64 x.Period.fFrom, .int .i64 x.Period.fTo, .int .i64 x.Period.Days, .int .i64 x.Minute, .int .i64 x.Seats, .int .i64 x.Size, .int .i64 x.Noise]
theorem zdq (x : S115) (w : World) (M : Nat → Prop) : (rqG x).p w M (rqE x) := ⟨[_, _, _, _, _, _, _, _, _, _, _, _, _], rfl, ⟨⟨rfl, rfl⟩, ⟨rfl, rfl⟩, ⟨rfl, rfl⟩, ⟨rfl, rfl⟩, ⟨rfl, rfl⟩, ⟨rfl, rfl⟩, ⟨rfl, rfl⟩, ⟨rfl, rfl⟩, ⟨rfl, rfl⟩, ⟨rfl, rfl⟩, ⟨rfl, rfl⟩, ⟨rfl, rfl⟩, ⟨rfl, rfl⟩, trivial⟩⟩
theorem q8e {x : S115} {w : World} {M : Nat → Prop} {ρ : Rho} {v : Value} (h : TRel w M ρ (.g (rqG x)) v) : v = rqE x := by
 obtain ⟨vs, rfl, h⟩ := h
 match vs, h with
 | [v0, v1, v2, v3, v4, v5, v6, v7, v8, v9, v10, v11, v12], ⟨⟨h0, _⟩, ⟨h1, _⟩, ⟨h2, _⟩, ⟨h3, _⟩, ⟨h4, _⟩, ⟨h5, _⟩, ⟨h6, _⟩, ⟨h7, _⟩, ⟨h8, _⟩, ⟨h9, _⟩, ⟨h10, _⟩, ⟨h11, _⟩, ⟨h12, _⟩, _⟩ =>
  have h0 : v0 = .string x.Name := h0;have h1 : v1 = .string x.Carrier := h1;have h2 : v2 = .string x.Kind := h2;have h3 : v3 = .string x.Terminal := h3;have h4 : v4 = .string x.Partner := h4;have h5 : v5 = .string x.Link := h5;have h6 : v6 = .int .i64 x.Period.fFrom := h6;have h7 : v7 = .int .i64 x.Period.fTo := h7;have h8 : v8 = .int .i64 x.Period.Days := h8;have h9 : v9 = .int .i64 x.Minute := h9;have h10 : v10 = .int .i64 x.Seats := h10;have h11 : v11 = .int .i64 x.Size := h11;have h12 : v12 = .int .i64 x.Noise := h12;rw [h0, h1, h2, h3, h4, h5, h6, h7, h8, h9, h10, h11, h12]; rfl
theorem qop {g : GL} (a0 : S5042) (hlen : a0.Slots.length ≤ 1000000000000000) : SeqN (EG g) 146 [G.ref [G.sl 16 (List.map S5100.c a0.Slots), G.sl 14 (List.map S5072.c a0.Waiting)], G.ref [G.int (-1)]] rqE (a0.Slots.map S5100.Request) := by
 refine qhq Tryz.func146 U U U fun l C => ?_;refine vm<|jr [.p, .p, .p, .p]<|st U U (qc U xw U) U<|st U U (qf U qc1 U) U<|st U U (zb (f := S5100.c) (l := a0.Slots) U Tryz.underlying40 U) U<|st U U (qj U U) U<|qd<|qbf ?_;refine qgr (γ := Nat × List S5100 × List S115) (fun g => [(0, .g (G.lit (.func (.yield l) #[] #[]))), (1, .g (G.ref [G.sl 16 (List.map S5100.c a0.Slots), G.sl 14 (List.map S5072.c a0.Waiting)])), (2, .g (G.ref [G.int (-1)])), (7, .g (G.sl 16 (List.map S5100.c a0.Slots))), (8, .g (G.int (List.length a0.Slots : Int))), (9, .g (G.int ((g.1 : Nat) : Int)))])
  (fun g => (g.2.2, false)) (fun g => a0.Slots.drop g.1 = g.2.1 ∧ g.2.2 ++ g.2.1.map S5100.Request = a0.Slots.map S5100.Request) (fun g => List.length g.2.1) ⟨rfl, (0, a0.Slots, []), ⟨rfl, rfl, rfl, rfl, rfl, rfl, trivial⟩, rfl, rfl, ⟨rfl, rfl⟩, trivial⟩ ?_
 rintro ⟨k, tl, pre0⟩ ⟨hd, hR⟩;replace hd : a0.Slots.drop k = tl := hd;replace hR : pre0 ++ tl.map S5100.Request = a0.Slots.map S5100.Request := hR;refine vm<|jr [.p]<|st U U (zd U U U) U<|qd<|vm ?_;refine qdh _ U (fun h1 => ?_) (fun h1 => ?_)
 ·replace h1 : (decide (((k : Nat) : Int) < (List.length a0.Slots : Int))) = true := h1;obtain ⟨y, tl, rfl, hx1, hd⟩ := zq hd (decT h1);replace h1 := decT h1;refine qdi<|vm<|qbf<|vm<|jr [.p, .p, .p, .w, .p, .w]<|st U U (qj U U) U<|st U U (z5 (f := S5100.c) (l := a0.Slots) (a := y) U Tryz.underlying40 xd U U (Int.natCast_nonneg _) hx1) U<|st U U (qr U xd U U U) U<|st_w U U (zm 5 U qj4 U U) U<|st U U (jb U U) U<|je U U (qw (tv := .g (G.agg [G.str y.Request.Name, G.str y.Request.Carrier, G.str y.Request.Kind, G.str y.Request.Terminal, G.str y.Request.Partner, G.str y.Request.Link, G.int y.Request.Period.fFrom, G.int y.Request.Period.fTo, G.int y.Request.Period.Days, G.int y.Request.Minute, G.int y.Request.Seats, G.int y.Request.Size, G.int y.Request.Noise, G.str y.Holder, G.sl 3 (List.map S5102.c y.Leases), G.sl 1 (List.map cStr y.Shares)])) U xd U U U U U)<|qd<|qgs (l1 := [(0, .g (G.lit (.func (.yield l) #[] #[]))), (1, .g (G.ref [G.sl 16 (List.map S5100.c a0.Slots), G.sl 14 (List.map S5072.c a0.Waiting)])), (2, .g (G.ref [G.int (-1)])), (4, .g (G.int ((k : Nat) : Int))), (5, .g (G.ref [G.str y.Request.Name, G.str y.Request.Carrier, G.str y.Request.Kind, G.str y.Request.Terminal, G.str y.Request.Partner, G.str y.Request.Link, G.int y.Request.Period.fFrom, G.int y.Request.Period.fTo, G.int y.Request.Period.Days, G.int y.Request.Minute, G.int y.Request.Seats, G.int y.Request.Size, G.int y.Request.Noise, G.str y.Holder, G.sl 3 (List.map S5102.c y.Leases), G.sl 1 (List.map cStr y.Shares)])), (7, .g (G.sl 16 (List.map S5100.c a0.Slots))), (8, .g (G.int (List.length a0.Slots : Int))), (9, .g (G.int ((k : Nat) : Int)))]) (m := []) 5 U ⟨.inl ⟨U, U⟩, .inl ⟨U, U⟩, .inl ⟨U, U⟩, .inl ⟨U, U⟩, .inr (qft U), .inl ⟨U, U⟩, .inl ⟨U, U⟩, .inl ⟨U, U⟩, O⟩ O U U<|vm<|qmx [some .p, some .p, some .p, some .p, some .p, some .p, some .p, none, some .p, some .p] ?_;refine ist (st U U (qj U U) U (qd ?_));refine ist (st U U (qf U ty3 U) U (qd ?_));refine ist (st U U (zx U U U) U (qd ?_));refine ist (st U U (qj U U) U (qd ?_));refine ist (st_g U U U (jf _ _) (fun h => qj U U) U (qd ?_));refine ist (st_g U U U (jf _ _) (fun h => qc U qbq U) U (qd ?_));refine ist (st_g U U U (jf _ _) (fun h => qr U qab (gd (y := wt) h U) U U) U (qd ?_));have hk1 : decide (((k : Nat) : Int) ≠ -1) = true := decide_eq_true (by omega)
  revert hk1
  generalize decide (((k : Nat) : Int) ≠ -1) = c;rintro rfl;refine iy_g true U U U (jf _ _) U U (fun h => by cases h) (fun _ => ⟨U, U, y.Request, tl.map S5100.Request, (fun w M ρ v h => q8e h), ?_, fun b => ?_⟩)
  ·rw [← hR]; rfl
  refine ist (st_g (gb := true) U U U (jf _ _) (fun h => jo U U) U (qd ?_));refine ist (st U U (qgc U U U) U (qd ?_));refine qob ?_;refine qdh (!b) U (fun h4 => ?_) (fun h4 => ?_)
  ·refine qsj ?_;exact .inl h4
  ·have hb : b = true := by simpa using h4
   subst hb;refine qdi<|jr [.p, .p]<|st U U (zn U U U (by (try dsimp only); unfold I64; omega)) U<|st U U (qj U U) U<|qd ?_;refine ⟨U, (k + 1, tl, pre0 ++ [y.Request]), ⟨U, U, U, U, U, U, O⟩, U, U, ⟨hd, ?_⟩, ?_⟩
   ·show (_ ++ _) ++ tl.map S5100.Request = _;rw [← hR]; simp
   ·simp
 ·replace h1 : (decide (((k : Nat) : Int) < (List.length a0.Slots : Int))) = false := h1;obtain rfl := zz hd (decF h1);refine qkw<|.inr ?_;rw [← hR]; simp
theorem qqh {g : GL} (a0 : S5042) (a1 : Int) (hbut : a1 = -1) (hlen : a0.Slots.length ≤ 1000000000000000) : SeqN (EG g) 146 [G.ref [G.sl 16 (List.map S5100.c a0.Slots), G.sl 14 (List.map S5072.c a0.Waiting)], G.ref [G.int a1]] rqE (a0.Slots.map S5100.Request) := by
 subst hbut; exact qop a0 hlen
theorem zdr {g : GL} (a0 : S5042) (a1 : Int) : Con (EG g) 92 [G.agg [G.sl 16 (List.map S5100.c a0.Slots), G.sl 14 (List.map S5072.c a0.Waiting)], G.int a1]
  (G.fn (.func 146) [] [G.ref [G.sl 16 (List.map S5100.c a0.Slots), G.sl 14 (List.map S5072.c a0.Waiting)], G.ref [G.int a1]]) := by
 refine qm Tryz.func92 U U fun w0 M0 => ?_;refine qb<|qa [.p, .p, .p]<|st U U (zi U U) U<|st U U (zi U U) U<|st U U (jb U U) U<|qd<|qb<|qa [.p, .p]<|st U U (qas U U U) U<|st U U (jb U U) U<|qd<|qo ?_;exact za U (rv_g U)
theorem qx5 {a0 : List S1079} (h : qap a0 = some 0) : a0.length ≤ 30000 := by
 unfold qap at h;rw [cond_eq_ite] at h
 split at h
 ·cases h
 ·rename_i h1; simp at h1; omega
theorem qx6 {a0 a1 : List S1079} {r1 r2 : Int} (hx : qap a0 = some r1) (hy : qap a1 = some r2)
  (h : ¬ vr [r1, r2, xk (decide (30000 < IntKind.i64.wrap ((List.length a0 : Int) + (List.length a1 : Int)))) 5] ≠ 0) : a0.length + a1.length ≤ 30000 := by
 have h0 := j8.1 (Decidable.not_not.1 h);have e1 : r1 = 0 := h0 r1 (by simp);have e2 : r2 = 0 := h0 r2 (by simp);subst e1; subst e2;have l1 := qx5 hx;have l2 := qx5 hy;have h3 := h0 (xk (decide (30000 < IntKind.i64.wrap ((List.length a0 : Int) + (List.length a1 : Int)))) 5) (by simp);have h4 := (xj (by decide)).1 h3;have h5 := of_decide_eq_false h4;rw [wrap_i64 (by unfold I64; omega)] at h5
 omega
def qpz (a0 : List S1079) (a1 : List S1079) : Option ((List S1079) × Int) :=
 zc (qap a0) fun r1 => zc (qap a1) fun r2 => (bif decide ((vr [r1, r2, (xk (decide (30000 < IntKind.i64.wrap ((List.length a0 : Int) + (List.length a1 : Int)))) 5)]) ≠ 0) then some ([], (vr [r1, r2, (xk (decide (30000 < IntKind.i64.wrap ((List.length a0 : Int) + (List.length a1 : Int)))) 5)])) else zc (qrg (a0 ++ a1) (fun x0_ x1_ => some (qp9 x0_ x1_))) fun r3 => some (r3, 0))
theorem zds {g : GL} (a0 : List S1079) (a1 : List S1079) {R : (List S1079) × Int}   (hR : qpz a0 a1 = some R) : Con (EG g) 94 [G.sl 7 (List.map S1079.c a0), G.sl 7 (List.map S1079.c a1)] (G.tup [G.sl 7 (List.map S1079.c R.1), G.int R.2]) := by
 unfold qpz at hR;refine qm Tryz.func94 U U fun w0 M0 => ?_;refine zu (f := S1079.c) (l := a0) 0 U fun hla0 => ?_;refine zu (f := S1079.c) (l := a1) 1 U fun hla1 => ?_;refine qb<|qa [.p, .p]<|su (qs3 7 U U) U<|sa U U<|qd<|qb<|qb ?_;obtain ⟨r1, br1, hR⟩ := qh hR;obtain ⟨r2, br2, hR⟩ := qh hR;refine qa [.p, .p, .p, .p, .p, .p, .p, .p, .p, .p, .p, .p, .p, .p]<|sm U U<|su (qg U q2v U (q32 a0 br1) (qe U qk)) U<|sm U U<|su (qg U q2v U (q32 a1 br2) (qe U qk)) U<|sm U U<|su (zb (f := S1079.c) (l := a0) U Tryz.underlying48 U) U<|sm U U<|su (zb (f := S1079.c) (l := a1) U Tryz.underlying48 U) U<|su (kl U U U) U<|su (zy U U U) U<|su (qg U qjz U (qlc (decide (30000 < IntKind.i64.wrap ((List.length a0 : Int) + (List.length a1 : Int)))) 5) (qe U (qe U qk))) U ?_;refine su (qt U Tryz.underlying170 ty37 z37 U (qx U (qx U (qx U jp))) U (by simp []) (by decide)) U ?_;refine su (qg U qjy U (qk0 [r1, r2, (xk (decide (30000 < IntKind.i64.wrap ((List.length a0 : Int) + (List.length a1 : Int)))) 5)]) (qe U qk)) U<|sa U U<|qd<|qb<|qa [.p, .p]<|sm U U<|su (zx U U U) U<|qd ?_;refine ql _ U (fun h1 => ?_) (fun h1 => ?_)
 ·replace h1 : (decide ((vr [r1, r2, (xk (decide (30000 < IntKind.i64.wrap ((List.length a0 : Int) + (List.length a1 : Int)))) 5)]) ≠ 0)) = true := h1;replace hR := zk hR h1;(try simp only [bB] at h1);refine qb<|qa [.p, .p, .p]<|sm U U<|su (qs3 7 U U) U<|sa U U<|qd<|qo ?_;obtain rfl := Option.some.inj hR;exact resN U ⟨rv_g U, rv_g U, O⟩ (by simp)
 ·replace h1 : (decide ((vr [r1, r2, (xk (decide (30000 < IntKind.i64.wrap ((List.length a0 : Int) + (List.length a1 : Int)))) 5)]) ≠ 0)) = false := h1;replace hR := zl hR h1;(try simp only [bB] at h1);have hml := qx6 br1 br2 h1;refine qn<|qb<|qa [.p, .w, .p, .k, .p]<|sm U U<|sw (ql4 (f0 := S1079.c) (l := a0) 25 U q8x U (zcf a0 (by omega)) (qe U qk) U) U<|sm U U ?_;refine st_k U U (xb (f := S1079.c) (out := a0) (new := a1) U qm5 U U (qa6 U (qa5 (by decide) (by simp [S1079.c]))) (qkq U) (by simp; omega)) U ?_;refine su (ja U U) U<|qd<|qb ?_;obtain ⟨r3, br3, hR⟩ := qh hR;refine qa [.p, .w]<|su (zg rfl rfl) rfl<|sw (vw 0 25 rfl q8y rfl (zce (a0 ++ a1) (fun x0_ x1_ => some (qp9 x0_ x1_)) rfl qgq zat (fun x0_ x1_ r_ h_ => Option.some.inj h_ ▸ (fun x0 x1 => zcg x0 x1) x0_ x1_) (by first | assumption | omega | (simp [qi]; done) | (simp [qi]; omega)) br3) (z6 rfl rfl (z6 rfl rfl qdn)) rfl rfl rfl) rfl<|qd<|qb<|qa [.p, .p, .p]<|su (zg rfl rfl) rfl<|su (ja rfl rfl) rfl<|sa rfl rfl<|qd<|qo ?_;obtain rfl := Option.some.inj hR;exact resN U ⟨qvm ((q4z br3).trans U) U U, rv_g U, O⟩ (by simp)
def qca  : List S115 → (List S1079) → Option (List S1079)
 | [], x1 => some x1
 | y2 :: t3, x1 => zc (qpz x1 ((qlo y2).1)) fun r4 => qca t3 r4.1
def qfx (a0 : S5042) (a1 : Int) : Option (List S1079) :=
 qca (List.map S5100.Request a0.Slots) ([] : List S1079)
theorem q8f {g : GL} (a0 : S5042) (a1 : Int) {R : List S1079}  (hbut : a1 = -1) (hb : a0.Slots.length ≤ 1000000000000000) (hR : qfx a0 a1 = some R) : Con (EG g) 39 [G.agg [G.sl 16 (List.map S5100.c a0.Slots), G.sl 14 (List.map S5072.c a0.Waiting)], G.int a1] (G.sl 7 (List.map S1079.c R)) := by
 unfold qfx at hR;refine qex Tryz.func39 U U (qpt fun x => (xu (xr _) (xu (xr _) (xu (xr _) (xu (xr _) (xu (xr _) (xu (xr _) (xu (xr _) qpv)))))))) fun w0 M0 => ?_;refine qb<|qa [.p, .p]<|su (zi U U) U<|sa U U<|qd<|qb<|qa [.w]<|sw (zm 5 U za8 U U) U<|qd<|qb<|qb<|qq6 5 0 7 U U<|qa [.p, .p, .p]<|su (qr U jc U U U) U<|sm U U<|su (qg U zah U (zdr a0 a1) (qe U (qe U qk))) U<|qd<|qp ?_;refine qhs (α := S115) (γ := (List S1079)) (enc := rqE) (l := [(5, .ptr 5 0), (11, .g (G.fn (.func 146) [] [G.ref [G.sl 16 (List.map S5100.c a0.Slots), G.sl 14 (List.map S5072.c a0.Waiting)], G.ref [G.int a1]]))]) (List.map S5100.Request a0.Slots) (fun g => [(5, .box [.g (G.sl 7 (List.map S1079.c g))])]) (fun tl_ g => qca tl_ g = some R) ([] : List S1079) (fun g y2 => (upd 6 (.ptr 6 0) (upd 12 (.g (rqG y2)) (xh [(5, .ptr 5 0), (11, .g (G.fn (.func 146) [] [G.ref [G.sl 16 (List.map S5100.c a0.Slots), G.sl 14 (List.map S5072.c a0.Waiting)], G.ref [G.int a1]]))])), (6, .box [.g (G.str y2.Name), .g (G.str y2.Carrier), .g (G.str y2.Kind), .g (G.str y2.Terminal), .g (G.str y2.Partner), .g (G.str y2.Link), .g (G.int y2.Period.fFrom), .g (G.int y2.Period.fTo), .g (G.int y2.Period.Days), .g (G.int y2.Minute), .g (G.int y2.Seats), .g (G.int y2.Size), .g (G.int y2.Noise)]) :: (6, .box [.g (G.str ByteArray.empty), .g (G.str ByteArray.empty), .g (G.str ByteArray.empty), .g (G.str ByteArray.empty), .g (G.str ByteArray.empty), .g (G.str ByteArray.empty), .g (G.int 0), .g (G.int 0), .g (G.int 0), .g (G.int 0), .g (G.int 0), .g (G.int 0), .g (G.int 0)]) :: [(5, .box [.g (G.sl 7 (List.map S1079.c g))])])) U ⟨U, U, O⟩ ⟨U, O⟩ U U zas (qqh a0 a1 hbut hb) rqG zdq (by exact hR) U (fun _ => U) (fun _ => U) ?_ (fun _ _ => U) ?_ ?_
 ·rintro y2 x1 lp_ w1_ M1_ x1_;refine qa [.w, .w]<|sw (zm 6 U z116 U U) U<|je U U (qw (tv := .g (G.agg (S115.c y2))) U qab U U U U U)<|qd ?_;exact ⟨U, U⟩
 ·rintro y2 t3 x1 hx1 hR lp_ w1_ M1_ x1_;replace hR : qca (y2 :: t3) x1 = some R := hR;rw [qca] at hR;(try dsimp only at hR);refine qp<|qb<|qa [.r, .p, .p, .p, .p, .p, .p]<|sr (zj U qab U U U U) U<|su (qg U q82 U (zb2 y2) (qe U qk)) U<|sm U U<|su (qv U U U) U<|su (qv U U U) U<|sa U U<|sa U U<|qd ?_;obtain ⟨r4, br4, hR⟩ := qh hR;refine qa [.r, .p, .p, .p, .p, .p, .w]<|sr (zo U qut U U U) U<|sm U U<|su (qg U zai U (zds x1 ((qlo y2).1) br4) (qe U (qe U qk))) U<|sm U U<|su (qv U U U) U<|su (qv U U U) U<|je U U (qw (tv := .g (G.sl 7 (List.map S1079.c r4.1))) U qut U U U U U)<|qd ?_;exact ⟨r4.1, hR, ⟨U, O⟩⟩
 ·rintro x1 hR;replace hR : qca [] x1 = some R := hR;rw [qca] at hR;(try dsimp only at hR);refine qb<|qa [.r, .p]<|sr (zo U qut U U U) U<|sa U U<|qd<|qo ?_;obtain rfl := Option.some.inj hR;exact za U (rv_g U)
theorem q5b {a0 : List S2062} {a1 : List S1079} {a2 : S115} {r : Int} (hl : a1.length ≤ 1000) (h : qgw a0 a1 = some r) (h1 : ¬ vr [r, qcx a2] ≠ 0) : a0.length ≤ 32 ∧ (∀ x ∈ a0, LimOk x) ∧ MsOk a1 ∧ (∀ m ∈ a1, MvOk m) ∧ s102 a2.Period = 0 := by
 have h3 := j8.1 (Decidable.not_not.1 h1);have h4 : r = 0 := h3 r (by simp);obtain ⟨h5, h6, h7, h8⟩ := qwb hl h (by rw [h4]; simp);refine ⟨h5, h6, h7, h8, ?_⟩;have h9 : qcx a2 = 0 := h3 _ (by simp);exact q1r (by rw [h9]; simp)
theorem qm0 (x2 : List Int) : ∀ (k : Nat) (x7 x8 : Int) (l r : List Bool), qat x2 k x7 x8 l = some r → r.length = l.length
 | 0, _, _, _, _, h => by rw [qat] at h; cases h; rfl
 | k + 1, x7, x8, l, r, h => by
  rw [qat] at h;obtain ⟨y1, _, h⟩ := qh h;obtain ⟨y2, _, h⟩ := qh h;have := qm0 x2 k _ _ _ _ h
  simpa using this
section
variable {N : Nat}
theorem qm1 {rec5 : Int → Int → Int → List Int → Option (List Bool)} (hr : ∀ a b c l r, rec5 a b c l = some r → r.length = N) {y5 : S2062} {y22 : Int} {x36 : List Int} {y38 x40 x41 x42 x43 : Int} {r : List Bool} (h : qbh rec5 y5 y22 x36 y38 x40 x41 x42 x43 = some r) : r.length = N := by
 unfold qbh at h;rw [cond_eq_ite] at h
 split at h
 ·exact hr _ _ _ _ _ h
 ·rw [cond_eq_ite] at h
  split at h
  ·obtain ⟨_, _, h⟩ := qh h;obtain ⟨_, _, h⟩ := qh h;obtain ⟨_, _, h⟩ := qh h;obtain ⟨_, _, h⟩ := qh h;exact hr _ _ _ _ _ h
  ·exact hr _ _ _ _ _ h
theorem qib {rec4 : Int → Int → Int → Int → List Int → Option (List Bool)} (hr : ∀ x a b c l r, rec4 x a b c l = some r → r.length = N) {a1 : List S1079} {y5 : S2062} {y22 x24 : Int} : ∀ (t : List Int) (a b c : Int) (l : List Int) (r : List Bool), vo rec4 a1 y5 y22 x24 t a b c l = some r → r.length = N
 | [], _, _, _, _, _, h => by rw [vo] at h; exact hr _ _ _ _ _ _ h
 | y :: t, a, b, c, l, r, h => by
  rw [vo] at h;rw [cond_eq_ite] at h
  split at h
  ·exact qm1 (fun a b c l r h => qib hr t a b c l r h) h
  ·exact qm1 (fun a b c l r h => qib hr t a b c l r h) h
theorem qm2 {rec3 : Nat → Int → Int → Int → List Int → Option (List Bool)} (hr : ∀ x a b c l r, rec3 x a b c l = some r → r.length = N) {a1 : List S1079} {y5 : S2062} {k21 : Nat} {y22 : Int} : ∀ (k : Nat) (x a b c : Int) (l : List Int) (r : List Bool), ky rec3 a1 y5 k21 y22 k x a b c l = some r → r.length = N
 | 0, _, _, _, _, _, _, h => by rw [ky] at h; exact hr _ _ _ _ _ _ h
 | k + 1, x, a, b, c, l, r, h => by
  rw [ky] at h;obtain ⟨_, _, h⟩ := qh h;exact qib (fun x a b c l r h => qm2 hr k x a b c l r h) _ _ _ _ _ _ h
theorem qm3 {rec1 : Nat → List Int → Option (List Bool)} (hr : ∀ x l r, rec1 x l = some r → r.length = N) {a1 : List S1079} {k4 : Nat} {y5 : S2062} : ∀ (t : List Int) (k : Nat) (a b c : Int) (l : List Int) (r : List Bool), ve rec1 a1 k4 y5 t k a b c l = some r → r.length = N
 | [], _, _, _, _, _, _, h => by rw [ve] at h; exact hr _ _ _ h
 | y :: t, k, a, b, c, l, r, h => by
  rw [ve] at h;exact qm2 (fun x a b c l r h => qm3 hr t x a b c l r h) _ _ _ _ _ _ _ h
end
theorem qic (a1 : List S1079) (a2 : S115) : ∀ (t : List S2062) (k : Nat) (l : List Int) (r : List Bool), jz a1 a2 t k l = some r → r.length = 1440
 | [], _, l, r, h => by
  rw [jz] at h;have := qm0 _ _ _ _ _ _ h;rw [this, List.length_replicate]
 | y :: t, k, l, r, h => by
  rw [jz] at h;rw [cond_eq_ite] at h
  split at h
  ·exact qic a1 a2 t _ _ _ h
  ·exact qm3 (fun x l r h => qic a1 a2 t x l r h) _ _ _ _ _ _ _ h
theorem q5c {a0 : List S2062} {a1 : List S1079} {a2 : S115} {r : List Bool} (h : qt6 a0 a1 a2 = some r) : r.length = 1440 := qic a1 a2 a0 0 _ _ h
def q0n (a0 : List S2062) (a1 : List S1079) (a2 : S115) : Option (Bool × Int) :=
 zc (qgw a0 a1) fun r1 => (bif decide ((vr [r1, (qcx a2)]) ≠ 0) then some (false, (vr [r1, (qcx a2)])) else zc (qt6 a0 a1 a2) fun r2 => zc (qzs r2 a2.Minute) fun r3 => some (r3, 0))
theorem zdt {g : GL} (a0 : List S2062) (a1 : List S1079) (a2 : S115) {R : Bool × Int}  (hb : a1.length ≤ 1000) (hR : q0n a0 a1 a2 = some R) : Con (EG g) 156 [G.sl 11 (List.map S2062.c a0), G.sl 7 (List.map S1079.c a1), G.agg (S115.c a2)] (G.tup [G.bool R.1, G.int R.2]) := by
 unfold q0n at hR;refine qm Tryz.func156 U U fun w0 M0 => ?_;refine zu (f := S2062.c) (l := a0) 0 U fun hla0 => ?_;refine zu (f := S1079.c) (l := a1) 1 U fun hla1 => ?_;refine qb<|qa [.p, .p, .p]<|su (zi U U) U<|sa U U<|sa U U<|qd<|qb<|qb ?_;obtain ⟨r1, br1, hR⟩ := qh hR;refine zr [.p, .p, .p, .p, .p, .p, .p, .p] (by kernel_rfl)<|sm U U<|sm U U<|su (qg U q2u U (q31 a0 a1 br1) (qe U (qe U qk))) U<|su (qr U qab U U U) U<|su (qg U q5p U (q67 a2) (qe U qk)) U ?_;refine su (qt U Tryz.underlying170 ty37 z37 U (qx U (qx U jp)) U (by simp []) (by decide)) U ?_;refine su (qg U qjy U (qk0 [r1, (qcx a2)]) (qe U qk)) U<|sa U U<|qd<|qb<|qa [.p, .p]<|sm U U<|su (zx U U U) U<|qd ?_;refine ql _ U (fun h1 => ?_) (fun h1 => ?_)
 ·replace h1 : (decide ((vr [r1, (qcx a2)]) ≠ 0)) = true := h1;replace hR := zk hR h1;(try simp only [bB] at h1);refine qb<|qa [.p, .p, .p]<|sm U U<|sa U U<|sa U U<|qd<|qo ?_;obtain rfl := Option.some.inj hR;exact resN U ⟨rv_g U, rv_g U, O⟩ (by simp)
 ·replace h1 : (decide ((vr [r1, (qcx a2)]) ≠ 0)) = false := h1;replace hR := zl hR h1;(try simp only [bB] at h1);obtain ⟨hlen, hlim, hms, hmv, hrq⟩ := q5b hb br1 h1;refine qn<|qb ?_;obtain ⟨r2, br2, hR⟩ := qh hR;refine qa [.p, .p, .p, .p, .p]<|sm U U<|sm U U<|su (qr U qab U U U) U<|su (qg U q91 U (zb3 a0 a1 a2 (by omega) hlim hms hrq br2) (qe U (qe U (qe U qk)))) U<|sa U U<|qd<|qb ?_;obtain ⟨r3, br3, hR⟩ := qh hR;refine qa [.p, .p, .p, .p, .p, .p]<|sm U U<|su (qc U qha U) U<|su (qf U ty3 U) U<|su (qg U q92 U (zbz r2 a2.Minute (q5c br2) br3) (qe U (qe U qk))) U<|sa U U<|sa U U<|qd<|qo ?_;obtain rfl := Option.some.inj hR;exact resN U ⟨rv_g U, rv_g U, O⟩ (by simp)
def qxp (a0 : List S2062) (a1 : List S1079) (a2 : S115) : Option Bool :=
 zc (q0n a0 a1 a2) fun r1 => some ((decide (r1.2 = 0)) && r1.1)
theorem zdu {g : GL} (a0 : List S2062) (a1 : List S1079) (a2 : S115) {R : Bool}  (hb : a1.length ≤ 1000) (hR : qxp a0 a1 a2 = some R) : Con (EG g) 110 [G.sl 11 (List.map S2062.c a0), G.sl 7 (List.map S1079.c a1), G.agg (S115.c a2)] (G.bool R) := by
 unfold qxp at hR;refine qm Tryz.func110 U U fun w0 M0 => ?_;refine zu (f := S2062.c) (l := a0) 0 U fun hla0 => ?_;refine zu (f := S1079.c) (l := a1) 1 U fun hla1 => ?_;refine qb<|qa [.p, .p]<|su (zi U U) U<|sa U U<|qd<|qb ?_;obtain ⟨r1, br1, hR⟩ := qh hR;refine qa [.p, .p, .p, .p, .p, .p, .p, .p, .p]<|sm rfl rfl<|sm rfl rfl<|su (qr rfl qab rfl rfl rfl) rfl<|su (qg rfl zaw rfl (zdt a0 a1 a2 (by first | assumption | omega | (simp [qi]; done) | (simp [qi]; omega)) br1) (qe rfl (qe rfl (qe rfl qk)))) rfl<|sm rfl rfl<|su (qv rfl rfl rfl) rfl<|su (qv rfl rfl rfl) rfl<|sa rfl rfl<|sa rfl rfl<|qd<|qb<|qa [.p, .p, .p, .p, .p, .p]<|sm rfl rfl<|su (jn rfl rfl rfl) rfl<|sm rfl rfl<|sg rfl rfl (fun h => qj rfl rfl) rfl<|su (zt rfl rfl rfl rfl) rfl<|sa rfl rfl<|qd<|qo ?_;obtain rfl := Option.some.inj hR;exact za U (rv_g U)
def qwr (a0 : S5042) (a1 : List S2062) (a2 : S115) : Option (S5042 × Int) :=
 (bif decide ((vu [(qdt a2), (jv (qfg a0 a2.Name) 9), (jv (decide (64 ≤ (List.length a0.Slots : Int))) 5)]) ≠ 0) then some ((S5042.mk [] []), (vu [(qdt a2), (jv (qfg a0 a2.Name) 9), (jv (decide (64 ≤ (List.length a0.Slots : Int))) 5)])) else zc (qfx a0 (-1)) fun r1 => zc (qxp a1 r1 a2) fun r2 => (bif !r2 then some ((S5042.mk [] []), 14) else zc (qqf a0) fun r3 => some ((S5042.mk (r3.Slots ++ [(S5100.mk (S115.mk a2.Name a2.Carrier a2.Kind a2.Terminal a2.Partner a2.Link (S45.mk a2.Period.fFrom a2.Period.fTo a2.Period.Days) a2.Minute a2.Seats a2.Size a2.Noise) a2.Carrier [] [])]) r3.Waiting), 0)))
theorem zdv {g : GL} (a0 : S5042) (a1 : List S2062) (a2 : S115) {R : S5042 × Int}  (hb : a0.Slots.length ≤ 1000) (hb1 : a0.Waiting.length ≤ 1000) (hmv : ∀ r, qfx a0 (-1) = some r → r.length ≤ 1000) (hR : qwr a0 a1 a2 = some R) : Con (EG g) 51 [G.agg [G.sl 16 (List.map S5100.c a0.Slots), G.sl 14 (List.map S5072.c a0.Waiting)], G.sl 11 (List.map S2062.c a1), G.agg (S115.c a2)] (G.tup [G.agg [G.sl 16 (List.map S5100.c R.1.Slots), G.sl 14 (List.map S5072.c R.1.Waiting)], G.int R.2]) := by
 unfold qwr at hR;refine qm Tryz.func51 U U fun w0 M0 => ?_;refine zu (f := S2062.c) (l := a1) 1 U fun hla1 => ?_;refine qb<|qa [.p, .p, .w, .p]<|su (zi U U) U<|su (zi U U) U<|sw (zm 6 U qbm U U) U<|sa U U<|qd<|qb<|qb<|zr [.p, .p, .p, .p, .p, .p, .p, .p, .p, .p, .p, .p, .p, .p, .p] (by kernel_rfl)<|su (qr U qab U U U) U<|su (qg U q24 U (q42 a2) (qe U qk)) U<|su (qr U jc U U U) U<|su (qc U kh U) U<|su (qf U ty9 U) U<|su (qg U zak U (zcn a0 a2.Name) (qe U (qe U qk))) U<|su (qg U qfc U (qfh (qfg a0 a2.Name) 9) (qe U (qe U qk))) U<|su (qc U xw U) U<|su (qf U qc1 U) U<|su (zb (f := S5100.c) (l := a0.Slots) U Tryz.underlying40 U) U<|su (xo U U U) U<|su (qg U qfc U (qfh (decide (64 ≤ (List.length a0.Slots : Int))) 5) (qe U (qe U qk))) U ?_;refine su (qt U Tryz.underlying170 ty37 z37 U (qx U (qx U (qx U jp))) U (by simp []) (by decide)) U ?_;refine su (qg U qip U (qjc [(qdt a2), (jv (qfg a0 a2.Name) 9), (jv (decide (64 ≤ (List.length a0.Slots : Int))) 5)]) (qe U qk)) U<|sa U U<|qd<|qb<|qa [.p, .p]<|sm U U<|su (zx U U U) U<|qd ?_;refine ql _ U (fun h1 => ?_) (fun h1 => ?_)
 ·replace h1 : (decide ((vu [(qdt a2), (jv (qfg a0 a2.Name) 9), (jv (decide (64 ≤ (List.length a0.Slots : Int))) 5)]) ≠ 0)) = true := h1;replace hR := zk hR h1;(try simp only [bB] at h1);refine qb<|qa [.p, .p, .w, .p]<|su (qgt (x := G.agg [G.lit (.slice none 0 0), G.lit (.slice none 0 0)]) (y := G.agg [G.sl 16 (List.map S5100.c []), G.sl 14 (List.map S5072.c [])]) (jk U qbm U qfi kx U) (qfy ⟨qaw 16, qaw 14, O⟩)) U<|sm U U<|je U U (qw (tv := .g (G.agg [G.sl 16 (List.map S5100.c []), G.sl 14 (List.map S5072.c [])])) U jc U U U U U)<|sa U U<|qd<|qo ?_;obtain rfl := Option.some.inj hR;exact resN U ⟨qad U U jc U U, rv_g U, O⟩ (by simp)
 ·replace h1 : (decide ((vu [(qdt a2), (jv (qfg a0 a2.Name) 9), (jv (decide (64 ≤ (List.length a0.Slots : Int))) 5)]) ≠ 0)) = false := h1;replace hR := zl hR h1;(try simp only [bB] at h1);refine qn<|qb<|qb ?_;obtain ⟨r1, br1, hR⟩ := qh hR;obtain ⟨r2, br2, hR⟩ := qh hR;refine zr [.p, .p, .p, .p, .p, .p] (by kernel_rfl)<|sm U U<|su (qr U jc U U U) U<|su (qg U q54 U (q8f a0 (-1) U (by omega) br1) (qe U (qe U qk))) U<|su (qr U qab U U U) U<|su (qg U zal U (zdu a1 r1 a2 (hmv _ br1) br2) (qe U (qe U (qe U qk)))) U<|su (jo U U) U<|qd ?_;refine ql _ U (fun h2 => ?_) (fun h2 => ?_)
  ·replace h2 : (!r2) = true := h2;replace hR := zk hR h2;(try simp only [bB] at h2);refine qb<|qa [.p, .w, .p]<|su (qgt (x := G.agg [G.lit (.slice none 0 0), G.lit (.slice none 0 0)]) (y := G.agg [G.sl 16 (List.map S5100.c []), G.sl 14 (List.map S5072.c [])]) (jk U qbm U qfi kx U) (qfy ⟨qaw 16, qaw 14, O⟩)) U<|je U U (qw (tv := .g (G.agg [G.sl 16 (List.map S5100.c []), G.sl 14 (List.map S5072.c [])])) U jc U U U U U)<|sa U U<|qd<|qo ?_;obtain rfl := Option.some.inj hR;exact resN U ⟨qad U U jc U U, rv_g U, O⟩ (by simp)
  ·replace h2 : (!r2) = false := h2;replace hR := zl hR h2;(try simp only [bB] at h2);refine qn<|qb ?_;obtain ⟨r3, br3, hR⟩ := qh hR;refine qa [.p, .w, .w, .w]<|su (qr rfl jc rfl rfl rfl) rfl<|sw (ql9 (f0 := S5100.c) (l := r3.Slots) 36 rfl q57 rfl (q2m a0 (by first | assumption | omega | (simp [qi]; done) | (simp [qi]; omega)) (by first | assumption | omega | (simp [qi]; done) | (simp [qi]; omega)) br3) (qe rfl qk) rfl) rfl<|sw (zm 9 rfl qbm rfl rfl) rfl<|je rfl rfl (qw (tv := .agl [] 36 16 (List.length r3.Slots) [G.sl 14 (List.map S5072.c r3.Waiting)]) rfl jc rfl rfl rfl rfl rfl)<|qd ?_
   have hl3 : r3.Slots.length ≤ 1000 := by rw [qjv br3]; exact hb
   refine qb<|qa [.p, .r, .p, .p, .p, .p, .p, .k, .p, .w]<|su (qu U xw U) U<|sr (zo U qc1 U U U) U<|su (qr U qab U U U) U<|su (qc U qj0 U) U<|su (qf U ty9 U) U<|su (qgt (x := G.agg [G.str a2.Name, G.str a2.Carrier, G.str a2.Kind, G.str a2.Terminal, G.str a2.Partner, G.str a2.Link, G.int a2.Period.fFrom, G.int a2.Period.fTo, G.int a2.Period.Days, G.int a2.Minute, G.int a2.Seats, G.int a2.Size, G.int a2.Noise, G.str a2.Carrier, G.lit (.slice none 0 0), G.lit (.slice none 0 0)]) (y := G.agg [G.str a2.Name, G.str a2.Carrier, G.str a2.Kind, G.str a2.Terminal, G.str a2.Partner, G.str a2.Link, G.int a2.Period.fFrom, G.int a2.Period.fTo, G.int a2.Period.Days, G.int a2.Minute, G.int a2.Seats, G.int a2.Size, G.int a2.Noise, G.str a2.Carrier, G.sl 3 (List.map S5102.c []), G.sl 1 (List.map cStr [])]) (jk U qj4 U q09 (zp U (zp U kx)) U) (qfy ⟨xy _, xy _, xy _, xy _, xy _, xy _, xy _, xy _, xy _, xy _, xy _, xy _, xy _, xy _, qaw 3, qaw 1, O⟩)) U ?_;refine su (qt U Tryz.underlying40 xd qj4 U (qx U jp) U (by exact lens rfl) (by decide)) U ?_;refine st_k U U (qcj 9 0 U (xb (f := S5100.c) (out := r3.Slots) (new := [(S5100.mk (S115.mk a2.Name a2.Carrier a2.Kind a2.Terminal a2.Partner a2.Link (S45.mk a2.Period.fFrom a2.Period.fTo a2.Period.Days) a2.Minute a2.Seats a2.Size a2.Noise) a2.Carrier [] [])]) U qm4 U U (qa6 U (qa5 (by decide) (by simp [S5100.c, S115.c, S45.c, S5102.c]))) (qq5 U) (by simp; omega))) U ?_;refine su (qu U xw U) U<|je U U (qw (tv := .osl 36 16 0 (List.length (r3.Slots ++ [(S5100.mk (S115.mk a2.Name a2.Carrier a2.Kind a2.Terminal a2.Partner a2.Link (S45.mk a2.Period.fFrom a2.Period.fTo a2.Period.Days) a2.Minute a2.Seats a2.Size a2.Noise) a2.Carrier [] [])]))) U qc1 U U U U U)<|qd<|qb<|qds (l := [(6, .ptr 6 0), (9, .ptr 9 0)]) (m := [(6, .box [.g (G.lit (.slice none 0 0)), .g (G.lit (.slice none 0 0))]), (9, .box [.g (G.sl 16 (List.map S5100.c (r3.Slots ++ [(S5100.mk (S115.mk a2.Name a2.Carrier a2.Kind a2.Terminal a2.Partner a2.Link (S45.mk a2.Period.fFrom a2.Period.fTo a2.Period.Days) a2.Minute a2.Seats a2.Size a2.Noise) a2.Carrier [] [])]))), .g (G.sl 14 (List.map S5072.c r3.Waiting))])]) 9 0 36 16 _ U U U ((List.length_map ..).trans U) ⟨U, U, O⟩ ⟨U, U, O⟩ U U<|qa [.r, .w, .p]<|sr (zj U jc U U U U) U<|je U U (qw (tv := .g (G.agg [G.sl 16 (List.map S5100.c (r3.Slots ++ [(S5100.mk (S115.mk a2.Name a2.Carrier a2.Kind a2.Terminal a2.Partner a2.Link (S45.mk a2.Period.fFrom a2.Period.fTo a2.Period.Days) a2.Minute a2.Seats a2.Size a2.Noise) a2.Carrier [] [])])), G.sl 14 (List.map S5072.c r3.Waiting)])) U jc U U U U U)<|sa U U<|qd<|qo ?_;obtain rfl := Option.some.inj hR;exact resN U ⟨qad U U jc U U, rv_g U, O⟩ (by simp)
def qfe (a0 : List S2062) (a1 : S5042) (a2 : S115) : Option (S5042 × Int) :=
 zc (qp2 a1) fun r1 => (bif decide ((vu [(qa8 a0), r1]) ≠ 0) then some ((S5042.mk [] []), (vu [(qa8 a0), r1])) else zc (qwr a1 a0 a2) fun r2 => some (r2.1, r2.2))
theorem q3i {g : GL} (a0 : List S2062) (a1 : S5042) (a2 : S115) {R : S5042 × Int}  (hb : a1.Slots.length ≤ 1000) (hb1 : a1.Waiting.length ≤ 1000) (hmv : ∀ r, qfx a1 (-1) = some r → r.length ≤ 1000) (hR : qfe a0 a1 a2 = some R) : Con (EG g) 18 [G.sl 11 (List.map S2062.c a0), G.agg [G.sl 16 (List.map S5100.c a1.Slots), G.sl 14 (List.map S5072.c a1.Waiting)], G.agg (S115.c a2)] (G.tup [G.agg [G.sl 16 (List.map S5100.c R.1.Slots), G.sl 14 (List.map S5072.c R.1.Waiting)], G.int R.2]) := by
 unfold qfe at hR;refine qm Tryz.func18 U U fun w0 M0 => ?_;refine zu (f := S2062.c) (l := a0) 0 U fun hla0 => ?_;refine qb<|qa [.p, .p, .w, .p]<|su (zi U U) U<|su (zi U U) U<|sw (zm 6 U qbm U U) U<|sa U U<|qd<|qb<|qb ?_;obtain ⟨r1, br1, hR⟩ := qh hR;refine zr [.p, .p, .p, .p, .p, .p, .p] (by kernel_rfl)<|sm U U<|su (qg U q5s U (q65 a0) (qe U qk)) U<|su (qr U jc U U U) U<|su (qg U q22 U (q4g a1 br1) (qe U qk)) U ?_;refine su (qt U Tryz.underlying170 ty37 z37 U (qx U (qx U jp)) U (by simp []) (by decide)) U ?_;refine su (qg U qip U (qjc [(qa8 a0), r1]) (qe U qk)) U<|sa U U<|qd<|qb<|qa [.p, .p]<|sm U U<|su (zx U U U) U<|qd ?_;refine ql _ U (fun h1 => ?_) (fun h1 => ?_)
 ·replace h1 : (decide ((vu [(qa8 a0), r1]) ≠ 0)) = true := h1;replace hR := zk hR h1;(try simp only [bB] at h1);refine qb<|qa [.p, .p, .w, .p]<|su (jk U qbm U qfi kx U) U<|sm U U<|je U U (qw (tv := .g (G.agg [G.lit (.slice none 0 0), G.lit (.slice none 0 0)])) U jc U U U U U)<|sa U U<|qd<|qo ?_;obtain rfl := Option.some.inj hR;exact resN U ⟨q1x (qad U U jc U U) (qfy ⟨qaw _, qaw _, O⟩), rv_g U, O⟩ (by simp)
 ·replace h1 : (decide ((vu [(qa8 a0), r1]) ≠ 0)) = false := h1;replace hR := zl hR h1;(try simp only [bB] at h1);refine qn<|qb ?_;obtain ⟨r2, br2, hR⟩ := qh hR;refine qa [.p, .p, .p, .p, .p, .p, .w, .p]<|su (qr rfl jc rfl rfl rfl) rfl<|sm rfl rfl<|su (qr rfl qab rfl rfl rfl) rfl<|su (qg rfl q9z rfl (zdv a1 a0 a2 (by first | assumption | omega | (simp [qi]; done) | (simp [qi]; omega)) (by first | assumption | omega | (simp [qi]; done) | (simp [qi]; omega)) (by first | assumption | omega | (simp [qi]; done) | (simp [qi]; omega)) br2) (qe rfl (qe rfl (qe rfl qk)))) rfl<|su (qv rfl rfl rfl) rfl<|su (qv rfl rfl rfl) rfl<|je rfl rfl (qw (tv := .g (G.agg [G.sl 16 (List.map S5100.c r2.1.Slots), G.sl 14 (List.map S5072.c r2.1.Waiting)])) rfl jc rfl rfl rfl rfl rfl)<|sa rfl rfl<|qd<|qo ?_;obtain rfl := Option.some.inj hR;exact resN U ⟨qad U U jc U U, rv_g U, O⟩ (by simp)
def qrd (a0 : S2068) (a1 : List S2062) : Option Bool :=
 zc (ixO a1 a0.Limit) fun y1 => some (decide (y1.Most ≤ a0.Count))
theorem zdw {g : GL} (a0 : S2068) (a1 : List S2062) {R : Bool}   (hR : qrd a0 a1 = some R) : Con (EG g) 44 [G.agg (S2068.c a0), G.ref [G.sl 11 (List.map S2062.c a1)]] (G.bool R) := by
 unfold qrd at hR;refine qm Tryz.func44 U U fun w0 M0 => ?_;refine qb<|qa [.p, .p]<|su (zi U U) U<|sa U U<|qd<|qb ?_;obtain ⟨y1, by1, hR⟩ := qh hR;refine zr [.p, .p, .p, .p, .p, .p, .p, .p, .p, .p] (by kernel_rfl)<|su (qc U qeq U) U<|su (qf U ty3 U) U<|su (qf U qow U) U<|su (qc U qf4 U) U<|su (qf U ty3 U) U<|su (z5 (f := S2062.c) (l := a1) (a := y1) U Tryz.underlying22 vy U U (jj by1) (zh by1)) U<|su (qc U qf7 U) U<|su (qf U ty3 U) U<|su (xo U U U) U<|sa U U<|qd<|qo ?_;obtain rfl := Option.some.inj hR;exact za U (rv_g U)
def qe5 (rec1 : Nat → (List S2068) → Option (List S2068)) (k3 : Nat) (x6 : List S2068) : Option (List S2068) :=
 rec1 (k3 + 1) x6
def w4 (a1 : S2068 → Option Bool) : List S2068 → Nat → (List S2068) → Option (List S2068)
 | [], k3, x1 => some x1
 | y4 :: t5, k3, x1 => zc (a1 y4) fun r7 => (bif r7 then qe5 (fun k_ z0_ => w4 a1 t5 k_ z0_) k3 (x1 ++ [y4]) else qe5 (fun k_ z0_ => w4 a1 t5 k_ z0_) k3 x1)
def qw1 (a0 : List S2068) (a1 : S2068 → Option Bool) : Option (List S2068) :=
 w4 a1 a0 0 []
theorem zdx {g : GL} (a0 : List S2068) (a1 : S2068 → Option Bool) {R : List S2068} {ca1 : G} {ia1 : FuncId} {ka1 : List G} (ha1 : FnIs ca1 ia1 ka1) (Ka1 : ze Tryz.prog ia1) (Ha1 : ∀ (x0 : S2068) (r : Bool), a1 x0 = some r → Con (EG g) ia1 ([G.agg (S2068.c x0)] ++ ka1) (G.bool r)) (hb : a0.length ≤ 1000000) (hR : qw1 a0 a1 = some R) : ConN (EG g) 45 [G.sl 3 (List.map S2068.c a0), ca1] 60 3 (List.map S2068.c R) := by
 unfold qw1 at hR;refine qdp Tryz.func45 U U fun w0 M0 => ?_;refine zu (f := S2068.c) (l := a0) 0 U fun hla0 => ?_;refine qb<|qa [.w]<|sw (xa 4 60 3 U U U) U<|qd<|qb<|qa [.w]<|sw (xa 5 60 3 U U U) U<|qd<|qb<|qb<|qa [.p, .p, .p]<|sm U U<|su (zb (f := S2068.c) (l := a0) U Tryz.underlying56 U) U<|sm U U<|qd<|qp<|zf (γ := Nat × (List S2068) × (List S2068)) (fun g => ([(1, .g (ca1)), (5, .osl 5 3 0 (List.length g.2.2)), (8, .g (G.sl 3 (List.map S2068.c a0))), (9, .g (G.int (List.length a0 : Int))), (10, .g (G.int ((g.1 : Nat) : Int)))], [(5, .arr 60 3 (List.map S2068.c g.2.2))])) (fun g => g.2.2.length ≤ g.1 ∧ g.1 ≤ a0.length ∧ g.2.2.length ≤ g.1 ∧ a0.drop g.1 = g.2.1 ∧ w4 a1 g.2.1 g.1 g.2.2 = some R) (fun g => List.length g.2.1) ⟨U, (0, a0, []), jA, ⟨U, O⟩, U, ⟨iH, iH, iH, U, (by exact hR)⟩, O⟩ ?_
 ·rintro ⟨k3, t5, x1⟩ ⟨iv1_0, iv1_1, iv1_2, hd, hR⟩;replace hd : a0.drop k3 = t5 := hd;replace hR : w4 a1 t5 k3 x1 = some R := hR;replace iv1_0 : x1.length ≤ k3 := iv1_0;replace iv1_1 : k3 ≤ a0.length := iv1_1;replace iv1_2 : x1.length ≤ k3 := iv1_2;refine qb<|qa [.p]<|su (zd U U U) U<|qd ?_;refine zu (f := S2068.c) (l := a0) 8 U fun hlz1 => ?_;refine qb ?_;refine ql _ U (fun h1 => ?_) (fun h1 => ?_)
  ·replace h1 : (decide (((k3 : Nat) : Int) < (List.length a0 : Int))) = true := h1;obtain ⟨y4, t5, rfl, hx1, hd⟩ := zq hd (decT h1);replace h1 := decT h1;rw [w4] at hR;(try dsimp only at hR);refine qn ?_;refine ko (γ := (List S2068)) (fun g => ([(1, .g (ca1)), (5, .osl 5 3 0 (List.length g)), (8, .g (G.sl 3 (List.map S2068.c a0))), (9, .g (G.int (List.length a0 : Int))), (10, .g (G.int ((k3 : Nat) : Int)))], [(5, .arr 60 3 (List.map S2068.c g))])) (fun g => g.length ≤ k3 + 1 ∧ qe5 (fun k_ z0_ => w4 a1 t5 k_ z0_) k3 g = some R) ?_ ?_
   ·refine qp<|qb<|qa [.p, .p, .w, .w]<|su (z5 (f := S2068.c) (l := a0) (a := y4) U Tryz.underlying56 qak U U (Int.natCast_nonneg _) hx1) U<|su (qr U qak U U U) U<|sw (zm 7 U qj5 U U) U<|je U U (qw (tv := .g (G.agg (S2068.c y4))) U qak U U U U U)<|qd<|qb ?_;obtain ⟨r7, br7, hR⟩ := qh hR;refine qa [.p, .r, .p]<|sm U U<|sr (zj U qak U U U U) U<|su (xi U ha1 Ka1 U (Ha1 y4 _ br7) (qe U qk)) U<|qd ?_;refine ql _ U (fun h3 => ?_) (fun h3 => ?_)
    ·replace h3 : (r7) = true := h3;replace hR := zk hR h3;(try simp only [bB] at h3);refine qa [.p, .r, .p, .k, .p]<|su (zg U U) U<|sr (zj U qak U U U U) U ?_;refine su (qt U Tryz.underlying56 qak qj5 U (qx U jp) U (by simp [S2068.c]) (by decide)) U ?_;refine st_k U U (xb (f := S2068.c) (out := x1) (new := [y4]) U qus U U (qa6 U (qa5 (by decide) (by simp [S2068.c]))) (qkq U) (by simp; omega)) U ?_;refine su (ja U U) U<|qd ?_;exact ⟨U, x1 ++ [y4], jA, ⟨U, O⟩, U, ⟨iB, hR⟩, O⟩
    ·replace h3 : (r7) = false := h3;replace hR := zl hR h3;(try simp only [bB] at h3);refine qn ?_;exact ⟨U, x1, jA, ⟨U, O⟩, U, ⟨iB, hR⟩, O⟩
   ·rintro x6 ⟨jv1_0, hR⟩;replace jv1_0 : x6.length ≤ k3 + 1 := jv1_0;replace hR : qe5 (fun k_ z0_ => w4 a1 t5 k_ z0_) k3 x6 = some R := hR;unfold qe5 at hR;refine qa [.p, .p]<|su (zn U U U iE) U<|sm U U<|qd ?_;exact ⟨U, (k3 + 1, t5, x6), jA, ⟨U, O⟩, U, ⟨iB, iB, iB, hd, hR⟩, by simp⟩
  ·replace h1 : (decide (((k3 : Nat) : Int) < (List.length a0 : Int))) = false := h1;obtain rfl := zz hd (decF h1);rw [w4] at hR;refine zw<|qb<|qa [.p, .p]<|su (zg U U) U<|su (ja U U) U<|qd<|qo ?_;obtain rfl := Option.some.inj hR;exact qee U U U ((List.length_map ..).trans U)
theorem zdy {g : GL} (a0 : List S2068) (a1 : S2068 → Option Bool) {R : List S2068} {ca1 : G} {ia1 : FuncId} {ka1 : List G} (ha1 : FnIs ca1 ia1 ka1) (Ka1 : ze Tryz.prog ia1) (Ha1 : ∀ (x0 : S2068) (r : Bool), a1 x0 = some r → Con (EG g) ia1 ([G.agg (S2068.c x0)] ++ ka1) (G.bool r)) (hb : a0.length ≤ 1000000) (hR : qw1 a0 a1 = some R) : Con (EG g) 45 [G.sl 3 (List.map S2068.c a0), ca1] (G.sl 3 (List.map S2068.c R)) :=
 ConN.con (by decide) (zdx a0 a1 ha1 Ka1 Ha1 hb hR)
def qu4 (a0 : List S2062) (a1 : List S1079) (a2 : S1079) : Option ((List S2068) × Int) :=
 zc (qgw a0 a1) fun r1 => (bif decide ((vr [r1, (qbl a2)]) ≠ 0) then some ([], (vr [r1, (qbl a2)])) else zc (qw1 (arL a1 a2 a0 0) (fun x0 => qrd x0 a0)) fun r2 => some (r2, 0))
theorem zbc {g : GL} (a0 : List S2062) (a1 : List S1079) (a2 : S1079) {R : (List S2068) × Int}  (hb : a1.length ≤ 1000) (hR : qu4 a0 a1 a2 = some R) : Con (EG g) 14 [G.sl 11 (List.map S2062.c a0), G.sl 7 (List.map S1079.c a1), G.agg (S1079.c a2)] (G.tup [G.sl 3 (List.map S2068.c R.1), G.int R.2]) := by
 unfold qu4 at hR;refine qm Tryz.func14 U U fun w0 M0 => ?_;refine zu (f := S2062.c) (l := a0) 0 U fun hla0 => ?_;refine zu (f := S1079.c) (l := a1) 1 U fun hla1 => ?_;refine qb<|qa [.p, .p, .p, .p]<|su (zi U U) U<|su (zi U U) U<|sa U U<|sa U U<|qd<|qb<|qb ?_;obtain ⟨r1, br1, hR⟩ := qh hR;refine zr [.p, .p, .p, .p, .p, .p, .p, .p] (by kernel_rfl)<|su (qf U qow U) U<|sm U U<|su (qg U q2u U (q31 a0 a1 br1) (qe U (qe U qk))) U<|su (qr U z7 U U U) U<|su (qg U q2w U (q40 a2) (qe U qk)) U ?_;refine su (qt U Tryz.underlying170 ty37 z37 U (qx U (qx U jp)) U (by simp []) (by decide)) U ?_;refine su (qg U qjy U (qk0 [r1, (qbl a2)]) (qe U qk)) U<|sa U U<|qd<|qb<|qa [.p, .p]<|sm U U<|su (zx U U U) U<|qd ?_;refine ql _ U (fun h1 => ?_) (fun h1 => ?_)
 ·replace h1 : (decide ((vr [r1, (qbl a2)]) ≠ 0)) = true := h1;replace hR := zk hR h1;(try simp only [bB] at h1);refine qb<|qa [.p, .p, .p]<|sm U U<|sa U U<|sa U U<|qd<|qo ?_;obtain rfl := Option.some.inj hR;exact resN U ⟨qnu U (qki _), rv_g U, O⟩ (by simp)
 ·replace h1 : (decide ((vr [r1, (qbl a2)]) ≠ 0)) = false := h1;replace hR := zl hR h1;(try simp only [bB] at h1);obtain ⟨hlen, hlim, hms, hmv, hmo⟩ := qsq hb br1 h1;have hbd := q0j (ms := a1) (m := a2) (ls := a0) (i := 0) (by omega) hlim;refine qn<|qb<|qa [.p, .p]<|su (qas U U U) U<|sa U U<|qd<|qb ?_;obtain ⟨r2, br2, hR⟩ := qh hR;refine qa [.p, .p, .p, .p, .p, .p, .p, .p, .p]<|su (qf rfl qow rfl) rfl<|sm rfl rfl<|su (qr rfl z7 rfl rfl rfl) rfl<|su (qg rfl q5v rfl (q64 a0 a1 a2) (qe rfl (qe rfl (qe rfl qk)))) rfl<|su (qg rfl q9y rfl (zby (arL a1 a2 a0 0) q5w (ql7 _ _ _ (by omega) hlim hms hmo.m0 hmo.m1) (q4w (by omega) hlim)) (qe rfl qk)) rfl<|sm rfl rfl<|su (qg rfl q9x rfl (zdy (arL a1 a2 a0 0) (fun x0 => qrd x0 a0) qho q9w (fun x0 r_ h_ => zdw x0 a0 h_) (by first | assumption | omega | (simp [qi]; done) | (simp [qi]; omega)) br2) (qe rfl (qe rfl qk))) rfl<|sa rfl rfl<|sa rfl rfl<|qd<|qo ?_;obtain rfl := Option.some.inj hR;exact resN U ⟨rv_g U, rv_g U, O⟩ (by simp)
def ke (a0 : S45) (a1 : Int) : (S45 × S45) × Int :=
 (bif decide ((s102 a0) ≠ 0) then (((S45.mk 0 0 0), (S45.mk 0 0 0)), (s102 a0)) else (bif (decide (a1 ≤ a0.fFrom)) || (decide (a0.fTo < a1)) then (((S45.mk 0 0 0), (S45.mk 0 0 0)), 30) else (((S45.mk a0.fFrom (IntKind.i64.wrap (a1 - 1)) a0.Days), (S45.mk a1 a0.fTo a0.Days)), 0)))
theorem zbd {g : GL} (a0 : S45) (a1 : Int)    : Con (EG g) 15 [G.agg (S45.c a0), G.int a1] (G.tup [G.agg [G.int ((ke a0 a1).1.1.fFrom), G.int ((ke a0 a1).1.1.fTo), G.int ((ke a0 a1).1.1.Days), G.int ((ke a0 a1).1.2.fFrom), G.int ((ke a0 a1).1.2.fTo), G.int ((ke a0 a1).1.2.Days)], G.int ((ke a0 a1).2)]) := by
 generalize hR : ke a0 a1 = R;unfold ke at hR;refine qm Tryz.func15 U U fun w0 M0 => ?_;refine qb<|qa [.p, .w, .p]<|su (zi U U) U<|sw (zm 4 U quw U U) U<|sa U U<|qd<|qb<|qb<|qa [.p, .p, .p]<|su (qr U ty46 U U U) U<|su (qg U K102 U (c102 a0) (qe U qk)) U<|sa U U<|qd<|qb<|qa [.p, .p]<|sm U U<|su (zx U U U) U<|qd ?_;refine ql _ U (fun h1 => ?_) (fun h1 => ?_)
 ·replace h1 : (decide ((s102 a0) ≠ 0)) = true := h1;replace hR := zk hR h1;(try simp only [bB] at h1);refine qb<|qa [.p, .p, .w, .p]<|su (qci U quw U Tryz.underlying63 ty46 kx U) U<|sm U U<|je U U (qw (tv := .g (G.agg [G.int 0, G.int 0, G.int 0, G.int 0, G.int 0, G.int 0])) U qj3 U U U U U)<|sa U U<|qd<|qo ?_;subst hR;exact resN U ⟨qad U U qj3 U U, rv_g U, O⟩ (by simp)
 ·replace h1 : (decide ((s102 a0) ≠ 0)) = false := h1;replace hR := zl hR h1;(try simp only [bB] at h1);refine qn<|qb<|qb<|qa [.p, .p, .p, .p, .p, .p, .p, .p, .p, .p]<|sm U U<|su (qc U qa3 U) U<|su (qf U ty3 U) U<|su (vj U U U) U<|sm U U<|sg U U (fun h => qj U U) U<|sg U U (fun h => qc U qa4 U) U<|sg U U (fun h => qf U ty3 (gd h U)) U<|sg U U (fun h => zy U (gd h U) (gd h U)) U<|su (jg U U U U) U<|qd ?_;refine ql _ U (fun h2 => ?_) (fun h2 => ?_)
  ·replace h2 : ((decide (a1 ≤ a0.fFrom)) || (decide (a0.fTo < a1))) = true := h2;replace hR := zk hR h2;(try simp only [bB] at h2);refine qb<|qa [.p, .w, .p]<|su (qci U quw U Tryz.underlying63 ty46 kx U) U<|je U U (qw (tv := .g (G.agg [G.int 0, G.int 0, G.int 0, G.int 0, G.int 0, G.int 0])) U qj3 U U U U U)<|sa U U<|qd<|qo ?_;subst hR;exact resN U ⟨qad U U qj3 U U, rv_g U, O⟩ (by simp)
  ·replace h2 : ((decide (a1 ≤ a0.fFrom)) || (decide (a0.fTo < a1))) = false := h2;replace hR := zl hR h2;(try simp only [bB] at h2);refine qn<|qb<|qa [.p, .p, .p, .p, .p, .p, .p, .p, .p, .p, .p, .p, .p, .p, .w, .p]<|su (qc U qa3 U) U<|su (qf U ty3 U) U<|sm U U<|su (kq U U U) U<|su (qc U qlu U) U<|su (qf U ty3 U) U<|su (jk U z46 U pl46 (zp U (zp U (zp U kx))) U) U<|sm U U<|su (qc U qa4 U) U<|su (qf U ty3 U) U<|su (qc U qlu U) U<|su (qf U ty3 U) U<|su (jk U z46 U pl46 (zp U (zp U (zp U kx))) U) U<|su (qci U quw U Tryz.underlying63 ty46 (zp U (zp U kx)) U) U<|je U U (qw (tv := .g (G.agg [G.int a0.fFrom, G.int (IntKind.i64.wrap (a1 - 1)), G.int a0.Days, G.int a1, G.int a0.fTo, G.int a0.Days])) U qj3 U U U U U)<|sa U U<|qd<|qo ?_;subst hR;exact resN U ⟨qad U U qj3 U U, rv_g U, O⟩ (by simp)
section
variable {E : Env} {w0 : World} {M0 : Nat → Prop}
theorem qsx {α : Type} {l : List α} {i : Nat} {a : α} (h : l[i]? = some a) : l.set i a = l := by
 obtain ⟨h1, h2⟩ := List.getElem?_eq_some_iff.1 h;rw [← h2]; exact List.set_getElem_self h1
end
section
variable {E : Env} {w0 : World} {M0 : Nat → Prop}
def ConP (E : Env) (f : FuncId) (args : List G) (e : TypeId) (k : Nat) (xs : List (List G)) (gp : G) (c : Value) : Prop :=
 ∀ w M (vs : List Value), (∀ b, M b → b < w.heap.size) → GlOk E w M → FitsT w M args vs → Calls E.P f vs.toArray w fun e' w' => ∃ v1, e' = .returned (.tuple #[v1, c]) ∧ Grow w w' ∧ NewS w.heap.size e k xs [gp] w' M v1
theorem ConP.con {f : FuncId} {args : List G} {e : TypeId} {k : Nat} {xs : List (List G)} {gp : G} {c : Value} (hk : 0 < k) (h : ConP E f args e k xs gp c) : Con E f args (.tup [.agg [.sl k xs, gp], .lit c]) :=
 fun w M vs h1 h2 h3 => (h w M vs h1 h2 h3).mono fun _ _ ⟨v1, h4, h5, h6⟩ => ⟨_, h4, h5, [v1, c], rfl, qsk hk h6, rfl, trivial⟩
def q5d (E : Env) (fn : Func) (e : TypeId) (k : Nat) (xs : List (List G)) (gp : G) (c : Value) : Exit → ASt → Prop
 | .ret, s | .normal, s => ∃ t ty t2 b g0, fn.results = #[.cell t ty, .tmp t2] ∧ tyK E.P ty = some (2, true) ∧ s.get t = .ptr b 0 ∧ s.get t2 = .g (.lit c) ∧ GSub g0 gp ∧
   ((∃ id N, qq s.mem b = some (.box [.osl id k 0 N, .g g0]) ∧ qq s.mem id = some (.arr e k xs) ∧ xs.length = N) ∨ (qq s.mem b = some (.box [.g (.lit (.slice none 0 0)), .g g0]) ∧ xs = []))
 | _, _ => False
theorem qul {f : FuncId} {fn : Func} {c : Code} {args : List G} {e : TypeId} {k : Nat} {xs : List (List G)} {gp : G} {cv : Value} (hf : E.P.funcs[f]? = some fn) (hb : fn.body = some c) (hn0 : Nat.ble args.length fn.ntmps = true)
  (h : ∀ w0 M0, AWp E w0 M0 c (q5d E fn e k xs gp cv) ⟨fn.ntmps, qdf args, []⟩) (hbw : E.bow = [] := by rfl) (hrn : E.rnd = none := by rfl) (hdf : E.mks = false := by rfl) (hnb : E.nb = 0 := by rfl) : ConP E f args e k xs gp cv := by
 intro w M vs hM hgl hv;have hn := Nat.le_of_ble_eq_true hn0;have hlen := hv.length;refine calls_of_wp hf hb ?_
 have ha : ARel E w M ⟨fn.ntmps, qdf args, []⟩ { tmps := vs.toArray ++ Array.replicate (fn.ntmps - vs.toArray.size) undef, defers := [] } w := by
  refine ⟨fun _ => U, ?_, fun _ => none, ?_, Marks.nil, ?_⟩
  ·simp; omega
  ·refine ⟨BelowX.refl _ w, hM, ?_, ?_, ?_, ?_, (fun id x h => by rw [hbw] at h; cases h), ⟨(fun b h => absurd h (qal hbw)), Nat.le_trans (Nat.le_of_eq hnb) (Nat.zero_le _)⟩, ?_⟩
   ·intro g vs hg;have := hgl g vs hg
    have hiff : ∀ b, qz M (fun _ => none) b → M b := by rintro b (h | ⟨_, _, h, _⟩); exact h; cases h
    exact ⟨⟨fun h => this.1.1 (hiff _ h), this.1.2⟩, this.2.mono (fun _ _ _ => U) (fun b _ h => hiff b h) this.1.1⟩
   ·intro _ _ h; cases h
   ·intro _ _ h; cases h
   ·intro _ _ _ _ h; cases h
   ·intro _ _ h; cases h
  ·intro i;have hv' : FitsT w (qz M (fun _ => none)) args vs := hv.mono (fun _ _ _ => rfl) (by rintro b _ (h | ⟨_, _, h, _⟩); exact h; cases h);have := qcn (ρ := fun _ => none) (fn.ntmps - vs.length) hv' i;show TRel _ _ _ (qdf args i) _;rw [Array.getD_eq_getD_getElem?];rw [show (vs.toArray ++ Array.replicate (fn.ntmps - vs.toArray.size) undef) = (vs ++ List.replicate (fn.ntmps - vs.length) undef).toArray by simp];rw [List.getElem?_toArray];exact this
 refine wp_mono (qlw (h w M _ w ha) hrn) ?_;rintro ex a' w' ⟨s', ha', hq⟩
 have fin : (∃ t ty t2 b g0, fn.results = #[.cell t ty, .tmp t2] ∧ tyK E.P ty = some (2, true) ∧ s'.get t = .ptr b 0 ∧ s'.get t2 = .g (.lit cv) ∧ GSub g0 gp ∧
   ((∃ id N, qq s'.mem b = some (.box [.osl id k 0 N, .g g0]) ∧ qq s'.mem id = some (.arr e k xs) ∧ xs.length = N) ∨ (qq s'.mem b = some (.box [.g (.lit (.slice none 0 0)), .g g0]) ∧ xs = []))) →
   a'.defers = [] ∧ ∃ v, (results fn a'.tmps).run E.P w' = .ok v w' ∧ (∃ v1, Ending.returned v = .returned (.tuple #[v1, cv]) ∧ Grow w w' ∧ NewS w.heap.size e k xs [gp] w' M v1) := by
  rintro ⟨t, ty, t2, b, g0, hr, hty, hp, hp2, hsub0, hbx⟩;obtain ⟨ρ, hm, _, ht⟩ := ha'.ex;have h1 := ht t;rw [hp] at h1;have h1b := ht t2;rw [hp2] at h1b;have h1b : a'.tmps.getD t2 undef = cv := h1b;obtain ⟨owb, g1, g2⟩ := h1
  obtain ⟨tv, hbx0⟩ : ∃ tv, qq s'.mem b = some (.box [tv, .g g0]) := by
   rcases hbx with ⟨_, _, q, _⟩ | ⟨q, _⟩
   ·exact ⟨_, q⟩
   ·exact ⟨_, q⟩
  obtain ⟨owb', eb, cs, q1, q2, q3, q4⟩ := hm.blk b _ hbx0
  have : owb' = owb := by rw [g1] at q1; simpa using q1.symm
  subst this
  match cs, q4 with
  | [sv, u], ⟨⟨r1, r2⟩, ⟨r3, r4⟩, _⟩ =>
  have hc : ∀ j v, [sv, u][j]? = some v → w'.cell? ⟨owb'.b, owb'.o + 0 + j, none⟩ = some v := by
   intro j v hj;rw [cell_of_row w' _ _ _ _ _ q3, q2]
   simpa using hj
  have hres : (results fn a'.tmps).run E.P w' = .ok (.tuple #[.agg [sv, u].toArray, cv]) w' := by
   rw [qdj, hr];have := kd hty (show [sv, u].length = 2 from rfl) hc;rw [Nat.add_zero] at this
   have g2' : a'.tmps[t]?.getD undef = .pointer (some ⟨owb'.b, owb'.o, none⟩) := by
    rw [← Array.getD_eq_getD_getElem?]; simpa using g2
   have h1b' : a'.tmps[t2]?.getD undef = cv := by rw [← Array.getD_eq_getD_getElem?]; exact h1b
   simp [qiq, g2', h1b', asAddr, this]
  refine ⟨ha'.defers hdf, _, hres, .agg [sv, u].toArray, U, hm.below.grow (fun _ => ww hbw), sv, [u], U, ?_⟩
  rcases hbx with ⟨id, N, hbx, h3, rfl⟩ | ⟨hbx, rfl⟩
  ·rw [hbx0] at hbx
   have htv : tv = .osl id k 0 xs.length := by injection hbx with hbx; injection hbx with hbx; injection hbx
   subst htv
   rcases r1 with ⟨k1, _, k2, k3⟩ | ⟨ow, k1, _, k2, p, k3, k4⟩
   ·exact .inl ⟨k3, List.eq_nil_of_length_eq_zero k2, ⟨gp.mono (hsub0 _ _ _ r3) (fun _ _ _ => U) (fun _ _ h => .inl h), r4⟩, O⟩
   ·rcases hm.blk id _ h3 with ⟨l1, l2⟩ | ⟨ow', vs', l1, l2, l3, l4, l5, l6, l7⟩
    ·rw [k1] at l1; cases l1
    ·have : ow' = ow := by rw [k1] at l1; simpa using l1.symm
     subst this;have hno : ¬ M ow'.b := fun h => qbe hm k1 (by rw [hbw]; rfl) (by unfold wn; rw [hbw]; rfl) (.inl h)
     have hnl : w.heap.size ≤ ow'.b := by
      rcases (hm.fresh id ow' k1).1 with h | h
      ·exact h
      ·exact absurd h (ww hbw)
     have hsub : ∀ b', b' < w'.heap.size → (M b' ∨ b' = ow'.b) → qz M ρ b' := fun b' _ hb' => hb'.elim .inl fun h => .inr ⟨id, ow', k1, h.symm⟩;exact .inr ⟨ow', vs', p, by simpa using k3, fun h => by simpa using k4 h, hnl, hno, l2, l3, l4, l5, l6, l7.mono (fun _ _ _ => rfl) hsub, ⟨gp.mono (hsub0 _ _ _ r3) (fun _ _ _ => rfl) hsub, r4⟩, trivial⟩
  ·rw [hbx0] at hbx
   have htv : tv = .g (.lit (.slice none 0 0)) := by injection hbx with hbx; injection hbx with hbx; injection hbx
   subst htv;exact .inl ⟨r1, U, ⟨gp.mono (hsub0 _ _ _ r3) (fun _ _ _ => U) (fun _ _ h => .inl h), r4⟩, O⟩
 cases ex with
 | ret => exact fin hq
 | normal => exact fin hq
 | _ => exact hq.elim
theorem zdz {fn : Func} {e : TypeId} {k : Nat} {g0 gp : G} {c : Value} {s : ASt} {t t2 : Nat} {ty : TypeId} {b id : Nat} {α : Type} {f : α → List G} {l : List α} {N : Nat} (hr : fn.results = #[.cell t ty, .tmp t2]) (ht : tyK E.P ty = some (2, true)) (hp : s.get t = .ptr b 0) (hp2 : s.get t2 = .g (.lit c))
  (hs : GSub g0 gp) (hb : qq s.mem b = some (.box [.osl id k 0 N, .g g0])) (hi : qq s.mem id = some (.arr e k (l.map f))) (hN : (l.map f).length = N) : q5d E fn e k (l.map f) gp c .ret s := ⟨t, ty, t2, b, g0, hr, ht, hp, hp2, hs, .inl ⟨id, N, hb, hi, hN⟩⟩
theorem qlg {fn : Func} {e : TypeId} {k : Nat} {g0 gp : G} {c : Value} {s : ASt} {t t2 : Nat} {ty : TypeId} {b : Nat} {α : Type} {f : α → List G} (hr : fn.results = #[.cell t ty, .tmp t2]) (ht : tyK E.P ty = some (2, true)) (hp : s.get t = .ptr b 0) (hp2 : s.get t2 = .g (.lit c))
  (hs : GSub g0 gp) (hb : qq s.mem b = some (.box [.g (.lit (.slice none 0 0)), .g g0])) : q5d E fn e k (([] : List α).map f) gp c .ret s := ⟨t, ty, t2, b, g0, hr, ht, hp, hp2, hs, .inr ⟨hb, rfl⟩⟩
theorem qx7 (g : G) : GSub g g := fun _ _ _ h => h
theorem qoq {k : Nat} : GSub (.lit (.slice none 0 0)) (G.sl k []) := by
 intro w M u h;have h : u = .slice none 0 0 := h;rw [h]; exact qki k w M
theorem q0x {ρ : Rho} {mem : Mem} {w w' : World} {id : Nat} {e : TypeId} {k : Nat} {xs : List (List G)} {gp : G} {v c : Value} (hm : MRel E w0 M0 ρ mem w) (hf : qq mem id = none) (hg : Grow w w') (h : NewS w.heap.size e k xs [gp] w' (qz M0 ρ) v) :
  ∃ ρ', MRel E w0 M0 ρ' ((id, .arr e k xs) :: mem) w' ∧ Kept M0 none ρ w ρ' w' ∧ TRel w' (qz M0 ρ') ρ' (.tgl id k xs.length gp (.lit c)) (.tuple #[v, c]) := by
 obtain ⟨ρ', h1, h2, h3⟩ := qsl hm hf hg h;refine ⟨ρ', h1, h2, ?_⟩;obtain ⟨vs, sv, us, q1, q2, q3, q4⟩ := h3
 match vs, q2, us, q3 with
 | [], _, [u], ⟨q3, _⟩ => exact ⟨sv, u, c, by rw [q1]; rfl, q3, rfl, q4⟩
theorem qx8 {α : Type} {f0 : α → List G} {l : List α} {o : Oper} {mem : Mem} {ev : Operand → TV} {f : FuncId} {aps : Array Operand} {ts : Array TypeId} {args : List G} {e : TypeId} {k : Nat} {gp : G} {c : Value} (id : Nat) (ho : o.op = .call ⟨.value (.func f), aps, ts⟩)
  (hk : ze E.P f) (hev : ev (.func f) = .g (.lit (.func (.func f) #[] #[]))) (hc : ConP E f args e k (l.map f0) gp c) (ha : aps.toList.map ev = args.map TV.g) (hf : qq mem id = none) : EffW E o mem ev (.tgl id k l.length gp (.lit c)) ((id, .arr e k (l.map f0)) :: mem) none := by
 intro w0 M0 ρ w e' hm hx;obtain ⟨fn, h1, h2, h3⟩ := hk
 have hef : e' (.func f) = .func (.func f) #[] #[] := by
  have := hx (.func f) (by rw [ho]; simp [Op.operands, Call.operands]);rw [hev] at this;exact this
 have hv : FitsT w (qz M0 ρ) args (aps.toList.map e') := qae (fun x hx' => hx x (by rw [ho]; simp [Op.operands, Call.operands]; exact .inr (by simpa using hx'))) ha
 have hrun : (execOp e' o).run E.P w = .ok (.enter f (aps.toList.map e').toArray) w := by
  simp [execOp, ho, resolve, hef, Deferred.ofValue, invoke, kr h1 h2 h3, ← Array.toList_map]
 rw [hrun];refine (hc w (qz M0 ρ) _ hm.lt hm.glob hv).mono ?_;rintro _ w' ⟨v, rfl, hg, hr⟩;obtain ⟨ρ', g1, g2, g3⟩ := q0x (c := c) hm hf hg hr;rw [List.length_map] at g3;exact ⟨_, U, ρ', g1, g2, g3⟩
theorem qor {o : Oper} {ev : Operand → TV} {x : Operand} {id k hi : Nat} {gp r : G} (ho : o.op = .extract x 0) (hx : ev x = .tgl id k hi gp r) (mem : Mem) : Eff E o mem ev (.agl [] id k hi [gp]) :=
 jd (fun w M ρ e hev => by
  have h1 := hev x (by rw [ho]; simp [Op.operands]);rw [hx] at h1;obtain ⟨sv, u, z, h2, h3, h4, h5⟩ := h1;refine ⟨.agg #[sv, u], ?_, [], sv, [u], U, O, ⟨h3, O⟩, h5⟩
  simp [execOp, ho, Instr.extract, h2]) mem
theorem qos {o : Oper} {ev : Operand → TV} {x : Operand} {id k hi : Nat} {gp r : G} (ho : o.op = .extract x 1) (hx : ev x = .tgl id k hi gp r) (mem : Mem) : Eff E o mem ev (.g r) :=
 jd (fun w M ρ e hev => by
  have h1 := hev x (by rw [ho]; simp [Op.operands]);rw [hx] at h1;obtain ⟨sv, u, z, h2, h3, h4, h5⟩ := h1;refine ⟨z, ?_, h4⟩
  simp [execOp, ho, Instr.extract, h2]) mem
theorem qx9 {o : Oper} {ev : Operand → TV} {x : Operand} {id k hi : Nat} {gp r : G} (ho : o.op = .move x) (h : ev x = .tgl id k hi gp r) (mem : Mem) : Eff E o mem ev (.tgl id k hi gp r) := qgb ho h mem
theorem qqi {o : Oper} {mem : Mem} {ev : Operand → TV} {f : FuncId} {aps : Array Operand} {ts : Array TypeId} {args : List G} {r : G} [Pure r] (ho : o.op = .call ⟨.value (.func f), aps, ts⟩)
  (hk : ze E.P f) (hev : ev (.func f) = .g (.lit (.func (.func f) #[] #[]))) (hc : Con E f args r)
  (ha : ∀ w0 M0 (ρ : Rho) w (e : Operand → Value), MRel E w0 M0 ρ mem w → (∀ z ∈ aps.toList, TRel w (qz M0 ρ) ρ (ev z) (e z)) → FitsT w (fun _ => False) args (aps.toList.map e)) : Eff E o mem ev (.g r) := by
 intro w0 M0 ρ w e hm hx;obtain ⟨fn, h1, h2, h3⟩ := hk
 have hef : e (.func f) = .func (.func f) #[] #[] := by
  have := hx (.func f) (by rw [ho]; simp [Op.operands, Call.operands]);rw [hev] at this;exact this
 have hv : FitsT w (fun _ => False) args (aps.toList.map e) := ha w0 M0 ρ w e hm (fun x hx' => hx x (by rw [ho]; simp [Op.operands, Call.operands]; exact .inr (by simpa using hx')));have hgl : GlOk E w (fun _ => False) := fun g vs hg => ⟨⟨fun h => h, (hm.glob g vs hg).1.2⟩, (hm.glob g vs hg).2.mono (fun _ _ _ => rfl) (fun _ _ h => h.elim) (hm.glob g vs hg).1.1⟩
 have hrun : (execOp e o).run E.P w = .ok (.enter f (aps.toList.map e).toArray) w := by
  simp [execOp, ho, resolve, hef, Deferred.ofValue, invoke, kr h1 h2 h3, ← Array.toList_map]
 rw [hrun];refine (hc w (fun _ => False) _ (fun _ h => h.elim) hgl hv).mono ?_;rintro e' w' ⟨v, rfl, g1, g2⟩;exact ⟨v, U, g1, Pure.pure g2⟩
theorem qs4 {mem : Mem} {ev : Operand → TV} {x y : Operand} {id k hi : Nat} {gp gy : G} {e : TypeId} {α : Type} {f : α → List G} {l : List α} (hx : ev x = .agl [] id k hi [gp]) (hb : qq mem id = some (.arr e k (l.map f))) (hl : l.length = hi) (hy : ev y = .g gy) :
  ∀ w0 M0 (ρ : Rho) w (e' : Operand → Value), MRel E w0 M0 ρ mem w → (∀ z ∈ #[x, y].toList, TRel w (qz M0 ρ) ρ (ev z) (e' z)) → FitsT w (fun _ => False) [G.agg [G.sl k (l.map f), gp], gy] (#[x, y].toList.map e') := by
 intro w0 M0 ρ w e' hm h;have h1 := h x (by simp);have h2 := h y (by simp);rw [hx] at h1;rw [hy] at h2;subst hl;obtain ⟨vs, sv, us, q1, q2, q3, q4⟩ := h1
 match vs, q2, us, q3 with
 | [], _, [u], ⟨⟨q3, q3'⟩, _⟩ =>
 have hsl : TRel w (qz M0 ρ) ρ (.osl id k 0 l.length) sv := by
  rcases q4 with ⟨k1, k2, k3⟩ | ⟨ow, p, k1, k2, k3, k4⟩
  ·exact .inl ⟨k1, U, k2, k3⟩
  ·exact .inr ⟨ow, k1, Nat.zero_le _, k2, p, by simpa using k3, fun h => by simpa using k4 h⟩
 have hv : qnt mem (.osl id k 0 l.length) = some (.sl k (l.map f)) := by
  simp [qnt, hb]
  rw [show l.length = (l.map f).length by simp, List.take_length]
 have hg := qn4 hm hsl hv (q3r _)
 have ho : sv.oneCell' = true := by
  obtain ⟨a, cap, h, _⟩ := hg;rw [h]; rfl
 exact ⟨⟨[sv, u], by rw [q1]; rfl, ⟨hg, ho⟩, ⟨gp.mono q3 (fun _ _ _ => rfl) (fun _ _ h => h.elim), q3'⟩, trivial⟩, gy.mono h2 (fun _ _ _ => U) (fun _ _ h => h.elim), O⟩
theorem qya {w : World} {M : Nat → Prop} {ρ : Rho} : ∀ {cs : List G} {vs : List Value}, FitsT w M cs vs → ArgsT w M ρ (cs.map TV.g) vs
 | [], [], _ => trivial
 | _ :: _, _ :: _, h => ⟨h.1, qya h.2⟩
 | [], _ :: _, h => h.elim
 | _ :: _, [], h => h.elim
theorem qum {o : Oper} {mem : Mem} {ev : Operand → TV} {f : FuncId} {z x : Operand} {ts : Array TypeId} {fv : G} {cap : List G} {k i : Nat} {b b' : Blk} {r : G} (p c : Nat) (ho : o.op = .call ⟨.value z, #[x], ts⟩)
  (hf : FnIs fv f cap) (hk : ze E.P f) (hz : ev z = .g fv) (hc : ConB E f (.eptr p k i 0 :: cap.map TV.g) [(p, b)] r [(p, b')]) (ha : ev x = .eptr c k i 0) (hl : qq mem c = some b) (hσ : qpd [(p, c)] [(p, b)] [(p, b')] = true) (hg : b.ground = true) :
  EffW E o mem ev (.g r) ((c, b') :: mem) none := by
 intro w0 M0 ρ w e hm hx;obtain ⟨fn, h1, h2, h3⟩ := hk
 have hp : qq [(p, c)] p = some c := by simp [qq]
 obtain ⟨fs, cs, hef, hfs, hcs⟩ : (G.fn (.func f) [] cap).p w (qz M0 ρ) (e z) := by
  have := hx z (by rw [ho]; simp [Op.operands, Call.operands]);rw [hz] at this;exact hf _ _ _ this
 obtain rfl : fs = [] := by cases fs with
  | nil => rfl
  | cons => exact hfs.elim
 have h4 := hx x (by rw [ho]; simp [Op.operands, Call.operands]);rw [ha] at h4;obtain ⟨ow, q1, q2⟩ := h4
 have := ql1 (res := (execOp e o).run E.P w) (vs := e x :: cs) [(p, c)] hc hm ⟨⟨c, hp, hl, hg⟩, trivial⟩ hσ (fun ρc hρ => ⟨⟨ow, (hρ p c hp).trans q1, q2⟩, qya hcs⟩) (by
  simp [execOp, ho, resolve, hef, Deferred.ofValue, invoke, kr h1 h2 h3])
 have he : renM [(p, c)] [(p, b')] ++ mem = (c, b') :: mem := by simp [renM, hp]
 rwa [he] at this
end
def qt9 (a0 : S5042) (a1 a2 : ByteArray) (a3 : Int) (ch : S5100 → S5100 × Int) : Option (S5042 × Int) :=
 (bif decide (vu [qct a1, qk3 a0 a2, a3] ≠ 0) then some (S5042.mk [] [], vu [qct a1, qk3 a0 a2, a3]) else zc (qqf a0) fun r1 => zc (ixO r1.Slots (wv r1 a2)) fun y => (bif !decide (y.Holder = a1) then some (S5042.mk [] [], 31) else (bif decide ((ch y).2 ≠ 0) then some (S5042.mk [] [], (ch y).2) else some (S5042.mk (List.set r1.Slots (Int.toNat (wv r1 a2)) (ch y).1) r1.Waiting, 0))))
theorem zd0 {g : GL} (a0 : S5042) (a1 a2 : ByteArray) (a3 : Int) (ch : S5100 → S5100 × Int) {R : S5042 × Int} {fv : G} {fi : FuncId} {fk : List G} (hf : FnIs fv fi fk) (Kf : ze Tryz.prog fi)
  (Hf : ∀ (l : List S5100) (i : Nat) (a : S5100), l[i]? = some a → a ∈ a0.Slots → ConB (EG g) fi (.eptr 0 16 i 0 :: fk.map TV.g) [(0, .arr 101 16 (l.map S5100.c))] (G.int (ch a).2) [(0, .arr 101 16 ((l.set i (ch a).1).map S5100.c))])
  (hb : a0.Slots.length ≤ 1000000) (hb1 : a0.Waiting.length ≤ 1000000) (hR : qt9 a0 a1 a2 a3 ch = some R) :
  ConP (EG g) 86 [G.agg [G.sl 16 (List.map S5100.c a0.Slots), G.sl 14 (List.map S5072.c a0.Waiting)], G.str a1, G.str a2, G.int a3, fv] 101 16 (List.map S5100.c R.1.Slots) (G.sl 14 (List.map S5072.c R.1.Waiting)) (.int .i64 R.2) := by
 unfold qt9 at hR;refine qul Tryz.func86 U U fun w0 M0 => ?_;refine qb<|qa [.p, .w, .p]<|su (zi U U) U<|sw (zm 10 U qbm U U) U<|sa U U<|qd<|qb<|qb<|zr [.p, .p, .p, .p, .p, .p, .p, .p, .p] (by kernel_rfl)<|sm U U<|su (qg U qyp U (q0k a1) (qe U qk)) U<|su (qr U jc U U U) U<|sm U U<|su (qg U q90 U (zcj a0 a2) (qe U (qe U qk))) U<|sm U U ?_;refine su (qt U Tryz.underlying170 ty37 z37 U (qx U (qx U (qx U jp))) U (by simp []) (by decide)) U ?_;refine su (qg U qip U (qjc [qct a1, qk3 a0 a2, a3]) (qe U qk)) U<|sa U U<|qd<|qb<|qa [.p, .p]<|sm U U<|su (zx U U U) U<|qd ?_;refine ql _ U (fun h1 => ?_) (fun h1 => ?_)
 ·replace h1 : decide (vu [qct a1, qk3 a0 a2, a3] ≠ 0) = true := h1;replace hR := zk hR h1;refine qb<|qa [.p, .p, .w, .p]<|su (jk U qbm U qfi kx U) U<|sm U U<|je U U (qw (tv := .g (G.agg [G.lit (.slice none 0 0), G.lit (.slice none 0 0)])) U jc U U U U U)<|sa U U<|qd<|qo ?_;obtain rfl := Option.some.inj hR;exact qlg U jc U U qoq U
 ·replace h1 : decide (vu [qct a1, qk3 a0 a2, a3] ≠ 0) = false := h1;replace hR := zl hR h1;refine qn<|qb ?_;obtain ⟨r1, br1, hR⟩ := qh hR;obtain ⟨y, by_, hR⟩ := qh hR;refine qa [.p, .w, .w, .w]<|su (qr U jc U U U) U<|sw (ql9 (f0 := S5100.c) (l := r1.Slots) 29 U q57 U (q2m a0 hb hb1 br1) (qe U qk) U) U<|sw (zm 13 U qbm U U) U<|je U U (qw (tv := .agl [] 29 16 (List.length r1.Slots) [G.sl 14 (List.map S5072.c r1.Waiting)]) U jc U U U U U)<|qd ?_
  have hmem : y ∈ a0.Slots := by rw [← qjv br1]; exact List.mem_of_getElem? (zh by_)
  refine qb<|zr [.p, .r, .r, .p, .r, .p, .p] (by kernel_rfl)<|su (qu U xw U) U<|sr (zo U qc1 U U U) U<|sr (qlf U jc U U) U<|sm U U<|sr (qqi U qyo U (q0l r1 a2) (qs4 (f := S5100.c) (l := r1.Slots) U U U U)) U<|su (ku U Tryz.underlying40 xd U U (jj by_) (jt (zh by_))) U<|su (qdx U U) U<|qd<|qb<|qb<|qa [.p, .p, .p, .r, .p, .p]<|su (qar U U) U<|su (qdv U U) U<|su (we U qjd U) U<|sr (qhi U ty9 U U (zh by_) U) U<|sm U U<|su (qbn U U U) U<|qd ?_;refine ql _ U (fun h2 => ?_) (fun h2 => ?_)
  ·replace hR := zk hR h2;refine qb<|qa [.p, .w, .p]<|su (jk U qbm U qfi kx U) U<|je U U (qw (tv := .g (G.agg [G.lit (.slice none 0 0), G.lit (.slice none 0 0)])) U jc U U U U U)<|sa U U<|qd<|qo ?_;obtain rfl := Option.some.inj hR;exact qlg U jc U U qoq U
  ·replace h2 : (!decide (y.Holder = a1)) = false := h2;replace hR := zl hR h2;refine qn<|qb<|qb<|qa [.p, .p, .w, .p]<|sm U U<|su (qar U U) U<|sw (qum 0 29 U hf Kf U (Hf r1.Slots (Int.toNat (wv r1 a2)) y (zh by_) hmem) U U U U) U<|sa U U<|qd<|qb<|qa [.p, .p]<|sm U U<|su (zx U U U) U<|qd ?_;refine ql _ U (fun h3 => ?_) (fun h3 => ?_)
   ·replace h3 : decide ((ch y).2 ≠ 0) = true := h3;replace hR := zk hR h3;refine qb<|qa [.p, .p, .w, .p]<|su (jk U qbm U qfi kx U) U<|sm U U<|je U U (qw (tv := .g (G.agg [G.lit (.slice none 0 0), G.lit (.slice none 0 0)])) U jc U U U U U)<|sa U U<|qd<|qo ?_;obtain rfl := Option.some.inj hR;exact qlg U jc U U qoq U
   ·replace h3 : decide ((ch y).2 ≠ 0) = false := h3;replace hR := zl hR h3;refine qn<|qb<|qa [.r, .w, .p]<|sr (qlf U jc U U) U<|je U U (qw (tv := .agl [] 29 16 (List.length r1.Slots) [G.sl 14 (List.map S5072.c r1.Waiting)]) U jc U U U U U)<|sa U U<|qd<|qo ?_;obtain rfl := Option.some.inj hR;exact zdz U jc U U (qx7 _) U U (by rw [List.length_map, List.length_set])
section
variable {E : Env} {w0 : World} {M0 : Nat → Prop}
theorem qot {P : Program} {w : World} {k1 k2 k3 : IntKind} {a c m len cap : Nat} (h1 : a ≤ c) (h2 : c ≤ m) (h3 : m ≤ cap) :
  (Instr.sliceBounds true len cap (some (.int k1 (a : Int))) (some (.int k2 (c : Int))) (some (.int k3 (m : Int)))).run P w = .ok (a, c, m) w := by
 simp [Instr.sliceBounds, wb (P := P) (w := w) h1, wb (P := P) (w := w) h2, wb (P := P) (w := w) h3]
theorem qou {P : Program} {w : World} {k1 k2 : IntKind} {a c len cap : Nat} (h1 : a ≤ c) (h2 : c ≤ cap) :
  (Instr.sliceBounds true len cap (some (.int k1 (a : Int))) (some (.int k2 (c : Int))) none).run P w = .ok (a, c, cap) w := by
 simp [Instr.sliceBounds, wb (P := P) (w := w) h1, wb (P := P) (w := w) h2]
theorem q5e {cur : List Value} {o n a : Nat} {news : List Value} (h1 : a + news.length ≤ n) (h2 : o + n ≤ cur.length) :
  ((setAt cur (o + a) news).drop o).take n = ((cur.drop o).take n).take a ++ news ++ ((cur.drop o).take n).drop (a + news.length) := by
 simp only [setAt];rw [List.append_assoc, List.drop_append_of_le_length (by rw [List.length_take]; omega), List.drop_take, show o + a - o = a by omega]
 have hl1 : ((cur.drop o).take a).length = a := by rw [List.length_take, List.length_drop]; omega
 rw [List.take_append, hl1, List.take_of_length_le (l := (cur.drop o).take a) (by omega)];rw [List.take_append, List.take_of_length_le (l := news) (by omega)];rw [List.take_take, Nat.min_eq_left (show a ≤ n by omega), List.append_assoc]
 congr 2
 rw [List.drop_take, List.drop_drop]
 congr 1
 ·omega
 ·congr 1; omega
theorem q5f {o : Oper} {ev : Operand → TV} {t el : TypeId} {x lo hi mx : Operand} {id k N : Nat} {a c m : Int} {b : Bool} {ka kc km : IntKind} (ho : o.op = .slice t x (some lo) (some hi) (some mx)) (ht : E.P.underlying t = some (.slice el)) (hk : tyK E.P el = some (k, b)) (hx : ev x = .osl id k 0 N)
  (hlo : ev lo = .g (.lit (.int ka a))) (hhi : ev hi = .g (.lit (.int kc c))) (hmx : ev mx = .g (.lit (.int km m))) (h0 : 0 ≤ a) (h1 : a ≤ c) (h2 : c ≤ m) (h3 : m ≤ (N : Int)) (mem : Mem) : Eff E o mem ev .any :=
 jd (fun w M ρ e' he => by
  have g1 := he x (by rw [ho]; simp [Op.operands]);have g2 := he lo (by rw [ho]; simp [Op.operands]);have g3 := he hi (by rw [ho]; simp [Op.operands]);have g4 := he mx (by rw [ho]; simp [Op.operands]);rw [hx] at g1; rw [hlo] at g2; rw [hhi] at g3; rw [hmx] at g4
  have g2 : e' lo = .int ka ((a.toNat : Nat) : Int) := by rw [Int.toNat_of_nonneg h0]; exact g2
  have g3 : e' hi = .int kc ((c.toNat : Nat) : Int) := by rw [Int.toNat_of_nonneg (by omega)]; exact g3
  have g4 : e' mx = .int km ((m.toNat : Nat) : Int) := by rw [Int.toNat_of_nonneg (by omega)]; exact g4
  obtain ⟨ad, ln, cp, hs, hN⟩ : ∃ ad ln cp, e' x = .slice ad ln cp ∧ N ≤ cp := by
   rcases g1 with ⟨_, _, q, h⟩ | ⟨ow, _, _, q, p, h, _⟩
   ·exact ⟨_, _, _, h, by omega⟩
   ·exact ⟨_, _, _, h, by omega⟩
  have hb := qot (P := E.P) (w := w) (k1 := ka) (k2 := kc) (k3 := km) (len := ln) (show a.toNat ≤ c.toNat by omega) (show c.toNat ≤ m.toNat by omega) (show m.toNat ≤ cp by omega);refine ⟨.slice (if m.toNat = a.toNat then ad else ad.map (·.add (a.toNat * k))) (c.toNat - a.toNat) (m.toNat - a.toNat), ?_, O⟩
  ·simp only [execOp, ho, hs, g2, g3, g4, Instr.sliceAt, Instr.slice, Sem.run_bind, Sem.run_map, run_underlying ht, Result.andThen_ok, Option.map_some, hb, jq hk, Sem.run_pure]) mem
theorem q5g {o : Oper} {mem : Mem} {ev : Operand → TV} {t el e : TypeId} {x lo hi : Operand} {id k M : Nat} {a c : Int} {b : Bool} {ka kc : IntKind} {xs : List (List G)} (ho : o.op = .slice t x (some lo) (some hi) none) (ht : E.P.underlying t = some (.slice el)) (hk : tyK E.P el = some (k, b)) (hx : ev x = .osl id k 0 M)
  (hlo : ev lo = .g (.lit (.int ka a))) (hhi : ev hi = .g (.lit (.int kc c))) (h0 : 0 ≤ a) (h1 : a ≤ c) (h2 : c ≤ (xs.length : Int)) (hl : qq mem id = some (.arr e k xs)) (hM : 0 < xs.length) : Eff E o mem ev (.osl id k a.toNat c.toNat) := by
 intro w0 M0 ρ w e' hm he;have g1 := he x (by rw [ho]; simp [Op.operands]);have g2 := he lo (by rw [ho]; simp [Op.operands]);have g3 := he hi (by rw [ho]; simp [Op.operands]);rw [hx] at g1; rw [hlo] at g2; rw [hhi] at g3
 have g2 : e' lo = .int ka ((a.toNat : Nat) : Int) := by rw [Int.toNat_of_nonneg h0]; exact g2
 have g3 : e' hi = .int kc ((c.toNat : Nat) : Int) := by rw [Int.toNat_of_nonneg (by omega)]; exact g3
 rcases g1 with ⟨q0, _, q, _⟩ | ⟨ow, q1, _, q2, p, q3, q4⟩
 ·rcases hm.blk id _ hl with ⟨_, k2⟩ | ⟨ow', cur, k1, _⟩
  ·rw [k2] at hM; simp at hM
  ·rw [q0] at k1; cases k1
 ·rcases hm.blk id _ hl with ⟨k1, _⟩ | ⟨ow', cur, k1, k2, k3, k4, k5, k6, k7⟩
  ·rw [q1] at k1; cases k1
  have : ow' = ow := by rw [q1] at k1; simpa using k1.symm
  subst this;rw [Nat.sub_zero] at q3;have hp := q4 (by omega);have hb := qou (P := E.P) (w := w) (k1 := ka) (k2 := kc) (len := M) (show a.toNat ≤ c.toNat by omega) (show c.toNat ≤ ow'.cap by omega)
  have hrun : (execOp e' o).run E.P w = .ok (.value (.slice (if ow'.cap = a.toNat then some ⟨ow'.b, p, none⟩ else some ⟨ow'.b, p + a.toNat * k, none⟩) (c.toNat - a.toNat) (ow'.cap - a.toNat))) w := by
   simp only [execOp, ho, q3, g2, g3, Nat.sub_zero, Instr.sliceAt, Instr.slice, Sem.run_bind, Sem.run_map, run_underlying ht, Result.andThen_ok, Option.map_none, Option.map_some, hb, jq hk, Sem.run_pure, Addr.add_lit]
  rw [hrun];refine ⟨Grow.refl w, .inr ⟨ow', q1, by omega, by omega, if ow'.cap = a.toNat then p else p + a.toNat * k, ?_, fun h => ?_⟩⟩
  ·by_cases hca : ow'.cap = a.toNat <;> simp [hca]
  ·rw [if_neg (by omega), hp, Nat.zero_mul, Nat.add_zero]
theorem q0y {o : Oper} {mem : Mem} {ev : Operand → TV} {s x : Operand} {t e : TypeId} {k by_ id a b N : Nat} {xs : List (List G)} (ho : o.op = .call ⟨.builtin .append, #[s, x], #[t, t]⟩) (ha : appK E.P t = some (e, k + 1, by_ + 1)) (hs : ev s = .osl id (k + 1) 0 a) (hx : ev x = .osl id (k + 1) b N)
  (hl : qq mem id = some (.arr e (k + 1) xs)) (hN : xs.length = N) (hab : a ≤ b) (hbN : b ≤ N) (h0 : 0 < N) :
  EffW E o mem ev (.osl id (k + 1) 0 (a + (N - b))) ((id, .arr e (k + 1) (xs.take a ++ xs.drop b ++ xs.drop (a + (N - b)))) :: mem) none := by
 intro w0 M0 ρ w e' hm he;have v1 := he s (by rw [ho]; simp [Op.operands, Call.operands]);have v2 := he x (by rw [ho]; simp [Op.operands, Call.operands]);rw [hs] at v1; rw [hx] at v2;obtain ⟨i, z, t1, t2, t3, t4, t5, t6⟩ := qec ha
 rcases hm.blk id _ hl with ⟨g1, g2⟩ | ⟨ow, cur, g1, g2, g3, g4, g5, g6, g7⟩
 ·rw [g2] at hN; simp at hN; omega
 have hcv : ∃ p, e' s = .slice (some ⟨ow.b, p, none⟩) a ow.cap ∧ (0 < ow.cap → p = ow.o) := by
  rcases v1 with ⟨h, _⟩ | ⟨ow', h, _, _, p, h4, h5⟩
  ·rw [g1] at h; cases h
  ·have : ow' = ow := by rw [g1] at h; simpa using h.symm
   subst this;exact ⟨p, by simpa using h4, by simpa using h5⟩
 have hcx : ∃ p, e' x = .slice (some ⟨ow.b, p, none⟩) (N - b) (ow.cap - b) ∧ (b < ow.cap → p = ow.o + b * (k + 1)) := by
  rcases v2 with ⟨h, _⟩ | ⟨ow', h, _, _, p, h4, h5⟩
  ·rw [g1] at h; cases h
  ·have : ow' = ow := by rw [g1] at h; simpa using h.symm
   subst this;exact ⟨p, h4, h5⟩
 obtain ⟨p, es, hp⟩ := hcv;obtain ⟨p', ex, hp'⟩ := hcx;subst hN;have hcap : ow.o + ow.cap * (k + 1) ≤ cur.size := g5.resolve_left (by omega);have hp := hp (by omega);subst hp;have hNk : xs.length * (k + 1) ≤ ow.cap * (k + 1) := Nat.mul_le_mul_right _ g3
 -- what is moved
 let news := ((cur.toList.drop ow.o).take (xs.length * (k + 1))).drop (b * (k + 1))
 have hcl : cur.toList.length = cur.size := Array.length_toList
 have hlenall : ((cur.toList.drop ow.o).take (xs.length * (k + 1))).length = xs.length * (k + 1) := by rw [List.length_take, List.length_drop, hcl]; omega
 have hbk : b * (k + 1) ≤ xs.length * (k + 1) := Nat.mul_le_mul_right _ hbN;have hak : a * (k + 1) ≤ b * (k + 1) := Nat.mul_le_mul_right _ hab;have hsub : (xs.length - b) * (k + 1) = xs.length * (k + 1) - b * (k + 1) := Nat.sub_mul _ _ _
 have hnl : news.length = (xs.length - b) * (k + 1) := by show (List.drop _ _).length = _; rw [List.length_drop, hlenall, hsub]
 have hfnew : Fits w (qz M0 ρ) (xs.drop b).flatten news := by
  have := g7.drop (b * (k + 1))
  rwa [vi b g6] at this
 have hmul : (a + (xs.length - b)) * (k + 1) = a * (k + 1) + (xs.length - b) * (k + 1) := Nat.add_mul _ _ _
 have hstore : ∃ w' cur', (execOp e' o).run E.P w = .ok (.value (.slice (some ⟨ow.b, ow.o, none⟩) (a + (xs.length - b)) ow.cap)) w' ∧ w'.heap[ow.b]? = some (.cells cur' e (0, 0)) ∧ cur'.toList = setAt cur.toList (ow.o + a * (k + 1)) news ∧ (∀ q, q ≠ ow.b → w'.heap[q]? = w.heap[q]?) ∧ w'.heap.size = w.heap.size ∧ w'.os = w.os ∧ w'.tape = w.tape ∧ w'.output = w.output := by
  have hrd : ∀ j u, news[j]? = some u → w.cell? (Addr.add ⟨ow.b, p', none⟩ j) = some u := by
   intro j u hj;have hj' := hj;have hjl : j < news.length := (List.getElem?_eq_some_iff.1 hj).1
   have hbc : b < ow.cap := by
    rcases Nat.lt_or_ge b ow.cap with h | h
    ·exact h
    ·have : xs.length - b = 0 := by omega
     rw [this] at hnl; omega
   rw [hp' hbc, Addr.add_lit, cell_of_row w _ _ _ _ _ g2];have : news[j]? = ((cur.toList.drop ow.o).take (xs.length * (k + 1)))[b * (k + 1) + j]? := List.getElem?_drop;rw [this, List.getElem?_take] at hj
   split at hj
   ·rw [List.getElem?_drop] at hj;rw [show ow.o + b * (k + 1) + j = ow.o + (b * (k + 1) + j) by omega]
    simpa using hj
   ·cases hj
  obtain ⟨w', cur', r1, r2, r3, r4, r5, r6, r7, r8⟩ := xt (P := E.P) ow.b (ow.o + a * (k + 1)) e news 0 cur w g2 (by omega) (fun u hu => hfnew.one u hu);have hf := run_firstCells_some (P := E.P) w (k + 1) (xs.length - b) ⟨ow.b, p', none⟩ (xs.length - b) (ow.cap - b) news hnl hrd;refine ⟨w', cur', ?_, r2, by rw [r3, Nat.add_zero], r4, r5, r6, r7, r8⟩
  have hroom : a + (xs.length - b) ≤ ow.cap := by omega
  have hrun : (execOp e' o) = (do pure (.value (← Builtin.append_ #[t, t] o.type #[e' s, e' x])) : Sem Next) := by simp [execOp, ho, resolve, invoke, builtin]
  rw [hrun, es, ex]
  simp [Builtin.append_, run_underlying t1, sizeOf, typeInfo, t2, Builtin.lenOf, hroom, t4, hf, Addr.add_lit, r1]
 obtain ⟨w', cur', hrun, r2, r3, r4, r5, r6, r7, r8⟩ := hstore;rw [hrun]
 have rsz : cur'.size = cur.size := by
  rw [← Array.length_toList, r3, ← Array.length_toList (xs := cur)];simp only [setAt, List.length_append, List.length_take, List.length_drop, Array.length_toList]
  omega
 have hdf : Diff ρ id w w' := ⟨r6, r7, r8, by omega, fun q _ hne => r4 q (hne ow g1)⟩
 have hM : ∀ q, q < w.heap.size → qz M0 (jh ρ id (some ow)) q → qz M0 ρ q := by
  rintro q hq (h | ⟨j, o, h, rfl⟩)
  ·exact .inl h
  ·by_cases hj : j = id
   ·subst hj; rw [qy] at h; cases h; exact .inr ⟨j, ow, g1, rfl⟩
   ·exact .inr ⟨j, o, by simpa [jh, hj] using h, rfl⟩
 have hh : ∀ q, q < w.heap.size → ¬ qz M0 ρ q → w'.heap[q]? = w.heap[q]? := fun q _ hno => r4 q fun he => hno (.inr ⟨id, ow, g1, he.symm⟩)
 have hlen : (xs.take a ++ xs.drop b ++ xs.drop (a + (xs.length - b))).length = xs.length := by simp; omega
 have hrow : (cur'.toList.drop ow.o).take (xs.length * (k + 1)) = ((cur.toList.drop ow.o).take (xs.length * (k + 1))).take (a * (k + 1)) ++ news ++ ((cur.toList.drop ow.o).take (xs.length * (k + 1))).drop ((a + (xs.length - b)) * (k + 1)) := by
  rw [r3, hmul, ← hnl];exact q5e (by rw [hnl, hsub]; omega) (by rw [hcl]; omega)
 have hfits : Fits w' (qz M0 (jh ρ id (some ow))) (xs.take a ++ xs.drop b ++ xs.drop (a + (xs.length - b))).flatten ((cur'.toList.drop ow.o).take (xs.length * (k + 1))) := by
  rw [hrow, List.flatten_append, List.flatten_append, ← xl (k := k + 1) a g6, ← vi (k := k + 1) (a + (xs.length - b)) g6];exact (((g7.take _).append hfnew).append (g7.drop _)).mono hh hM
 obtain ⟨k1, k2⟩ := j9 (id := id) (x := some ow) (blk' := .arr e (k + 1) (xs.take a ++ xs.drop b ++ xs.drop (a + (xs.length - b)))) none hm hdf (fun o ho => by cases ho; exact ⟨.inr ⟨ow, g1, rfl⟩, by rw [r5]; exact (hm.fresh id ow g1).2⟩) (.inr ⟨rfl, .inr g1⟩) (fun _ b _ _ => z4 b) (.inl rfl)
  (.inr ⟨ow, cur', qy _ _ _, r2, by rw [hlen]; exact g3, g4, g5.imp (fun h => h) (fun h => by rw [rsz]; exact h), fun c hc => by
    rcases List.mem_append.1 hc with hc | hc
    ·rcases List.mem_append.1 hc with hc | hc
     ·exact g6 c (List.mem_of_mem_take hc)
     ·exact g6 c (List.mem_of_mem_drop hc)
    ·exact g6 c (List.mem_of_mem_drop hc), by rw [hlen]; exact hfits⟩)
 exact ⟨_, k1, k2, .inr ⟨ow, qy _ _ _, Nat.zero_le _, by omega, ow.o, by simp, fun _ => by simp⟩⟩
theorem q0z {α : Type} {f0 : α → List G} {l : List α} {o : Oper} {mem : Mem} {ev : Operand → TV} {s x : Operand} {t e : TypeId} {k by_ id a b N : Nat} (ho : o.op = .call ⟨.builtin .append, #[s, x], #[t, t]⟩) (ha : appK E.P t = some (e, k + 1, by_ + 1)) (hs : ev s = .osl id (k + 1) 0 a) (hx : ev x = .osl id (k + 1) b N)
  (hl : qq mem id = some (.arr e (k + 1) (l.map f0))) (hN : l.length = N) (hab : a ≤ b) (hbN : b ≤ N) (h0 : 0 < N) :
  EffW E o mem ev (.osl id (k + 1) 0 (a + (N - b))) ((id, .arr e (k + 1) ((l.take a ++ l.drop b ++ l.drop (a + (N - b))).map f0)) :: mem) none := by
 have := q0y ho ha hs hx hl (by rw [List.length_map]; exact hN) hab hbN h0
 simpa only [List.map_append, List.map_take, List.map_drop] using this
theorem q00 {α : Type} {f0 : α → List G} {l : List α} {o : Oper} {mem : Mem} {ev : Operand → TV} {t el e : TypeId} {x lo hi : Operand} {id k M N : Nat} {a c : Int} {b : Bool} {ka kc : IntKind} (ho : o.op = .slice t x (some lo) (some hi) none) (ht : E.P.underlying t = some (.slice el)) (hk : tyK E.P el = some (k, b)) (hx : ev x = .osl id k 0 M)
  (hlo : ev lo = .g (.lit (.int ka a))) (hhi : ev hi = .g (.lit (.int kc c))) (h0 : 0 ≤ a) (h1 : a ≤ c) (hN : l.length = N) (h2 : c ≤ (N : Int)) (hl : qq mem id = some (.arr e k (l.map f0))) (hM : 0 < N) : Eff E o mem ev (.osl id k a.toNat c.toNat) :=
 q5g ho ht hk hx hlo hhi h0 h1 (by rw [List.length_map, hN]; exact h2) hl (by rw [List.length_map, hN]; exact hM)
theorem qyb {α : Type} {l : List α} {a b N : Nat} (hN : l.length = N) (hab : a ≤ b) (hbN : b ≤ N) : (l.take a ++ l.drop b ++ l.drop (a + (N - b))).length = N := by simp; omega
end
def qhx (a0 : List S5100) (a1 : Int) (a2 : Int) : (List S5100) × Nat :=
 (bif decide (a1 = a2) then (a0, List.length a0) else (List.take (Int.toNat ((((Int.toNat a1) + ((List.length a0) - (Int.toNat a2))) - (0) : Nat) : Int)) (List.take (Int.toNat a1) a0 ++ List.drop (Int.toNat a2) a0 ++ List.drop ((Int.toNat a1) + ((List.length a0) - (Int.toNat a2))) a0), (Int.toNat a1) + ((List.length a0) - (Int.toNat a2))))
theorem zd1 {g : GL} (a0 : List S5100) (a1 : Int) (a2 : Int)  (hA : 0 ≤ a1) (hAB : a1 ≤ a2) (hB : a2 ≤ (List.length a0 : Int)) (hL : a0.length ≤ 1000000)  : ConT (EG g) 91 [.osl 0 16 0 (List.length a0), .g (G.int a1), .g (G.int a2)] 101 16 (List.map S5100.c a0) (List.map S5100.c (qhx a0 a1 a2).1) (qhx a0 a1 a2).2 := by
 generalize hR : qhx a0 a1 a2 = R;unfold qhx at hR;refine qtx Tryz.func91 U U fun w0 M0 x => ?_;refine qfs (f := S5100.c) (l := a0) 0 U fun hla0 => ?_;refine qb<|qa [.w]<|sw (xa 6 101 16 U U U) U<|qd<|qb<|qa [.p, .p, .p, .p, .p, .p]<|su (zg U U) U<|sm U U<|sm U U<|su (zg U U) U<|su (qpl U Tryz.underlying40 U) U<|su (q5f U Tryz.underlying40 xd U U U U hA hAB hB (Int.le_refl _)) U<|qd<|qb<|qb<|qa [.p, .p, .p]<|sm U U<|sm U U<|su (jn U U U) U<|qd ?_;refine ql _ U (fun h1 => ?_) (fun h1 => ?_)
 ·replace hR := zk hR h1;refine qb<|qa [.p, .p]<|su (zg U U) U<|su (ja U U) U<|qd<|qo ?_;subst hR;show (∃ t_, _ ∧ _) ∧ MemL _ _;exact ⟨⟨_, U, U⟩, U, O⟩
 ·replace h1 : (decide (a1 = a2)) = false := h1;replace hR := zl hR h1;(try simp only [bB] at h1);refine qn<|qb<|qa [.p, .p, .p]<|su (zg U U) U<|su (qpl U Tryz.underlying40 U) U<|sa U U<|qd<|qb<|zr [.p, .p, .p, .p, .p, .p, .w, .p] (by kernel_rfl)<|su (zg U U) U<|sm U U<|su (qvq (a := 0) (c := Int.toNat a1) U Tryz.underlying40 xd U qc9 (qda U (by omega)) (by omega) (by omega)) U<|su (zg U U) U<|sm U U<|su (qvq (a := Int.toNat a2) (c := List.length a0) U Tryz.underlying40 xd U (qda U (by omega)) qc9 (by omega) (by omega)) U<|sw (q0z (f0 := S5100.c) (l := a0) U qm4 U U U U (by omega) (by omega) (by omega)) U<|su (ja U U) U<|qd<|qb<|qa [.p, .p, .p, .p, .r, .w]<|su (zg U U) U<|su (zg U U) U<|su (qn1 U Tryz.underlying40 U) U<|sm U U<|sr (q00 (f0 := S5100.c) (l := List.take (Int.toNat a1) a0 ++ List.drop (Int.toNat a2) a0 ++ List.drop ((Int.toNat a1) + ((List.length a0) - (Int.toNat a2))) a0) U Tryz.underlying40 xd U U U (by omega) (by omega) (qyb U (by omega) (by omega)) (by omega) U (by omega)) U<|je U U (qty (f0 := S5100.c) (l := List.take (Int.toNat a1) a0 ++ List.drop (Int.toNat a2) a0 ++ List.drop ((Int.toNat a1) + ((List.length a0) - (Int.toNat a2))) a0) (a := Int.toNat ((((Int.toNat a1) + ((List.length a0) - (Int.toNat a2))) - (0) : Nat) : Int)) U Tryz.underlying40 qj4 U (((qyb U (by omega) (by omega))).trans (by omega)) U U U)<|qd<|qb<|qa [.p, .p]<|su (zg U U) U<|su (ja U U) U<|qd<|qo ?_;subst hR;show (∃ t_, _ ∧ _) ∧ MemL _ _;exact ⟨⟨_, U, U⟩, U, O⟩
def qe3 (rec1 : Nat → (List S5102) → List S5102) (k3 : Nat) (x6 : List S5102) : List S5102 :=
 rec1 (k3 + 1) x6
def w3 (a1 : Int) : List S5102 → Nat → (List S5102) → List S5102
 | [], k3, x1 => x1
 | y4 :: t5, k3, x1 => (bif (qit [decide (y4.Carrier = y4.Carrier), decide (y4.fFrom = y4.fFrom), decide (min y4.fTo a1 = y4.fTo)]) || (decide (y4.fFrom ≤ min y4.fTo a1)) then qe3 (fun k_ z0_ => w3 a1 t5 k_ z0_) k3 (x1 ++ [(S5102.mk y4.Carrier y4.fFrom (min y4.fTo a1))]) else qe3 (fun k_ z0_ => w3 a1 t5 k_ z0_) k3 x1)
def qoi (a0 : List S5102) (a1 : Int) : List S5102 :=
 w3 a1 a0 0 []
theorem zd2 {g : GL} (a0 : List S5102) (a1 : Int)  (hb : a0.length ≤ 1000000)  : Con (EG g) 89 [G.sl 3 (List.map S5102.c a0), G.int a1] (G.sl 3 (List.map S5102.c (qoi a0 a1))) := by
 generalize hR : qoi a0 a1 = R;unfold qoi at hR;refine qm Tryz.func89 U U fun w0 M0 => ?_;refine zu (f := S5102.c) (l := a0) 0 U fun hla0 => ?_;refine qb<|qa [.w]<|sw (xa 4 104 3 U U U) U<|qd<|qb<|qa [.w]<|sw (xa 5 104 3 U U U) U<|qd<|qb<|qb<|qa [.p, .p, .p]<|sm U U<|su (zb (f := S5102.c) (l := a0) U Tryz.underlying99 U) U<|sm U U<|qd<|qp<|zf (γ := Nat × (List S5102) × (List S5102)) (fun g => ([(1, .g (G.int a1)), (5, .osl 5 3 0 (List.length g.2.2)), (9, .g (G.sl 3 (List.map S5102.c a0))), (10, .g (G.int (List.length a0 : Int))), (11, .g (G.int ((g.1 : Nat) : Int)))], [(5, .arr 104 3 (List.map S5102.c g.2.2))])) (fun g => g.2.2.length ≤ g.1 ∧ a0.drop g.1 = g.2.1 ∧ w3 a1 g.2.1 g.1 g.2.2 = R) (fun g => List.length g.2.1) ⟨U, (0, a0, []), jA, ⟨U, O⟩, U, ⟨iH, U, (by exact hR)⟩, O⟩ ?_
 ·rintro ⟨k3, t5, x1⟩ ⟨iv1_0, hd, hR⟩;replace hd : a0.drop k3 = t5 := hd;replace hR : w3 a1 t5 k3 x1 = R := hR;replace iv1_0 : x1.length ≤ k3 := iv1_0;refine qb<|qa [.p]<|su (zd U U U) U<|qd ?_;refine zu (f := S5102.c) (l := a0) 9 U fun hlz1 => ?_;refine qb ?_;refine ql _ U (fun h1 => ?_) (fun h1 => ?_)
  ·replace h1 : (decide (((k3 : Nat) : Int) < (List.length a0 : Int))) = true := h1;obtain ⟨y4, t5, rfl, hx1, hd⟩ := zq hd (decT h1);replace h1 := decT h1;rw [w3] at hR;(try dsimp only at hR);refine qn ?_;refine ko (γ := (List S5102)) (fun g => ([(1, .g (G.int a1)), (5, .osl 5 3 0 (List.length g)), (9, .g (G.sl 3 (List.map S5102.c a0))), (10, .g (G.int (List.length a0 : Int))), (11, .g (G.int ((k3 : Nat) : Int)))], [(5, .arr 104 3 (List.map S5102.c g))])) (fun g => g.length ≤ k3 + 1 ∧ qe3 (fun k_ z0_ => w3 a1 t5 k_ z0_) k3 g = R) ?_ ?_
   ·refine qp<|qb<|qa [.p, .p, .w, .w]<|su (z5 (f := S5102.c) (l := a0) (a := y4) U Tryz.underlying99 qbp U U (Int.natCast_nonneg _) hx1) U<|su (qr U qbp U U U) U<|sw (zm 7 U qqr U U) U<|je U U (qw (tv := .g (G.agg (S5102.c y4))) U qbp U U U U U)<|qd<|qb<|qa [.p, .r, .p, .r, .p, .r, .p, .p, .p, .w, .w]<|su (qu U qm7 U) U<|sr (zo U ty9 U U U) U<|su (qu U qem U) U<|sr (zo U ty3 U U U) U<|su (qu U qen U) U<|sr (zo U ty3 U U U) U<|sm U U<|su (qq2 U U U) U<|su (jk U qqr U q6b (zp U (zp U (zp U kx))) U) U<|sw (zm 8 U qqr U U) U<|je U U (qw (tv := .g (G.agg [G.str y4.Carrier, G.int y4.fFrom, G.int (min y4.fTo a1)])) U qbp U U U U U)<|qd<|qb<|qa [.r, .r, .p, .p, .p, .r, .p, .r, .p, .p]<|sr (zj U qbp U U U U) U<|sr (zj U qbp U U U U) U<|su (qzi [.string y4.Carrier, .int .i64 y4.fFrom, .int .i64 (min y4.fTo a1)] [.string y4.Carrier, .int .i64 y4.fFrom, .int .i64 y4.fTo] U qyv U U U U U) U<|sm U U<|sg U U (fun h => qu U qem U) U<|qff U U U (jf _ _) (fun h => zo U ty3 (gd h U) U U) U<|sg U U (fun h => qu U qen U) U<|qff U U U (jf _ _) (fun h => zo U ty3 (gd h U) U U) U<|sg U U (fun h => vj U (gd h U) (gd h U)) U<|su (jg U U U U) U<|qd ?_;refine ql _ U (fun h3 => ?_) (fun h3 => ?_)
    ·replace h3 : ((qit [decide (y4.Carrier = y4.Carrier), decide (y4.fFrom = y4.fFrom), decide (min y4.fTo a1 = y4.fTo)]) || (decide (y4.fFrom ≤ min y4.fTo a1))) = true := h3;replace hR := zk hR h3;(try simp only [bB] at h3);refine qa [.p, .r, .p, .k, .p]<|su (zg U U) U<|sr (zj U qbp U U U U) U ?_;refine su (qt U Tryz.underlying99 qbp qqr U (qx U jp) U (by exact lens rfl) (by decide)) U ?_;refine st_k U U (xb (f := S5102.c) (out := x1) (new := [(S5102.mk y4.Carrier y4.fFrom (min y4.fTo a1))]) U qqp U U (qa6 U (qa5 (by decide) (by simp [S5102.c]))) (qkq U) (by simp; omega)) U ?_;refine su (ja U U) U<|qd ?_;exact ⟨U, x1 ++ [(S5102.mk y4.Carrier y4.fFrom (min y4.fTo a1))], jA, ⟨U, O⟩, U, ⟨iB, hR⟩, O⟩
    ·replace h3 : ((qit [decide (y4.Carrier = y4.Carrier), decide (y4.fFrom = y4.fFrom), decide (min y4.fTo a1 = y4.fTo)]) || (decide (y4.fFrom ≤ min y4.fTo a1))) = false := h3;replace hR := zl hR h3;(try simp only [bB] at h3);refine qn ?_;exact ⟨U, x1, jA, ⟨U, O⟩, U, ⟨iB, hR⟩, O⟩
   ·rintro x6 ⟨jv1_0, hR⟩;replace jv1_0 : x6.length ≤ k3 + 1 := jv1_0;replace hR : qe3 (fun k_ z0_ => w3 a1 t5 k_ z0_) k3 x6 = R := hR;unfold qe3 at hR;refine qa [.p, .p]<|su (zn U U U iE) U<|sm U U<|qd ?_;exact ⟨U, (k3 + 1, t5, x6), jA, ⟨U, O⟩, U, ⟨iB, hd, hR⟩, by simp⟩
  ·replace h1 : (decide (((k3 : Nat) : Int) < (List.length a0 : Int))) = false := h1;obtain rfl := zz hd (decF h1);rw [w3] at hR;refine zw<|qb<|qa [.p, .p]<|su (zg U U) U<|su (ja U U) U<|qd<|qo ?_;subst hR;exact za U (qc8 U U)
def q01 (a : S5100) (t : Int) : S5100 := S5100.mk (S115.mk a.Request.Name a.Request.Carrier a.Request.Kind a.Request.Terminal a.Request.Partner a.Request.Link (S45.mk a.Request.Period.fFrom t a.Request.Period.Days) a.Request.Minute a.Request.Seats a.Request.Size a.Request.Noise) a.Holder a.Leases a.Shares
def xv (a : S5100) (t : Int) : S5100 := S5100.mk (S115.mk a.Request.Name a.Request.Carrier a.Request.Kind a.Request.Terminal a.Request.Partner a.Request.Link (S45.mk a.Request.Period.fFrom t a.Request.Period.Days) a.Request.Minute a.Request.Seats a.Request.Size a.Request.Noise) a.Holder (qoi a.Leases t) a.Shares
def qp3 (a : S5100) (d : Int) : S5100 × Int := bif decide (a.Request.Period.fTo < d) then (a, 30) else (xv a (IntKind.i64.wrap (d - 1)), 0)
theorem zd3 {g : GL} {l : List S5100} {i : Nat} {a0 : S5100} (a1 : Int) (ha : l[i]? = some a0) (hb : a0.Leases.length ≤ 1000000) : ConB (EG g) 88 [.eptr 0 16 i 0, .g (G.ref [G.int a1])] [(0, .arr 101 16 (l.map S5100.c))] (G.int (qp3 a0 a1).2) [(0, .arr 101 16 ((l.set i (qp3 a0 a1).1).map S5100.c))] := by
 generalize hR : qp3 a0 a1 = R;unfold qp3 at hR;have hi : i < l.length := (List.getElem?_eq_some_iff.1 ha).1;refine qa9 Tryz.func88 U U U fun w0 M0 x => ?_;refine qb<|qa [.p]<|sa U U<|qd<|qb<|qa [.p, .p, .p, .p, .p]<|su (qar U U) U<|su (qdv U U) U<|su (we U qbq U) U<|su (we U vt U) U<|su (qdx U U) U<|qd<|qb<|qb<|zr [.p, .p, .p, .p, .r, .p] (by kernel_rfl)<|su (qf U ty3 U) U<|su (qar U U) U<|su (qdv U U) U<|su (we U qa4 U) U<|sr (qhi U ty3 U U ha U) U<|su (zy U U U) U<|qd ?_;refine ql _ U (fun h1 => ?_) (fun h1 => ?_)
 ·replace hR := zk hR h1;refine qb<|qa [.p]<|sa U U<|qd<|qo ?_;subst hR;show ResOk _ _ _ _ ∧ MemL _ _;refine ⟨res1 U U, ?_, O⟩;show some (Blk.arr 101 16 (l.map S5100.c)) = some (Blk.arr 101 16 ((l.set i a0).map S5100.c));rw [qsx ha]
 ·replace hR := zl hR h1;refine qn<|qb<|qa [.p, .p, .p, .p, .p, .w]<|su (qar U U) U<|su (qf U ty3 U) U<|su (kq U U U) U<|su (qdv U U) U<|su (we U qa4 U) U<|je U U (qr5 (a' := q01 a0 (IntKind.i64.wrap (a1 - 1))) U ty3 U U U ha U U U)<|qd ?_;have hb2 : (l.set i (q01 a0 (IntKind.i64.wrap (a1 - 1))))[i]? = some (q01 a0 (IntKind.i64.wrap (a1 - 1))) := List.getElem?_set_self hi;refine qb<|zr [.p, .p, .p, .p, .r, .p, .p, .p, .p, .p, .w] (by kernel_rfl)<|su (qar U U) U<|su (qar U U) U<|su (qdv U U) U<|su (we U qbr U) U<|sr (qhi U qf9 U U hb2 U) U<|su (qf U ty3 U) U<|su (kq U U U) U<|su (qg U zaf U (Con.lend (zd2 a0.Leases (IntKind.i64.wrap (a1 - 1)) hb)) (qe U (qe U qk))) U<|su (qdv U U) U<|su (we U qbr U) U<|je U U (qr5 (a' := xv a0 (IntKind.i64.wrap (a1 - 1))) U qf9 U U U hb2 U U U)<|qd<|qb<|qa [.p]<|sa U U<|qd<|qo ?_;subst hR;show ResOk _ _ _ _ ∧ MemL _ _;refine ⟨res1 U U, ?_, O⟩;have hss : (l.set i (q01 a0 (IntKind.i64.wrap (a1 - 1)))).set i (xv a0 (IntKind.i64.wrap (a1 - 1))) = l.set i (xv a0 (IntKind.i64.wrap (a1 - 1))) := List.set_set ..;exact congrArg (fun z : List S5100 => some (Blk.arr 101 16 (List.map S5100.c z))) hss
theorem q02 {E : Env} {α : Type} {o : Oper} {mem : Mem} {ev : Operand → TV} {t e : TypeId} {x : Operand} {kk id k i j : Nat} {l : List α} {f : α → List G} {a : α} {cs : List G} (ho : o.op = .load t x) (ht : tyK E.P t = some (kk, true)) (hx : ev x = .eptr id k i j) (hb : qq mem id = some (.arr e k (l.map f)))
  (ha : l[i]? = some a) (hc : ((f a).drop j).take kk = cs) (hl : cs.length = kk) : Eff E o mem ev (.g (.agg cs)) := by
 intro w0 M0 ρ w e' hm he;have h1 := he x (by rw [ho]; simp [Op.operands]);rw [hx] at h1;obtain ⟨ow, h2, h3⟩ := h1
 have hi : (l.map f)[i]? = some (f a) := by rw [List.getElem?_map, ha]; rfl
 have key : ∀ (ds : List G) (p : Nat), (∀ j g, ds[j]? = some g → ∃ v, w.cell? ⟨ow.b, p + j, none⟩ = some v ∧ g.p w (qz M0 ρ) v ∧ v.oneCell' = true) → ∃ vs : List Value, Fits w (qz M0 ρ) ds vs ∧ ∀ j v, vs[j]? = some v → w.cell? ⟨ow.b, p + j, none⟩ = some v := by
  intro ds
  induction ds with
  | nil => intro p _; exact ⟨[], trivial, fun j v h => by simp at h⟩
  | cons d ds ih =>
   intro p h;obtain ⟨v, g1, g2, g3⟩ := h 0 d rfl;obtain ⟨vs, g4, g5⟩ := ih (p + 1) (fun j g hj => by have := h (j + 1) g (by simpa using hj); rwa [show p + (j + 1) = p + 1 + j by omega] at this);refine ⟨v :: vs, ⟨⟨g2, g3⟩, g4⟩, fun j u hj => ?_⟩
   cases j with
   | zero => simp at hj; subst hj; exact g1
   | succ j => have := g5 j u (by simpa using hj); rwa [show p + (j + 1) = p + 1 + j by omega]
 obtain ⟨vs, g1, g2⟩ := key cs (ow.o + i * k + j) (fun q g hq => by
  rw [← hc, List.getElem?_take] at hq
  split at hq
  ·rw [List.getElem?_drop] at hq;have := qn2 hm hb h2 hi hq
   rwa [show ow.o + i * k + (j + q) = ow.o + i * k + j + q by omega] at this
  ·cases hq)
 have : (execOp e' o).run E.P w = .ok (.value (.agg vs.toArray)) w := by simp [execOp, ho, h3, Instr.loadAt, Instr.sureAddr, kd ht (g1.length.trans hl) g2]
 rw [this];exact ⟨Grow.refl w, vs, U, g1⟩
theorem q03 (a0 : List S5100) (a1 a2 : Int) (h0 : 0 ≤ a1) (h1 : a1 ≤ a2) (h2 : a2 ≤ (a0.length : Int)) : (qhx a0 a1 a2).2 ≤ (qhx a0 a1 a2).1.length := by
 unfold qhx;rw [cond_eq_ite]
 split
 ·exact Nat.le_refl _
 ·simp only [List.length_take, List.length_append, List.length_drop]
  omega
def qfz (l : List S5100) (i : Int) : List S5100 := List.take (qhx l i (i + 1)).2 (qhx l i (i + 1)).1
def qwu (a0 : S5042) (a1 a2 : ByteArray) (a3 : Int) : Option (S5042 × Int) :=
 zc (qt9 a0 a1 a2 (qjb a3) (fun a => qp3 a a3)) fun r1 => (bif decide (r1.2 ≠ 0) then some (S5042.mk [] [], r1.2) else zc (ixO r1.1.Slots (wv r1.1 a2)) fun y => (bif decide ((qa2 y.Request.Period).2 ≠ 0) || decide ((qa2 y.Request.Period).1 = 0) then some (S5042.mk (qfz r1.1.Slots (wv r1.1 a2)) r1.1.Waiting, 0) else some (r1.1, 0)))
theorem qwv {a0 : S5042} {a1 a2 : ByteArray} {a3 : Int} {ch : S5100 → S5100 × Int} {R : S5042 × Int} (h : qt9 a0 a1 a2 a3 ch = some R) : R.1.Slots.length ≤ a0.Slots.length := by
 unfold qt9 at h;rw [cond_eq_ite] at h
 split at h
 ·cases h; exact Nat.zero_le _
 ·obtain ⟨r1, h1, h2⟩ := qh h;obtain ⟨y, _, h3⟩ := qh h2;have e := qjv h1;rw [← e];rw [cond_eq_ite] at h3
  split at h3
  ·cases h3; exact Nat.zero_le _
  ·rw [cond_eq_ite] at h3
   split at h3
   ·cases h3; exact Nat.zero_le _
   ·cases h3; rw [List.length_set]; exact Nat.le_refl _
theorem zb8 {g : GL} (a0 : S5042) (a1 a2 : ByteArray) (a3 : Int) {R : S5042 × Int} (hb : a0.Slots.length ≤ 1000000) (hb1 : a0.Waiting.length ≤ 1000000) (hl : ∀ a ∈ a0.Slots, a.Leases.length ≤ 1000000) (hR : qwu a0 a1 a2 a3 = some R) :
  Con (EG g) 38 [G.agg [G.sl 16 (List.map S5100.c a0.Slots), G.sl 14 (List.map S5072.c a0.Waiting)], G.str a1, G.str a2, G.int a3] (G.tup [G.agg [G.sl 16 (List.map S5100.c R.1.Slots), G.sl 14 (List.map S5072.c R.1.Waiting)], G.int R.2]) := by
 unfold qwu at hR;refine qm Tryz.func38 U U fun w0 M0 => ?_;refine qb<|qa [.p, .p, .w, .p]<|su (zi U U) U<|su (zi U U) U<|sw (zm 8 U qbm U U) U<|sa U U<|qd<|qb ?_;obtain ⟨r1, br1, hR⟩ := qh hR;have hln := qwv br1;refine zr [.p, .p, .p, .p, .p, .p, .wq 22, .p, .p, .p, .wq 10, .wq 10, .p] (by kernel_rfl)<|su (qr U jc U U U) U<|sm U U<|sm U U<|su (qf U ty3 U) U<|su (qg U q23 U (q41 a3) (qe U qk)) U<|su (qih U qk (qe (y := G.ref [G.int a3]) U qk)) U<|q3f (i := 22) U U (fun m_ hm_ => qx8 (f0 := S5100.c) (l := r1.1.Slots) 22 U zad U (zd0 a0 a1 a2 (qjb a3) (fun a => qp3 a a3) qho zae (fun l i a h1 h2 => zd3 a3 h1 (hl a h2)) hb hb1 br1) (qe U (qe U (qe U (qe U (qe U qk))))) (hm_.trans U)) U<|su (qx9 U U) U<|su (qor U U) U<|su (qos U U) U<|q3f (i := 10) U U (fun m_ hm_ => zm 10 U qbm U (hm_.trans U)) U<|qry (i := 10) U U (fun m_ hm_ => qw (tv := .agl [] 22 16 (List.length r1.1.Slots) [G.sl 14 (List.map S5072.c r1.1.Waiting)]) U jc U U (hm_.trans U) U U)<|sa U U<|qd<|qb<|qb<|qa [.p, .p]<|sm U U<|su (zx U U U) U<|qd ?_;refine ql _ U (fun h1 => ?_) (fun h1 => ?_)
 ·replace h1 : decide (r1.2 ≠ 0) = true := h1;replace hR := zk hR h1;refine qb<|qa [.p, .p, .w, .p]<|su (qgt (x := G.agg [G.lit (.slice none 0 0), G.lit (.slice none 0 0)]) (y := G.agg [G.sl 16 (List.map S5100.c []), G.sl 14 (List.map S5072.c [])]) (jk U qbm U qfi kx U) (qfy ⟨qaw 16, qaw 14, O⟩)) U<|sm U U<|je U U (qw (tv := .g (G.agg [G.sl 16 (List.map S5100.c []), G.sl 14 (List.map S5072.c [])])) U jc U U U U U)<|sa U U<|qd<|qo ?_;obtain rfl := Option.some.inj hR;exact resN U ⟨qad U U jc U U, rv_g U, O⟩ (by simp)
 ·replace h1 : decide (r1.2 ≠ 0) = false := h1;replace hR := zl hR h1;refine qn<|qb ?_;obtain ⟨y, by_, hR⟩ := qh hR;have hy0 := jj by_;have hy1 := jt (zh by_);refine qa [.r, .p, .r, .p]<|sr (qlf U jc U U) U<|sm U U<|sr (qqi U qyo U (q0l r1.1 a2) (qs4 (f := S5100.c) (l := r1.1.Slots) U U U U)) U<|sa U U<|qd<|qb<|qb<|qa [.p, .r, .p, .p, .p, .p, .r, .p, .p, .p, .p, .p, .p]<|su (qu U xw U) U<|sr (zo U qc1 U U U) U<|sm U U<|su (ku U Tryz.underlying40 xd U U hy0 hy1) U<|su (we U qbq U) U<|su (we U vt U) U<|sr (q02 U ty46 U U (zh by_) U U) U<|su (qg U q5x U (q7s y.Request.Period) (qe U qk)) U<|sm U U<|su (qv U U U) U<|su (qv U U U) U<|sa U U<|sa U U<|qd<|qb<|qa [.p, .p, .p, .p, .p, .p]<|sm U U<|su (zx U U U) U<|sm U U<|sg U U (fun h => qj U U) U<|sg U U (fun h => jn U (gd h U) U) U<|su (jg U U U U) U<|qd ?_;refine ql _ U (fun h2 => ?_) (fun h2 => ?_)
  ·replace h2 : (decide ((qa2 y.Request.Period).2 ≠ 0) || decide ((qa2 y.Request.Period).1 = 0)) = true := h2;replace hR := zk hR h2;refine qa [.p, .r, .p, .p, .p, .k, .p, .w]<|su (qu U xw U) U<|sr (zo U qc1 U U U) U<|sm U U<|sm U U<|su (zn U U U iE) U<|st_k U U (qcj 10 0 U (qv8 (f0 := S5100.c) (l := r1.1.Slots) (l' := (qhx r1.1.Slots (wv r1.1 a2) (wv r1.1 a2 + 1)).1) (n := (qhx r1.1.Slots (wv r1.1 a2) (wv r1.1 a2 + 1)).2) 22 U zag U (zd1 r1.1.Slots (wv r1.1 a2) (wv r1.1 a2 + 1) hy0 (by omega) (by omega) (by omega)) (z6 U U (z6 U U (z6 U U qdn))) U (qq5 U) (q03 _ _ _ hy0 (by omega) (by omega)))) U<|su (qu U xw U) U<|je U U (qw (tv := .g (G.sl 16 (List.map S5100.c (qfz r1.1.Slots (wv r1.1 a2))))) U qc1 U U U U U)<|qd<|qb<|qa [.r, .w, .p]<|sr (zj U jc U U U U) U<|je U U (qw (tv := .g (G.agg [G.sl 16 (List.map S5100.c (qfz r1.1.Slots (wv r1.1 a2))), G.sl 14 (List.map S5072.c r1.1.Waiting)])) U jc U U U U U)<|sa U U<|qd<|qo ?_;obtain rfl := Option.some.inj hR;exact resN U ⟨qad U U jc U U, rv_g U, O⟩ (by simp)
  ·replace h2 : (decide ((qa2 y.Request.Period).2 ≠ 0) || decide ((qa2 y.Request.Period).1 = 0)) = false := h2;replace hR := zl hR h2;refine qn<|qb<|qds (l := [(8, .ptr 8 0), (10, .ptr 10 0)]) (m := [(8, .box [.g (G.lit (.slice none 0 0)), .g (G.lit (.slice none 0 0))]), (10, .box [.g (G.sl 16 (List.map S5100.c r1.1.Slots)), .g (G.sl 14 (List.map S5072.c r1.1.Waiting))])]) 10 0 22 16 _ U U U ((List.length_map ..).trans U) ⟨U, U, O⟩ ⟨U, U, O⟩ U U<|qa [.r, .w, .p]<|sr (zj U jc U U U U) U<|je U U (qw (tv := .g (G.agg [G.sl 16 (List.map S5100.c r1.1.Slots), G.sl 14 (List.map S5072.c r1.1.Waiting)])) U jc U U U U U)<|sa U U<|qd<|qo ?_;obtain rfl := Option.some.inj hR;exact resN U ⟨qad U U jc U U, rv_g U, O⟩ (by simp)
def qhc (a0 : S5042) : Option ((List S1079) × Int) :=
 zc (qp2 a0) fun r1 => (bif decide (r1 ≠ 0) then some ([], r1) else zc (qfx a0 (-1)) fun r2 => some (r2, 0))
theorem qyz {g : GL} (a0 : S5042) {R : (List S1079) × Int}  (hb : a0.Slots.length ≤ 1000000000000000) (hR : qhc a0 = some R) : Con (EG g) 11 [G.agg [G.sl 16 (List.map S5100.c a0.Slots), G.sl 14 (List.map S5072.c a0.Waiting)]] (G.tup [G.sl 7 (List.map S1079.c R.1), G.int R.2]) := by
 unfold qhc at hR;refine qm Tryz.func11 U U fun w0 M0 => ?_;refine qb<|qa [.p, .p, .p]<|su (zi U U) U<|sa U U<|sa U U<|qd<|qb<|qb ?_;obtain ⟨r1, br1, hR⟩ := qh hR;refine qa [.p, .p, .p]<|su (qr U jc U U U) U<|su (qg U q22 U (q4g a0 br1) (qe U qk)) U<|sa U U<|qd<|qb<|qa [.p, .p]<|sm U U<|su (zx U U U) U<|qd ?_;refine ql _ U (fun h1 => ?_) (fun h1 => ?_)
 ·replace h1 : (decide (r1 ≠ 0)) = true := h1;replace hR := zk hR h1;(try simp only [bB] at h1);refine qb<|qa [.p, .p, .p]<|sm U U<|sa U U<|sa U U<|qd<|qo ?_;obtain rfl := Option.some.inj hR;exact resN U ⟨qnu U (qki _), rv_g U, O⟩ (by simp)
 ·replace h1 : (decide (r1 ≠ 0)) = false := h1;replace hR := zl hR h1;(try simp only [bB] at h1);refine qn<|qb ?_;obtain ⟨r2, br2, hR⟩ := qh hR;refine qa [.p, .p, .p, .p]<|su (qr U jc U U U) U<|su (qg U q54 U (q8f a0 (-1) U (by omega) br2) (qe U (qe U qk))) U<|sa U U<|sa U U<|qd<|qo ?_;obtain rfl := Option.some.inj hR;exact resN U ⟨rv_g U, rv_g U, O⟩ (by simp)
theorem wc {α : Type} (A : List α) (x : α) (B : List α) {n : Int} (h : n = (A.length : Int)) : ixO (A ++ x :: B) n = some x := by
 subst h;unfold ixO;rw [decide_eq_true (by omega), cond_true]
 simp
theorem qel {α : Type} (A : List α) (x y : α) (B : List α) {n : Int} (h : n = (A.length : Int)) : List.set (A ++ x :: B) n.toNat y = A ++ y :: B := by
 subst h
 simp
theorem q8g (a1 a2 : Int) : ∀ (X Y A B C : List S1079) (i : Int), X.length = Y.length → a1 + i = (A.length : Int) → a2 + i = (A.length : Int) + (X.length : Int) + (B.length : Int) →
  w5 a1 a2 X.length i (A ++ X ++ B ++ Y ++ C) = some (A ++ Y ++ B ++ X ++ C)
 | [], [], A, B, C, i, _, _, _ => by rw [List.length_nil, w5]
 | x :: X, y :: Y, A, B, C, i, h, h1, h2 => by
  have hl : X.length = Y.length := by simpa using h
  have hL : A ++ (x :: X) ++ B ++ (y :: Y) ++ C = (A ++ x :: X ++ B) ++ y :: (Y ++ C) := by simp
  have hL2 : (A ++ x :: X ++ B) ++ y :: (Y ++ C) = A ++ x :: (X ++ B ++ y :: (Y ++ C)) := by simp
  have e2 : a2 + i = ((A ++ x :: X ++ B).length : Int) := by rw [h2]; simp; omega
  rw [List.length_cons, w5, hL, wc _ _ _ e2];simp only [zc];rw [hL2, wc _ _ _ h1];simp only [zc];rw [qel _ _ _ _ h1]
  have hL3 : A ++ y :: (X ++ B ++ y :: (Y ++ C)) = (A ++ y :: X ++ B) ++ y :: (Y ++ C) := by simp
  have e3 : a2 + i = ((A ++ y :: X ++ B).length : Int) := by rw [h2]; simp; omega
  rw [hL3, wc _ _ _ e3];simp only [zc];rw [qel _ _ _ _ e3]
  have hL4 : (A ++ y :: X ++ B) ++ x :: (Y ++ C) = (A ++ [y]) ++ X ++ (B ++ [x]) ++ Y ++ C := by simp
  rw [hL4, q8g a1 a2 X Y (A ++ [y]) (B ++ [x]) C (i + 1) hl (by simp; omega) (by simp at h2 ⊢; omega)]
  simp
 | [], _ :: _, _, _, _, _, h, _, _ => by simp at h
 | _ :: _, [], _, _, _, _, h, _, _ => by simp at h
theorem qrn (X Y A B C : List S1079) {a1 a2 a3 : Int} (a4 : S1079 → S1079 → Option Int) (h : X.length = Y.length) (h1 : a1 = (A.length : Int)) (h2 : a2 = (A.length : Int) + (X.length : Int) + (B.length : Int)) (h3 : a3 = (X.length : Int)) :
  qp7 (A ++ X ++ B ++ Y ++ C) a1 a2 a3 a4 = some (A ++ Y ++ B ++ X ++ C) := by
 unfold qp7
 have e : (a3 - 0).toNat = X.length := by omega
 rw [e];exact q8g a1 a2 X Y A B C 0 h (by omega) (by omega)
theorem rotR (m : Int) (a4 : S1079 → S1079 → Option Int) : ∀ (k : Nat) (X Y P Q : List S1079), 0 < X.length → 0 < Y.length → X.length + Y.length < k → m = (P.length : Int) + (X.length : Int) →
  qaz m a4 k (X.length : Int) (Y.length : Int) (P ++ X ++ Y ++ Q) = some (P ++ Y ++ X ++ Q)
 | 0, X, Y, P, Q, hx, hy, hk, hm => by omega
 | k + 1, X, Y, P, Q, hx, hy, hk, hm => by
  rw [qaz]
  by_cases hne : X.length = Y.length
  ·rw [decide_eq_false (by omega), cond_false];have := qrn X Y P [] Q a4 hne (a1 := m - (X.length : Int)) (a2 := m) (a3 := (X.length : Int)) (by omega) (by simp; omega) rfl;simp only [List.append_nil] at this;rw [this]; rfl
  ·rw [decide_eq_true (by omega), cond_true]
   by_cases hlt : Y.length < X.length
   ·rw [decide_eq_true (by omega), cond_true]
    -- X = X1 ++ X2, of which X1 is as long as Y
    obtain ⟨X1, X2, rfl, h1⟩ : ∃ X1 X2, X = X1 ++ X2 ∧ X1.length = Y.length := ⟨X.take Y.length, X.drop Y.length, (List.take_append_drop ..).symm, by rw [List.length_take]; omega⟩;simp only [List.length_append] at *;have hs := qrn X1 Y P X2 Q a4 h1 (a1 := m - ((X1.length + X2.length : Nat) : Int)) (a2 := m) (a3 := (Y.length : Int)) (by omega) (by omega) (by omega);rw [show P ++ (X1 ++ X2) ++ Y ++ Q = P ++ X1 ++ X2 ++ Y ++ Q by simp, hs];simp only [zc];have ih := rotR m a4 k X2 X1 (P ++ Y) Q (by omega) (by omega) (by omega) (by simp; omega);rw [show (((X1.length + X2.length : Nat) : Int) - (Y.length : Int)) = (X2.length : Int) by omega, show (Y.length : Int) = (X1.length : Int) by omega, ih]
    simp
   ·rw [decide_eq_false (by omega), cond_false];obtain ⟨Y1, Y2, rfl, h1⟩ : ∃ Y1 Y2, Y = Y1 ++ Y2 ∧ Y2.length = X.length := ⟨Y.take (Y.length - X.length), Y.drop (Y.length - X.length), (List.take_append_drop ..).symm, by rw [List.length_drop]; omega⟩;simp only [List.length_append] at *;have hs := qrn X Y2 P Y1 Q a4 h1.symm (a1 := m - (X.length : Int)) (a2 := (m + ((Y1.length + Y2.length : Nat) : Int)) - (X.length : Int)) (a3 := (X.length : Int)) (by omega) (by omega) rfl;rw [show P ++ X ++ (Y1 ++ Y2) ++ Q = P ++ X ++ Y1 ++ Y2 ++ Q by simp, hs];simp only [zc];have ih := rotR m a4 k Y2 Y1 P (X ++ Q) (by omega) (by omega) (by omega) (by omega);rw [show (((Y1.length + Y2.length : Nat) : Int) - (X.length : Int)) = (Y1.length : Int) by omega, show (X.length : Int) = (Y2.length : Int) by omega, show P ++ Y2 ++ Y1 ++ X ++ Q = P ++ Y2 ++ Y1 ++ (X ++ Q) by simp, ih]
    simp
theorem q7w (X Y P Q : List S1079) {a1 a2 a3 : Int} (a4 : S1079 → S1079 → Option Int) (hx : 0 < X.length) (hy : 0 < Y.length) (h1 : a1 = (P.length : Int)) (h2 : a2 = (P.length : Int) + (X.length : Int)) (h3 : a3 = (P.length : Int) + (X.length : Int) + (Y.length : Int)) :
  qp8 (P ++ X ++ Y ++ Q) a1 a2 a3 a4 = some (P ++ Y ++ X ++ Q) := by
 unfold qp8;rw [show a2 - a1 = (X.length : Int) by omega, show a3 - a2 = (Y.length : Int) by omega];exact rotR a2 a4 _ X Y P Q hx hy (by omega) h2
structure WOrd (lt : S1079 → S1079 → Bool) (cmp : S1079 → S1079 → Option Int) : Prop where
 c : ∀ x y, ∃ v, cmp x y = some v ∧ decide (v < 0) = lt x y
 tr : ∀ x y z, lt y x = false → lt z y = false → lt z x = false
 asy : ∀ x y, lt x y = true → lt y x = false
variable {lt : S1079 → S1079 → Bool} {cmp : S1079 → S1079 → Option Int}
abbrev Srt (lt : S1079 → S1079 → Bool) (l : List S1079) : Prop := l.Pairwise fun x y => lt y x = false
theorem WOrd.lt_of (w : WOrd lt cmp) {x y z : S1079} (h1 : lt y x = false) (h2 : lt y z = true) : lt x z = true := by
 cases h : lt x z with
 | true => rfl
 | false => exact absurd (w.tr _ _ _ h h1) (by rw [h2]; simp)
theorem WOrd.lt_of' (w : WOrd lt cmp) {x y z : S1079} (h1 : lt x y = true) (h2 : lt z y = false) : lt x z = true := by
 cases h : lt x z with
 | true => rfl
 | false => exact absurd (w.tr _ _ _ h2 h) (by rw [h1]; simp)
theorem qs5 {l : List S1079} (h : Srt lt l) {c : Nat} {y : S1079} (hc : l[c]? = some y) : ∀ x ∈ l.take (c + 1), x = y ∨ lt y x = false := by
 intro x hx;obtain ⟨i, hi⟩ := List.mem_iff_getElem?.1 hx;rw [List.getElem?_take] at hi
 split at hi
 ·rename_i hlt
  obtain ⟨h1, h2⟩ := List.getElem?_eq_some_iff.1 hc;obtain ⟨h3, h4⟩ := List.getElem?_eq_some_iff.1 hi
  by_cases hic : i = c
  ·subst hic; exact .inl (by rw [← h4, ← h2])
  ·refine .inr ?_;rw [← h4, ← h2];exact List.pairwise_iff_getElem.1 h i c h3 h1 (by omega)
 ·cases hi
theorem qs6 {l : List S1079} (h : Srt lt l) {c : Nat} {y : S1079} (hc : l[c]? = some y) : ∀ x ∈ l.drop c, x = y ∨ lt x y = false := by
 intro x hx;obtain ⟨i, hi⟩ := List.mem_iff_getElem?.1 hx;rw [List.getElem?_drop] at hi;obtain ⟨h1, h2⟩ := List.getElem?_eq_some_iff.1 hc;obtain ⟨h3, h4⟩ := List.getElem?_eq_some_iff.1 hi
 by_cases hic : i = 0
 ·subst hic; exact .inl (by rw [← h4, ← h2]; rfl)
 ·refine .inr ?_;rw [← h4, ← h2];exact List.pairwise_iff_getElem.1 h c (c + i) h1 h3 (by omega)
theorem sea1 (w : WOrd lt cmp) (P Y Q : List S1079) (x : S1079) (hY : Srt lt Y) {a1 : Int} (ha : a1 = (P.length : Int)) : ∀ (k p q : Nat), p ≤ q → q ≤ Y.length → q - p < k →
  (∀ y ∈ Y.take p, lt y x = true) → (∀ y ∈ Y.drop q, lt y x = false) →
  ∃ i, i ≤ Y.length ∧ (∀ y ∈ Y.take i, lt y x = true) ∧ (∀ y ∈ Y.drop i, lt y x = false) ∧
   wh (P ++ [x] ++ Y ++ Q) a1 cmp k ((P.length : Int) + 1 + (p : Int)) ((P.length : Int) + 1 + (q : Int)) = w6 ((P.length : Int) + 1 + (i : Int)) ((((P.length : Int) + 1 + (i : Int)) - a1).toNat + 1) a1 (P ++ [x] ++ Y ++ Q)
 | 0, p, q, _, _, hk, _, _ => by omega
 | k + 1, p, q, hpq, hq, hk, h1, h2 => by
  by_cases he : p = q
  ·subst he;refine ⟨p, hq, h1, h2, ?_⟩;rw [wh, decide_eq_false (by omega), cond_false]
  ·have hlt : p < q := by omega
   have hc : (p + q) / 2 < Y.length := by omega
   have e0 : (((P.length : Int) + 1 + (p : Int)) + ((P.length : Int) + 1 + (q : Int))) / 2 = (P.length : Int) + 1 + (((p + q) / 2 : Nat) : Int) := by omega
   obtain ⟨y, hy⟩ : ∃ y, Y[(p + q) / 2]? = some y := ⟨Y[(p + q) / 2], List.getElem?_eq_getElem hc⟩
   have i1 : ixO (P ++ [x] ++ Y ++ Q) ((P.length : Int) + 1 + (((p + q) / 2 : Nat) : Int)) = some y := by
    have hs : P ++ [x] ++ Y ++ Q = (P ++ [x] ++ Y.take ((p + q) / 2)) ++ y :: (Y.drop ((p + q) / 2 + 1) ++ Q) := by
     have hd := List.drop_eq_getElem_cons hc;have hy' := (List.getElem?_eq_some_iff.1 hy).2;rw [hy'] at hd
     conv => lhs; rw [← List.take_append_drop ((p + q) / 2) Y, hd]
     simp
    rw [hs, wc]
    simp; omega
   have i2 : ixO (P ++ [x] ++ Y ++ Q) a1 = some x := by
    rw [show P ++ [x] ++ Y ++ Q = P ++ x :: (Y ++ Q) by simp, wc _ _ _ ha]
   obtain ⟨v, hv, hd⟩ := w.c y x;rw [wh, decide_eq_true (by omega), cond_true, e0, i1];simp only [zc];rw [i2];simp only [zc];rw [hv];simp only [zc];rw [hd]
   cases hl : lt y x with
   | true =>
    rw [cond_true, show ((P.length : Int) + 1 + (((p + q) / 2 : Nat) : Int)) + 1 = (P.length : Int) + 1 + (((p + q) / 2 + 1 : Nat) : Int) by omega]
    exact sea1 w P Y Q x hY ha k ((p + q) / 2 + 1) q (by omega) hq (by omega) (fun z hz => by
     rcases qs5 hY hy z hz with rfl | h
     ·exact hl
     ·exact w.lt_of h hl) h2
   | false =>
    rw [cond_false]
    exact sea1 w P Y Q x hY ha k p ((p + q) / 2) (by omega) (by omega) (by omega) h1 (fun z hz => by
     rcases qs6 hY hy z hz with rfl | h
     ·exact hl
     ·exact w.tr _ _ _ hl h)
variable {lt : S1079 → S1079 → Bool} {cmp : S1079 → S1079 → Option Int}
theorem sh2 (x1 : Int) : ∀ (Y P R : List S1079) (x : S1079) (k : Nat), Y.length < k → x1 = (P.length : Int) + 1 + (Y.length : Int) → w6 x1 k (P.length : Int) (P ++ x :: (Y ++ R)) = some (P ++ Y ++ x :: R)
 | _, _, _, _, 0, hk, _ => by omega
 | [], P, R, x, k + 1, hk, h => by
  rw [w6, decide_eq_false (by simp at h; omega), cond_false]; simp
 | y :: Y, P, R, x, k + 1, hk, h => by
  have hk : Y.length < k := by simp at hk; omega
  have h' : x1 = (P.length : Int) + 1 + ((Y.length : Int) + 1) := by rw [h]; simp
  have e1 : P ++ x :: (y :: Y ++ R) = (P ++ [x]) ++ y :: (Y ++ R) := by simp
  have q1 : ((P.length : Int) + 1) = ((P ++ [x]).length : Int) := by simp
  rw [w6, decide_eq_true (by omega), cond_true]
  have i1 : ixO (P ++ x :: (y :: Y ++ R)) ((P.length : Int) + 1) = some y := by rw [e1, wc _ _ _ q1]
  have i2 : ixO (P ++ x :: (y :: Y ++ R)) (P.length : Int) = some x := wc _ _ _ rfl;rw [i1];simp only [zc];rw [i2];simp only [zc];rw [qel P x y _ rfl]
  have e2 : P ++ y :: (y :: Y ++ R) = (P ++ [y]) ++ y :: (Y ++ R) := by simp
  have q2 : ((P.length : Int) + 1) = ((P ++ [y]).length : Int) := by simp
  rw [e2, wc _ _ _ q2];simp only [zc];rw [qel _ _ _ _ q2, q2, sh2 x1 Y (P ++ [y]) R x k hk (by rw [h']; simp; omega)]
  simp
theorem sh4 : ∀ (n : Nat) (X P R : List S1079) (y : S1079) (k : Nat), X.length = n → n < k → w7 (P.length : Int) k ((P.length : Int) + (n : Int)) (P ++ X ++ y :: R) = some (P ++ y :: (X ++ R))
 | n, X, P, R, y, 0, _, hk => by omega
 | 0, X, P, R, y, k + 1, hX, hk => by
  obtain rfl := List.eq_nil_of_length_eq_zero hX;rw [w7, decide_eq_false (by omega), cond_false]; simp
 | n + 1, X, P, R, y, k + 1, hX, hk => by
  obtain ⟨X', z, rfl⟩ : ∃ X' z, X = X' ++ [z] := by
   rcases List.eq_nil_or_concat X with rfl | ⟨X', z, h⟩
   ·simp at hX
   ·exact ⟨X', z, by simpa using h⟩
  have hX' : X'.length = n := by simpa using hX
  have e1 : P ++ (X' ++ [z]) ++ y :: R = (P ++ X') ++ z :: (y :: R) := by simp
  have e2 : P ++ (X' ++ [z]) ++ y :: R = (P ++ X' ++ [z]) ++ y :: R := by simp
  have q1 : ((P.length : Int) + ((n + 1 : Nat) : Int)) - 1 = ((P ++ X').length : Int) := by first | (simp [hX']; done) | (simp [hX']; omega)
  have q2 : ((P.length : Int) + ((n + 1 : Nat) : Int)) = ((P ++ X' ++ [z]).length : Int) := by first | (simp [hX']; done) | (simp [hX']; omega)
  have i1 : ixO (P ++ (X' ++ [z]) ++ y :: R) (((P.length : Int) + ((n + 1 : Nat) : Int)) - 1) = some z := by rw [e1, wc _ _ _ q1]
  have i2 : ixO (P ++ (X' ++ [z]) ++ y :: R) ((P.length : Int) + ((n + 1 : Nat) : Int)) = some y := by rw [e2, wc _ _ _ q2]
  rw [w7, decide_eq_true (by omega), cond_true, i1];simp only [zc];rw [i2];simp only [zc]
  have s1 : List.set (P ++ (X' ++ [z]) ++ y :: R) (Int.toNat ((P.length : Int) + ((n + 1 : Nat) : Int))) z = (P ++ X' ++ [z]) ++ z :: R := by rw [e2, qel _ _ _ _ q2]
  rw [s1]
  have e3 : (P ++ X' ++ [z]) ++ z :: R = (P ++ X') ++ z :: (z :: R) := by simp
  rw [e3, wc _ _ _ q1];simp only [zc];rw [qel _ _ _ _ q1]
  have q3 : ((P.length : Int) + ((n + 1 : Nat) : Int)) - 1 = (P.length : Int) + (n : Int) := by omega
  rw [q3, show P ++ X' ++ y :: (z :: R) = P ++ X' ++ y :: (z :: R) from rfl, sh4 n X' P (z :: R) y k hX' (by omega)]
  simp
theorem sea3 (w : WOrd lt cmp) (P X Q : List S1079) (y : S1079) (hX : Srt lt X) {a2 : Int} (ha : a2 = (P.length : Int) + (X.length : Int)) : ∀ (k p q : Nat), p ≤ q → q ≤ X.length → q - p < k →
  (∀ x ∈ X.take p, lt y x = false) → (∀ x ∈ X.drop q, lt y x = true) →
  ∃ i, i ≤ X.length ∧ (∀ x ∈ X.take i, lt y x = false) ∧ (∀ x ∈ X.drop i, lt y x = true) ∧
   wi (P ++ X ++ [y] ++ Q) a2 cmp k ((P.length : Int) + (p : Int)) ((P.length : Int) + (q : Int)) = w7 ((P.length : Int) + (i : Int)) ((a2 - ((P.length : Int) + (i : Int))).toNat + 1) a2 (P ++ X ++ [y] ++ Q)
 | 0, p, q, _, _, hk, _, _ => by omega
 | k + 1, p, q, hpq, hq, hk, h1, h2 => by
  by_cases he : p = q
  ·subst he;refine ⟨p, hq, h1, h2, ?_⟩;rw [wi, decide_eq_false (by omega), cond_false]
  ·have hlt : p < q := by omega
   have hc : (p + q) / 2 < X.length := by omega
   have e0 : (((P.length : Int) + (p : Int)) + ((P.length : Int) + (q : Int))) / 2 = (P.length : Int) + (((p + q) / 2 : Nat) : Int) := by omega
   obtain ⟨x, hx⟩ : ∃ x, X[(p + q) / 2]? = some x := ⟨X[(p + q) / 2], List.getElem?_eq_getElem hc⟩
   have i1 : ixO (P ++ X ++ [y] ++ Q) ((P.length : Int) + (((p + q) / 2 : Nat) : Int)) = some x := by
    have hs : P ++ X ++ [y] ++ Q = (P ++ X.take ((p + q) / 2)) ++ x :: (X.drop ((p + q) / 2 + 1) ++ [y] ++ Q) := by
     have hd := List.drop_eq_getElem_cons hc;have hx' := (List.getElem?_eq_some_iff.1 hx).2;rw [hx'] at hd
     conv => lhs; rw [← List.take_append_drop ((p + q) / 2) X, hd]
     simp
    rw [hs, wc]
    simp; omega
   have i2 : ixO (P ++ X ++ [y] ++ Q) a2 = some y := by
    rw [show P ++ X ++ [y] ++ Q = (P ++ X) ++ y :: Q by simp, wc];rw [ha]; simp
   obtain ⟨v, hv, hd⟩ := w.c y x;rw [wi, decide_eq_true (by omega), cond_true, e0, i2];simp only [zc];rw [i1];simp only [zc];rw [hv];simp only [zc];rw [hd]
   cases hl : lt y x with
   | false =>
    rw [Bool.not_false, cond_true, show ((P.length : Int) + (((p + q) / 2 : Nat) : Int)) + 1 = (P.length : Int) + (((p + q) / 2 + 1 : Nat) : Int) by omega]
    exact sea3 w P X Q y hX ha k ((p + q) / 2 + 1) q (by omega) hq (by omega) (fun z hz => by
     rcases qs5 hX hx z hz with rfl | h
     ·exact hl
     ·exact w.tr _ _ _ h hl) h2
   | true =>
    rw [Bool.not_true, cond_false]
    exact sea3 w P X Q y hX ha k p ((p + q) / 2) (by omega) (by omega) (by omega) h1 (fun z hz => by
     rcases qs6 hX hx z hz with rfl | h
     ·exact hl
     ·exact w.lt_of' hl h)
variable {lt : S1079 → S1079 → Bool} {cmp : S1079 → S1079 → Option Int}
theorem qfl {l : List S1079} (w : WOrd lt cmp) (h : Srt lt l) {i j : Nat} {x y : S1079} (hi : l[i]? = some x) (hj : l[j]? = some y) (hij : i ≤ j) : lt y x = false := by
 obtain ⟨h1, h2⟩ := List.getElem?_eq_some_iff.1 hi;obtain ⟨h3, h4⟩ := List.getElem?_eq_some_iff.1 hj
 rcases Nat.lt_or_ge i j with h5 | h5
 ·have := List.pairwise_iff_getElem.1 h i j h1 h3 h5;rw [h2, h4] at this;exact this
 ·have : i = j := by omega
  subst this
  have : x = y := by rw [← h2, ← h4]
  subst this
  cases hc : lt x x with
  | false => rfl
  | true => exact absurd (w.asy _ _ hc) (by rw [hc]; simp)
theorem qyc {α : Type} (A X B : List α) {j : Nat} {x : α} (hx : X[j]? = some x) {n : Int} (h : n = (A.length : Int) + (j : Int)) : ixO (A ++ X ++ B) n = some x := by
 obtain ⟨h1, h2⟩ := List.getElem?_eq_some_iff.1 hx;have hd := List.drop_eq_getElem_cons h1;rw [h2] at hd
 have hs : A ++ X ++ B = (A ++ X.take j) ++ x :: (X.drop (j + 1) ++ B) := by
  conv => lhs; rw [← List.take_append_drop j X, hd]
  simp
 rw [hs, wc];rw [h]; simp; omega
theorem sea5 (w : WOrd lt cmp) {self : (List S1079) → Int → Int → Int → (S1079 → S1079 → Option Int) → Option (List S1079)} (P X Y Q : List S1079) (hX : Srt lt X) (hY : Srt lt Y) {a m b : Int} {hh s0 r0 : Nat}
  (ha : a = (P.length : Int)) (hm : m = (P.length : Int) + (X.length : Int)) (hb : (a + b) / 2 = (P.length : Int) + (hh : Int)) (hs : hh ≤ s0 + Y.length) (hr : r0 ≤ X.length) (hr2 : r0 ≤ hh) : ∀ (k p q : Nat), s0 ≤ p → p ≤ q → q ≤ r0 → q - p < k →
  (∀ v x y, s0 ≤ v → v < p → X[v]? = some x → Y[hh - 1 - v]? = some y → lt y x = false) → (∀ v x y, q ≤ v → v < r0 → X[v]? = some x → Y[hh - 1 - v]? = some y → lt y x = true) →
  ∃ u, s0 ≤ u ∧ u ≤ r0 ∧ (∀ v x y, s0 ≤ v → v < u → X[v]? = some x → Y[hh - 1 - v]? = some y → lt y x = false) ∧ (∀ v x y, u ≤ v → v < r0 → X[v]? = some x → Y[hh - 1 - v]? = some y → lt y x = true) ∧
   wj self (P ++ X ++ Y ++ Q) a m b cmp k ((P.length : Int) + (p : Int)) ((P.length : Int) + (q : Int)) =
    (bif (decide ((P.length : Int) + (u : Int) < m)) && (decide (m < (((a + b) / 2) + m) - ((P.length : Int) + (u : Int)))) then zc (qp8 (P ++ X ++ Y ++ Q) ((P.length : Int) + (u : Int)) m ((((a + b) / 2) + m) - ((P.length : Int) + (u : Int))) cmp) fun r43 => xx self a m b cmp ((P.length : Int) + (u : Int)) r43 else xx self a m b cmp ((P.length : Int) + (u : Int)) (P ++ X ++ Y ++ Q))
 | 0, p, q, _, _, _, hk, _, _ => by omega
 | k + 1, p, q, hsp, hpq, hq, hk, h1, h2 => by
  by_cases he : p = q
  ·subst he;refine ⟨p, hsp, hq, h1, h2, ?_⟩;rw [wj, decide_eq_false (by omega), cond_false]
  ·have hlt : p < q := by omega
   obtain ⟨c, hcd⟩ : ∃ c, c = (p + q) / 2 := ⟨_, rfl⟩
   have hc : c < X.length := by omega
   have hcy : hh - 1 - c < Y.length := by omega
   have e0 : (((P.length : Int) + (p : Int)) + ((P.length : Int) + (q : Int))) / 2 = (P.length : Int) + (c : Int) := by omega
   obtain ⟨x, hx⟩ : ∃ x, X[c]? = some x := ⟨X[c], List.getElem?_eq_getElem hc⟩;obtain ⟨y, hy⟩ : ∃ y, Y[hh - 1 - c]? = some y := ⟨Y[hh - 1 - c], List.getElem?_eq_getElem hcy⟩
   have i1 : ixO (P ++ X ++ Y ++ Q) ((P.length : Int) + (c : Int)) = some x := by
    rw [show P ++ X ++ Y ++ Q = P ++ X ++ (Y ++ Q) by simp, qyc P X (Y ++ Q) hx rfl]
   have i2 : ixO (P ++ X ++ Y ++ Q) (((((a + b) / 2) + m) - 1) - ((P.length : Int) + (c : Int))) = some y := by
    rw [qyc (P ++ X) Y Q hy];rw [hb, hm]; simp; omega
   obtain ⟨v, hv, hd⟩ := w.c y x;rw [wj, decide_eq_true (by omega), cond_true, e0, i2];simp only [zc];rw [i1];simp only [zc];rw [hv];simp only [zc];rw [hd]
   cases hl : lt y x with
   | false =>
    rw [Bool.not_false, cond_true, show ((P.length : Int) + (c : Int)) + 1 = (P.length : Int) + ((c + 1 : Nat) : Int) by omega]
    exact sea5 w P X Y Q hX hY ha hm hb hs hr hr2 k (c + 1) q (by omega) (by omega) hq (by omega) (fun v x' y' hv1 hv2 hx' hy' => by
     -- x' before x, y' behind y
     have g1 := qfl w hX hx' hx (by omega);have g2 := qfl w hY hy hy' (by omega)
     exact w.tr _ _ _ (w.tr _ _ _ g1 hl) g2) h2
   | true =>
    rw [Bool.not_true, cond_false]
    exact sea5 w P X Y Q hX hY ha hm hb hs hr hr2 k p c (by omega) (by omega) (by omega) (by omega) h1 (fun v x' y' hv1 hv2 hx' hy' => by
     have g1 := qfl w hX hx hx' (by omega);have g2 := qfl w hY hy' hy (by omega)
     exact w.lt_of' (w.lt_of g2 hl) g1)
end Go.Sim
