/-
  What is proved: lemmas and contracts of functions on the way to the law topChockBack (part 11).
-/
import Derived.Test.YtfmnmoiaemejjaaGreatVrB1
import Derived.Test.YtfmnmoiaemejjaaGreatVrA3
import Derived.Test.YtfmnmoiaemejjaaGreatVrA7
import Derived.Test.YtfmnmoiaemejjaaGreatVrA9
import Derived.Test.YtfmnmoiaemejjaaGreatVrA8
import Derived.Test.YtfmnmoiaemejjaaGreatVrA2
import Derived.Test.YtfmnmoiaemejjaaGreatVrA6
set_option linter.unusedSectionVars false
set_option linter.unusedSimpArgs false
set_option linter.unusedVariables false
set_option linter.unnecessarySimpa false
set_option linter.deprecated false
set_option maxRecDepth 10000
namespace Go.Sim
open Go.Proofs
def qb2  : List S2062 → Nat → (List S2062) → List S2062
 | [], k3, x1 => x1
 | y4 :: t5, k3, x1 => qb2  t5 (k3 + 1) (x1 ++ [y4])
def qhd (a0 : List S2062) : List S2062 :=
 qb2 a0 0 []
theorem q69 {g : GL} (a0 : List S2062)  (hb : a0.length * 112 ≤ 140737488351232)  : Con (EG g) 32 [G.sl 11 (List.map S2062.c a0)] (G.sl 11 (List.map S2062.c (qhd a0))) := by
 generalize hR : qhd a0 = R;unfold qhd at hR;refine qm Tryz.func32 U U fun w0 M0 => ?_;refine zu (f := S2062.c) (l := a0) 0 U fun hla0 => ?_;refine qb<|qa [.w]<|sw (xa 2 138 11 U U U) U<|qd<|qb<|qa [.w]<|sw (xa 3 138 11 U U U) U<|qd<|qb<|qb<|qa [.p, .p, .p]<|sm U U<|su (zb (f := S2062.c) (l := a0) U Tryz.underlying22 U) U<|sm U U<|qd<|qp<|zf (γ := Nat × (List S2062) × (List S2062)) (fun g => ([(3, .osl 3 11 0 (List.length g.2.2)), (6, .g (G.sl 11 (List.map S2062.c a0))), (7, .g (G.int (List.length a0 : Int))), (8, .g (G.int ((g.1 : Nat) : Int)))], [(3, .arr 138 11 (List.map S2062.c g.2.2))])) (fun g => g.2.2.length ≤ g.1 ∧ g.1 ≤ a0.length ∧ g.2.2.length ≤ g.1 ∧ a0.drop g.1 = g.2.1 ∧ qb2  g.2.1 g.1 g.2.2 = R) (fun g => List.length g.2.1) ⟨U, (0, a0, []), jA, ⟨U, O⟩, U, ⟨iH, iH, iH, U, (by exact hR)⟩, O⟩ ?_
 ·rintro ⟨k3, t5, x1⟩ ⟨iv1_0, iv1_1, iv1_2, hd, hR⟩;replace hd : a0.drop k3 = t5 := hd;replace hR : qb2  t5 k3 x1 = R := hR;replace iv1_0 : x1.length ≤ k3 := iv1_0;replace iv1_1 : k3 ≤ a0.length := iv1_1;replace iv1_2 : x1.length ≤ k3 := iv1_2;refine qb<|qa [.p]<|su (zd U U U) U<|qd ?_;refine zu (f := S2062.c) (l := a0) 6 U fun hlz1 => ?_;refine qb ?_;refine ql _ U (fun h1 => ?_) (fun h1 => ?_)
  ·replace h1 : (decide (((k3 : Nat) : Int) < (List.length a0 : Int))) = true := h1;obtain ⟨y4, t5, rfl, hx1, hd⟩ := zq hd (decT h1);replace h1 := decT h1;rw [qb2] at hR;(try dsimp only at hR);refine qn<|qb<|qp<|qb<|qa [.p, .p, .w, .w]<|su (z5 (f := S2062.c) (l := a0) (a := y4) U Tryz.underlying22 vy U U (Int.natCast_nonneg _) hx1) U<|su (qr U vy U U U) U<|sw (zm 5 U quv U U) U<|je U U (qw (tv := .g (G.agg (S2062.c y4))) U vy U U U U U)<|qd<|qa [.p, .r, .p, .k, .p]<|su (zg U U) U<|sr (zj U vy U U U U) U ?_;refine su (qt U Tryz.underlying91 qcl za6 U (qx U jp) U (by simp [S2062.c, S45.c]) (by decide)) U ?_;refine st_k U U (xb (f := S2062.c) (out := x1) (new := [y4]) U q26 U U (qa6 U (qa5 (by decide) (by simp [S2062.c, S45.c]))) (qkq U) (by simp; omega)) U ?_;refine su (ja U U) U<|qd<|qa [.p, .p]<|su (zn U U U iE) U<|sm U U<|qd ?_;exact ⟨U, (k3 + 1, t5, x1 ++ [y4]), jA, ⟨U, O⟩, U, ⟨iB, iB, iB, hd, hR⟩, by simp⟩
  ·replace h1 : (decide (((k3 : Nat) : Int) < (List.length a0 : Int))) = false := h1;obtain rfl := zz hd (decF h1);rw [qb2] at hR;refine zw<|qb<|qa [.p, .p]<|su (zg U U) U<|su (ja U U) U<|qd<|qo ?_;subst hR;exact za U (qc8 U U)
theorem qsr {y : S5036} (h : qoh y = true) : y.Leases.length ≤ 9 ∧ y.Shares.length ≤ 5 ∧ qk1 y.Request = true := by
 unfold qoh at h;rw [cond_eq_ite] at h
 split at h
 ·cases h
 ·rename_i h1
  simp only [Bool.or_eq_true, Bool.and_eq_true, decide_eq_true_eq, not_or, Bool.not_eq_true', Bool.not_eq_false, not_and, Decidable.not_not, ne_eq] at h1;obtain ⟨⟨⟨a1, a2⟩, a3⟩, a4⟩ := h1;refine ⟨?_, by omega, a1⟩
  by_cases h5 : (4 : Int) < (y.Leases.length : Int)
  ·have := a3 h5; omega
  ·omega
theorem q1s (a : S5025) : ∀ (t : List S5036) (k : Nat), qbi a t k = true → ∀ x ∈ t, qoh x = true
 | [], _, _, x, hx => by cases hx
 | y :: t, k, h, x, hx => by
  rw [qbi] at h;rw [cond_eq_ite] at h
  split at h
  ·cases h
  ·rename_i h1
   rcases List.mem_cons.1 hx with rfl | hx
   ·simpa using h1
   ·exact q1s a t _ h x hx
theorem qpw {a : S5025} (h : qkg a = true) : ∀ x ∈ a.Slots, qoh x = true := by
 unfold qkg at h;rw [cond_eq_ite] at h
 split at h
 ·cases h
 ·exact q1s a _ _ h
theorem q7a {b : Bool} {a : S5025} (h : ((b && qkg a) == true) = true) : ∀ x ∈ a.Slots, x.Leases.length ≤ 1000 ∧ x.Shares.length ≤ 1000 := by
 intro x hx
 have h1 : qkg a = true := by
  simp only [beq_iff_eq, Bool.and_eq_true] at h;exact h.2
 obtain ⟨h2, h3, _⟩ := qsr (qpw h1 x hx)
 omega
def qno (a0 : List S2062) (a1 : S5025) : Option Bool :=
 zc (bif ((qte (qhd a0) 2) && (decide ((qnp (qhd a0)) = 0))) && (qkg a1) then qqx a1 else some default) fun r1 => some ((((qte (qhd a0) 2) && (decide ((qnp (qhd a0)) = 0))) && (qkg a1)) && (decide (r1 = 0)))
theorem zba {g : GL} (a0 : List S2062) (a1 : S5025) {R : Bool}  (hb0 : a0.length * 112 ≤ 140737488351232) (hR : qno a0 a1 = some R) : Con (EG g) 6 [G.sl 11 (List.map S2062.c a0), G.agg [G.sl 16 (List.map S5036.c a1.Slots), G.sl 14 (List.map S5072.c a1.Waiting)]] (G.bool R) := by
 unfold qno at hR;refine qm Tryz.func6 U U fun w0 M0 => ?_;refine zu (f := S2062.c) (l := a0) 0 U fun hla0 => ?_;refine qb<|qa [.p, .p]<|su (zi U U) U<|sa U U<|qd<|qb ?_;obtain ⟨r1, br1, hR⟩ := qh hR;refine qa [.p, .p, .p, .p, .p, .p, .p, .p, .p, .p, .p, .p, .p, .p, .p, .p, .p, .p, .p]<|sm rfl rfl<|su (qg rfl q53 rfl (q69 a0 (by first | assumption | omega | (simp [qi]; done) | (simp [qi]; omega))) (qe rfl qk)) rfl<|su (qg rfl q9r rfl (zb4 (qhd a0) 2) (qe rfl (qe rfl qk))) rfl<|sm rfl rfl<|sg rfl rfl (fun h => qj rfl rfl) rfl<|sg rfl rfl (fun h => qg rfl q53 rfl (q69 a0 (by first | assumption | omega | (simp [qi]; done) | (simp [qi]; omega))) (qe (gd h rfl) qk)) rfl<|sg rfl rfl (fun h => qg rfl q9s rfl (zb5 (qhd a0)) (qe (gd h rfl) qk)) rfl<|sg rfl rfl (fun h => jn rfl (gd h rfl) rfl) rfl<|su (zt rfl rfl rfl rfl) rfl<|sm rfl rfl<|sg rfl rfl (fun h => qr rfl qox rfl rfl rfl) rfl<|sg rfl rfl (fun h => qg rfl q9t rfl (zb6 a1) (qe (gd h rfl) qk)) rfl<|su (zt rfl rfl rfl rfl) rfl<|sm rfl rfl<|sg rfl rfl (fun h => qr rfl qox rfl rfl rfl) rfl<|sg rfl rfl (fun h => qg rfl q9u rfl (zb7 a1 (q7a h) (xm br1 h)) (qe (gd h rfl) qk)) rfl<|sg rfl rfl (fun h => jn rfl (gd h rfl) rfl) rfl<|su (zt rfl rfl rfl rfl) rfl<|sa rfl rfl<|qd<|qo ?_;obtain rfl := Option.some.inj hR;exact za U (rv_g U)
section
variable {E : Env} {w0 : World} {M0 : Nat → Prop}
def G.e0 : G := ⟨fun _ _ u => ∃ b o, u = .slice (some ⟨b, o, none⟩) 0 0, fun h _ _ => h⟩
theorem q39 {o : Oper} {ev : Operand → TV} {t el : TypeId} {k : Nat} {b : Bool} (ho : o.op = .buildSlice t 0 #[]) (ht : E.P.underlying t = some (.slice el)) (he : tyK E.P el = some (k + 1, b)) (mem : Mem) : Eff E o mem ev (.g .e0) :=
 qjp (fun w M ρ e hM hev => by
  refine ⟨.slice (some ⟨w.heap.size, 0, none⟩) 0 0, w.alloc (.cells #[] el), ?_, Grow.alloc w _, w.heap.size, 0, U⟩
  simp [execOp, ho, Instr.buildSlice, underlying, ht, jq he, Instr.fill, newRow, Array.range_zero']) mem
theorem qzv {α : Type} {f : α → List G} {new : List α} {o : Oper} {ev : Operand → TV} {s x : Operand} {t e : TypeId} {k by_ : Nat} (ho : o.op = .call ⟨.builtin .append, #[s, x], #[t, t]⟩) (ha : appK E.P t = some (e, k + 1, by_ + 1)) (hs : ev s = .g .e0)
  (hx : ev x = .g (.sl (k + 1) (new.map f))) (hb : new.length * (by_ + 1) ≤ 140737488355328) (mem : Mem) : Eff E o mem ev (.g (.sl (k + 1) (new.map f))) := by
 intro w0 M0 ρ w e' hm he;obtain ⟨i, z, t1, t2, t3, t4, t5, t6⟩ := qec ha;have h1 := he s (by rw [ho]; simp [Op.operands, Call.operands]);rw [hs] at h1;obtain ⟨b0, o0, h1⟩ := h1;have h2 := he x (by rw [ho]; simp [Op.operands, Call.operands]);rw [hx] at h2;obtain ⟨a, c, v1, v2, v3, v4, v5⟩ := h2
 have hrun : (execOp e' o) = (do pure (.value (← Builtin.append_ #[t, t] o.type #[.slice (some ⟨b0, o0, none⟩) 0 0, .slice a (new.map f).length c])) : Sem Next) := by simp [execOp, ho, resolve, invoke, builtin, h1, v1]
 rw [hrun]
 by_cases hz : (new.map f).length = 0
 ·rw [hz];have hn : new.map f = [] := List.eq_nil_of_length_eq_zero hz
  have hf : (Builtin.firstCells i.size 0 (.slice a 0 c)).run E.P w = .ok #[] w := by
   cases a with
   | none => simp [Builtin.firstCells]
   | some a => simp [Builtin.firstCells, loadCells, loadCellsFrom]
  have hr : (Builtin.append_ #[t, t] o.type #[.slice (some ⟨b0, o0, none⟩) 0 0, .slice a 0 c]).run E.P w = .ok (.slice (some ⟨b0, o0, none⟩) 0 0) w := by
   simp [Builtin.append_, run_underlying t1, sizeOf, typeInfo, t2, Builtin.lenOf, hf, storeCells]
  rw [Sem.run_bind, hr, hn];exact ⟨Grow.refl w, some ⟨b0, o0, none⟩, 0, U, Nat.le_refl _, Nat.zero_le _, by simp, .inl ⟨rfl, fun h => by cases h⟩⟩
 ·have hpos : 0 < (new.map f).length := Nat.pos_of_ne_zero hz;have hfl := qac v4
  rcases v5 with ⟨v5, _⟩ | ⟨b, oo, rfl, v6, v7⟩
  ·rw [v5] at hfl;simp only [List.length_nil] at hfl;have := Nat.mul_pos hpos (show 0 < k + 1 by omega)
   omega
  obtain ⟨vs, w8, w9⟩ := v7.vals
  have hlv : vs.length = (new.map f).length * i.size := by rw [w8.length, hfl, t4]
  have hadd : ∀ j u, vs[j]? = some u → w.cell? ((⟨b, oo, none⟩ : Addr).add j) = some u := fun j u hj => by rw [Addr.add_lit]; exact w9 j u hj
  have hmax : (new.map f).length ≤ maxLen := Nat.le_trans v2 v3
  have h63 : (new.map f).length ≤ 9223372036854775807 := by simp only [maxLen] at hmax; omega
  have hbb : (0 + (new.map f).length) * i.bytes ≤ 140737488355328 := by rw [t5, Nat.zero_add, List.length_map]; exact hb
  have hr := run_append_grow (P := E.P) w t o.type e i z t1 t2 t3 ⟨b0, o0, none⟩ 0 0 [] (by simp) (by simp) ⟨b, oo, none⟩ (new.map f).length c vs hlv hadd (by omega) (by omega) (growslice_fits (by omega) hbb);rw [Sem.run_bind, hr];have hge := grownCap_ge w (0 + (new.map f).length) 0 e;have hle := grownCap_le_maxLen w (0 + (new.map f).length) 0 e (by rw [Nat.zero_add]; exact hmax)
  have hg : Grow w (w.drew.alloc (.cells (([] : List Value).toArray ++ vs.toArray ++ Builtin.zeroCells z.cells (grownCap w (0 + (new.map f).length) 0 e - (0 + (new.map f).length))) e)) :=
   ⟨rfl, rfl, rfl, by simp, fun q hq => RowKit.Below.heap_alloc w.drew _ q hq⟩
  refine ⟨hg, some ⟨w.heap.size, 0, none⟩, grownCap w (0 + (new.map f).length) 0 e, by rw [Nat.zero_add], by omega, hle, v4, .inr ⟨w.heap.size, 0, rfl, fun h => absurd (hm.lt _ h) (Nat.lt_irrefl _), ?_⟩⟩;refine jx (heap_alloc_new w.drew _) (w8.mono (fun q hq _ => hg.block q hq) (fun _ _ h => h)) ?_;intro j u hj;have hjl : j < vs.length := (List.getElem?_eq_some_iff.1 hj).1
  simp
  rw [Array.getElem?_append_left (by simpa using hjl)]
  simpa using hj
end
def qb3 (x2 : List S5100) : List S5072 → Nat → (List S5072) → S5042
 | [], k8, x7 => (S5042.mk x2 x7)
 | y9 :: t10, k8, x7 => qb3 x2 t10 (k8 + 1) (x7 ++ [y9])
def qb4 (rec1 : Nat → (List S5100) → S5042) (x2 : List S5100) (k3 : Nat) (y4 : S5036) : List S5102 → Nat → (List S5102) → S5042
 | [], k13, x12 => rec1 (k3 + 1) (x2 ++ [(S5100.mk (S115.mk y4.Request.Name y4.Request.Carrier y4.Request.Kind y4.Request.Terminal y4.Request.Partner y4.Request.Link (S45.mk y4.Request.Period.fFrom y4.Request.Period.fTo y4.Request.Period.Days) y4.Request.Minute y4.Request.Seats y4.Request.Size y4.Request.Noise) y4.Holder x12 y4.Shares)])
 | y14 :: t15, k13, x12 => qb4 rec1 x2 k3 y4 t15 (k13 + 1) (x12 ++ [y14])
def qau (a0 : S5025) : List S5036 → Nat → (List S5100) → S5042
 | [], k3, x2 => qb3 x2 a0.Waiting 0 ([] : List S5072)
 | y4 :: t5, k3, x2 => qb4 (fun k_ z0_ => qau a0 t5 k_ z0_) x2 k3 y4 y4.Leases 0 ([] : List S5102)
def kg (a0 : S5025) : S5042 :=
 qau a0 a0.Slots 0 ([] : List S5100)
theorem q6k {g : GL} (a0 : S5025)  (hb : a0.Slots.length ≤ 1000) (hb1 : a0.Waiting.length ≤ 1000) (hb2 : ∀ x ∈ a0.Slots, x.Leases.length ≤ 1000 ∧ x.Shares.length ≤ 1000)  : Con (EG g) 10 [G.agg [G.sl 16 (List.map S5036.c a0.Slots), G.sl 14 (List.map S5072.c a0.Waiting)]] (G.agg [G.sl 16 (List.map S5100.c ((kg a0).Slots)), G.sl 14 (List.map S5072.c ((kg a0).Waiting))]) := by
 generalize hR : kg a0 = R;unfold kg at hR;refine qm Tryz.func10 U U fun w0 M0 => ?_;refine qb<|qa [.p, .w]<|su (zi U U) U<|sw (zm 2 U qbm U U) U<|qd<|qb<|qa [.w]<|sw (zm 3 U qbm U U) U<|qd<|qb<|qb<|qey 3 0 2030 16 101 U U U U<|qey 3 1 2031 14 105 U U U U<|qa [.p, .p, .p, .p]<|su (qc U xn U) U<|su (qf U qcm U) U<|su (zb (f := S5036.c) (l := a0.Slots) U Tryz.underlying23 U) U<|sm U U<|qd<|qp<|zf (γ := Nat × (List S5036) × (List S5100)) (fun g => ([(1, .g (G.ref [G.sl 16 (List.map S5036.c a0.Slots), G.sl 14 (List.map S5072.c a0.Waiting)])), (2, .ptr 2 0), (3, .ptr 3 0), (12, .g (G.sl 16 (List.map S5036.c a0.Slots))), (13, .g (G.int (List.length a0.Slots : Int))), (14, .g (G.int ((g.1 : Nat) : Int)))], [(2, .box [.g (G.lit (.slice none 0 0)), .g (G.lit (.slice none 0 0))]), (3, .box [.osl 2030 16 0 (List.length g.2.2), .osl 2031 14 0 (0)]), (2030, .arr 101 16 (List.map S5100.c g.2.2)), (2031, .arr 105 14 (List.map S5072.c ([] : List S5072)))])) (fun g => g.2.2.length ≤ g.1 ∧ a0.Slots.drop g.1 = g.2.1 ∧ qau a0 g.2.1 g.1 g.2.2 = R) (fun g => List.length g.2.1) ⟨U, (0, a0.Slots, ([] : List S5100)), jA, jA, U, ⟨iH, U, (by exact hR)⟩, O⟩ ?_
 ·rintro ⟨k3, t5, x2⟩ ⟨iv1_0, hd, hR⟩;replace hd : a0.Slots.drop k3 = t5 := hd;replace hR : qau a0 t5 k3 x2 = R := hR;replace iv1_0 : x2.length ≤ k3 := iv1_0;refine qb<|qa [.p]<|su (zd U U U) U<|qd ?_;refine zu (f := S5036.c) (l := a0.Slots) 12 U fun hlz1 => ?_;refine qb ?_;refine ql _ U (fun h1 => ?_) (fun h1 => ?_)
  ·replace h1 : (decide (((k3 : Nat) : Int) < (List.length a0.Slots : Int))) = true := h1;obtain ⟨y4, t5, rfl, hx1, hd⟩ := zq hd (decT h1);replace h1 := decT h1;rw [qau] at hR;(try dsimp only at hR);refine qn<|qb<|qp<|qb<|qa [.p, .p, .w, .w]<|su (z5 (f := S5036.c) (l := a0.Slots) (a := y4) U Tryz.underlying23 qc0 U U (Int.natCast_nonneg _) hx1) U<|su (qr U qc0 U U U) U<|sw (zm 5 U q6e U U) U<|je U U (qw (tv := .g (G.agg [G.str y4.Request.Name, G.str y4.Request.Carrier, G.str y4.Request.Kind, G.str y4.Request.Terminal, G.str y4.Request.Partner, G.str y4.Request.Link, G.int y4.Request.Period.fFrom, G.int y4.Request.Period.fTo, G.int y4.Request.Period.Days, G.int y4.Request.Minute, G.int y4.Request.Seats, G.int y4.Request.Size, G.int y4.Request.Noise, G.str y4.Holder, G.sl 3 (List.map S5102.c y4.Leases), G.sl 1 (List.map cStr y4.Shares)])) U qc0 U U U U U)<|qd<|qb<|qgp (l := [(1, .g (G.ref [G.sl 16 (List.map S5036.c a0.Slots), G.sl 14 (List.map S5072.c a0.Waiting)])), (2, .ptr 2 0), (3, .ptr 3 0), (5, .g (G.ref [G.str y4.Request.Name, G.str y4.Request.Carrier, G.str y4.Request.Kind, G.str y4.Request.Terminal, G.str y4.Request.Partner, G.str y4.Request.Link, G.int y4.Request.Period.fFrom, G.int y4.Request.Period.fTo, G.int y4.Request.Period.Days, G.int y4.Request.Minute, G.int y4.Request.Seats, G.int y4.Request.Size, G.int y4.Request.Noise, G.str y4.Holder, G.sl 3 (List.map S5102.c y4.Leases), G.sl 1 (List.map cStr y4.Shares)])), (12, .g (G.sl 16 (List.map S5036.c a0.Slots))), (13, .g (G.int (List.length a0.Slots : Int))), (14, .g (G.int ((k3 : Nat) : Int)))]) (m := [(2, .box [.g (G.lit (.slice none 0 0)), .g (G.lit (.slice none 0 0))]), (3, .box [.osl 2030 16 0 (List.length x2), .osl 2031 14 0 (0)]), (2030, .arr 101 16 (List.map S5100.c x2)), (2031, .arr 105 14 (List.map S5072.c ([] : List S5072)))]) 5 U ⟨.inl ⟨U, U⟩, .inl ⟨U, U⟩, .inl ⟨U, U⟩, .inr (qft U), .inl ⟨U, U⟩, .inl ⟨U, U⟩, .inl ⟨U, U⟩, O⟩ jA U U ?_;have hsh := hb2 _ (List.mem_of_getElem? hx1);refine zr [.p, .p, .p, .p, .p, .p, .p, .p, .p, .w, .w] (by kernel_rfl)<|su (qc U xe U) U<|su (qr U qab U U U) U<|su (qc U qep U) U<|su (qf U ty9 U) U<|su (q39 U Tryz.underlying35 ty9) U<|su (qc U qbb U) U<|su (qf U ty22 U) U<|su (qzv (f := cStr) (new := y4.Shares) U q6a U U (by simp; omega)) U<|su (jk U qj4 U q09 (zp U (zp U (zp U kx))) U) U<|sw (zm 6 U qj4 U U) U<|je U U (qw (tv := .g (G.agg [G.str y4.Request.Name, G.str y4.Request.Carrier, G.str y4.Request.Kind, G.str y4.Request.Terminal, G.str y4.Request.Partner, G.str y4.Request.Link, G.int y4.Request.Period.fFrom, G.int y4.Request.Period.fTo, G.int y4.Request.Period.Days, G.int y4.Request.Minute, G.int y4.Request.Seats, G.int y4.Request.Size, G.int y4.Request.Noise, G.str y4.Holder, G.lit (.slice none 0 0), G.sl 1 (List.map cStr y4.Shares)])) U xd U U U U U)<|qd<|qb<|qb<|qey 6 14 2074 3 104 U U U U<|qa [.p, .p, .p, .p]<|su (qc U qai U) U<|su (qf U qd6 U) U<|su (zb (f := S5102.c) (l := y4.Leases) U Tryz.underlying34 U) U<|sm U U<|qd<|qp<|zf (γ := Nat × (List S5102) × (List S5102)) (fun g => ([(1, .g (G.ref [G.sl 16 (List.map S5036.c a0.Slots), G.sl 14 (List.map S5072.c a0.Waiting)])), (2, .ptr 2 0), (3, .ptr 3 0), (6, .ptr 6 0), (12, .g (G.sl 16 (List.map S5036.c a0.Slots))), (13, .g (G.int (List.length a0.Slots : Int))), (14, .g (G.int ((k3 : Nat) : Int))), (28, .g (G.sl 3 (List.map S5102.c y4.Leases))), (29, .g (G.int (List.length y4.Leases : Int))), (30, .g (G.int ((g.1 : Nat) : Int)))], [(2, .box [.g (G.lit (.slice none 0 0)), .g (G.lit (.slice none 0 0))]), (3, .box [.osl 2030 16 0 (List.length x2), .osl 2031 14 0 (0)]), (6, .box [.g (G.str y4.Request.Name), .g (G.str y4.Request.Carrier), .g (G.str y4.Request.Kind), .g (G.str y4.Request.Terminal), .g (G.str y4.Request.Partner), .g (G.str y4.Request.Link), .g (G.int y4.Request.Period.fFrom), .g (G.int y4.Request.Period.fTo), .g (G.int y4.Request.Period.Days), .g (G.int y4.Request.Minute), .g (G.int y4.Request.Seats), .g (G.int y4.Request.Size), .g (G.int y4.Request.Noise), .g (G.str y4.Holder), .osl 2074 3 0 (List.length g.2.2), .g (G.sl 1 (List.map cStr y4.Shares))]), (2030, .arr 101 16 (List.map S5100.c x2)), (2031, .arr 105 14 (List.map S5072.c ([] : List S5072))), (2074, .arr 104 3 (List.map S5102.c g.2.2))])) (fun g => g.2.2.length ≤ g.1 ∧ y4.Leases.drop g.1 = g.2.1 ∧ qb4 (fun k_ z0_ => qau a0 t5 k_ z0_) x2 k3 y4 g.2.1 g.1 g.2.2 = R) (fun g => List.length g.2.1) ⟨U, (0, y4.Leases, ([] : List S5102)), jA, jA, U, ⟨iH, U, (by exact hR)⟩, O⟩ ?_
   ·rintro ⟨k13, t15, x12⟩ ⟨iv3_0, hd3, hR⟩;replace hd3 : y4.Leases.drop k13 = t15 := hd3;replace hR : qb4 (fun k_ z0_ => qau a0 t5 k_ z0_) x2 k3 y4 t15 k13 x12 = R := hR;replace iv3_0 : x12.length ≤ k13 := iv3_0;refine qb<|qa [.p]<|su (zd U U U) U<|qd ?_;refine zu (f := S5102.c) (l := y4.Leases) 28 U fun hlz3 => ?_;refine qb ?_;refine ql _ U (fun h5 => ?_) (fun h5 => ?_)
    ·replace h5 : (decide (((k13 : Nat) : Int) < (List.length y4.Leases : Int))) = true := h5;obtain ⟨y14, t15, rfl, hx3, hd3⟩ := zq hd3 (decT h5);replace h5 := decT h5;rw [qb4] at hR;(try dsimp only at hR);refine qn<|qb<|qp<|qb<|qa [.p, .p, .w, .w]<|su (z5 (f := S5102.c) (l := y4.Leases) (a := y14) U Tryz.underlying34 qd4 U U (Int.natCast_nonneg _) hx3) U<|su (qr U qd4 U U U) U<|sw (zm 8 U za4 U U) U<|je U U (qw (tv := .g (G.agg (S5102.c y14))) U qd4 U U U U U)<|qd<|qa [.p, .r, .r, .p, .k, .p, .w]<|su (qu U qbr U) U<|sr (zo U qf9 U U U) U<|sr (zj U qd4 U U U U) U ?_;refine su (qt U Tryz.underlying99 qbp qqr U (qx U jp) U (by simp [S5102.c]) (by decide)) U ?_;refine st_k U U (qcj 6 14 U (xb (f := S5102.c) (out := x12) (new := [y14]) U qqp U U (qa6 U (qa5 (by decide) (by simp [S5102.c]))) (qq5 U) (by simp; omega))) U ?_;refine su (qu U qbr U) U<|je U U (qw (tv := .osl 2074 3 0 (List.length (x12 ++ [y14]))) U qf9 U U U U U)<|qd<|qa [.p, .p]<|su (zn U U U iE) U<|sm U U<|qd ?_;exact ⟨U, (k13 + 1, t15, x12 ++ [y14]), jA, jA, U, ⟨iB, hd3, hR⟩, by simp⟩
    ·replace h5 : (decide (((k13 : Nat) : Int) < (List.length y4.Leases : Int))) = false := h5;obtain rfl := zz hd3 (decF h5);rw [qb4] at hR;refine zw<|qds (l := [(1, .g (G.ref [G.sl 16 (List.map S5036.c a0.Slots), G.sl 14 (List.map S5072.c a0.Waiting)])), (2, .ptr 2 0), (3, .ptr 3 0), (6, .ptr 6 0), (12, .g (G.sl 16 (List.map S5036.c a0.Slots))), (13, .g (G.int (List.length a0.Slots : Int))), (14, .g (G.int ((k3 : Nat) : Int)))]) (m := [(2, .box [.g (G.lit (.slice none 0 0)), .g (G.lit (.slice none 0 0))]), (3, .box [.osl 2030 16 0 (List.length x2), .osl 2031 14 0 (0)]), (6, .box [.g (G.str y4.Request.Name), .g (G.str y4.Request.Carrier), .g (G.str y4.Request.Kind), .g (G.str y4.Request.Terminal), .g (G.str y4.Request.Partner), .g (G.str y4.Request.Link), .g (G.int y4.Request.Period.fFrom), .g (G.int y4.Request.Period.fTo), .g (G.int y4.Request.Period.Days), .g (G.int y4.Request.Minute), .g (G.int y4.Request.Seats), .g (G.int y4.Request.Size), .g (G.int y4.Request.Noise), .g (G.str y4.Holder), .g (G.sl 3 (List.map S5102.c x12)), .g (G.sl 1 (List.map cStr y4.Shares))]), (2030, .arr 101 16 (List.map S5100.c x2)), (2031, .arr 105 14 (List.map S5072.c ([] : List S5072)))]) 6 14 2074 3 _ U U U ((List.length_map ..).trans U) jA jA U U<|qa [.p, .r, .r, .p, .k, .p, .w]<|su (qu U xw U) U<|sr (zo U qc1 U U U) U<|sr (zj U xd U U U U) U ?_;refine su (qt U Tryz.underlying40 xd qj4 U (qx U jp) U (by exact lens rfl) (by decide)) U ?_;refine st_k U U (qcj 3 0 U (xb (f := S5100.c) (out := x2) (new := [(S5100.mk (S115.mk y4.Request.Name y4.Request.Carrier y4.Request.Kind y4.Request.Terminal y4.Request.Partner y4.Request.Link (S45.mk y4.Request.Period.fFrom y4.Request.Period.fTo y4.Request.Period.Days) y4.Request.Minute y4.Request.Seats y4.Request.Size y4.Request.Noise) y4.Holder x12 y4.Shares)]) U qm4 U U (qa6 U (qa5 (by decide) (by simp [S5100.c, S115.c, S45.c, S5102.c]))) (qq5 U) (by simp; omega))) U ?_;refine su (qu U xw U) U<|je U U (qw (tv := .osl 2030 16 0 (List.length (x2 ++ [(S5100.mk (S115.mk y4.Request.Name y4.Request.Carrier y4.Request.Kind y4.Request.Terminal y4.Request.Partner y4.Request.Link (S45.mk y4.Request.Period.fFrom y4.Request.Period.fTo y4.Request.Period.Days) y4.Request.Minute y4.Request.Seats y4.Request.Size y4.Request.Noise) y4.Holder x12 y4.Shares)]))) U qc1 U U U U U)<|qd<|qa [.p, .p]<|su (zn U U U iE) U<|sm U U<|qd ?_;exact ⟨U, (k3 + 1, t5, x2 ++ [(S5100.mk (S115.mk y4.Request.Name y4.Request.Carrier y4.Request.Kind y4.Request.Terminal y4.Request.Partner y4.Request.Link (S45.mk y4.Request.Period.fFrom y4.Request.Period.fTo y4.Request.Period.Days) y4.Request.Minute y4.Request.Seats y4.Request.Size y4.Request.Noise) y4.Holder x12 y4.Shares)]), jA, jA, U, ⟨iB, hd, hR⟩, by simp⟩
  ·replace h1 : (decide (((k3 : Nat) : Int) < (List.length a0.Slots : Int))) = false := h1;obtain rfl := zz hd (decF h1);rw [qau] at hR;refine zw<|qb<|qb<|qa [.p, .p, .p, .p]<|su (qc U qah U) U<|su (qf U qd5 U) U<|su (zb (f := S5072.c) (l := a0.Waiting) U Tryz.underlying24 U) U<|sm U U<|qd<|qp<|zf (γ := Nat × (List S5072) × (List S5072)) (fun g => ([(2, .ptr 2 0), (3, .ptr 3 0), (49, .g (G.sl 14 (List.map S5072.c a0.Waiting))), (50, .g (G.int (List.length a0.Waiting : Int))), (51, .g (G.int ((g.1 : Nat) : Int)))], [(2, .box [.g (G.lit (.slice none 0 0)), .g (G.lit (.slice none 0 0))]), (3, .box [.osl 2030 16 0 (List.length x2), .osl 2031 14 0 (List.length g.2.2)]), (2030, .arr 101 16 (List.map S5100.c x2)), (2031, .arr 105 14 (List.map S5072.c g.2.2))])) (fun g => g.2.2.length ≤ g.1 ∧ a0.Waiting.drop g.1 = g.2.1 ∧ qb3 x2 g.2.1 g.1 g.2.2 = R) (fun g => List.length g.2.1) ⟨U, (0, a0.Waiting, ([] : List S5072)), jA, jA, U, ⟨iH, U, (by exact hR)⟩, O⟩ ?_
   ·rintro ⟨k8, t10, x7⟩ ⟨iv2_0, hd2, hR⟩;replace hd2 : a0.Waiting.drop k8 = t10 := hd2;replace hR : qb3 x2 t10 k8 x7 = R := hR;replace iv2_0 : x7.length ≤ k8 := iv2_0;refine qb<|qa [.p]<|su (zd U U U) U<|qd ?_;refine zu (f := S5072.c) (l := a0.Waiting) 49 U fun hlz2 => ?_;refine qb ?_;refine ql _ U (fun h3 => ?_) (fun h3 => ?_)
    ·replace h3 : (decide (((k8 : Nat) : Int) < (List.length a0.Waiting : Int))) = true := h3;obtain ⟨y9, t10, rfl, hx2, hd2⟩ := zq hd2 (decT h3);replace h3 := decT h3;rw [qb3] at hR;(try dsimp only at hR);refine qn<|qb<|qp<|qb<|qa [.p, .p, .w, .w]<|su (z5 (f := S5072.c) (l := a0.Waiting) (a := y9) U Tryz.underlying24 qc2 U U (Int.natCast_nonneg _) hx2) U<|su (qr U qc2 U U U) U<|sw (zm 10 U q6f U U) U<|je U U (qw (tv := .g (G.agg (S5072.c y9))) U qc2 U U U U U)<|qd<|qa [.p, .r, .r, .p, .k, .p, .w]<|su (qu U qcy U) U<|sr (zo U qie U U U) U<|sr (zj U qc2 U U U U) U ?_;refine su (qt U Tryz.underlying41 qfj q6d U (qx U jp) U (by simp [S5072.c, S115.c, S45.c]) (by decide)) U ?_;refine st_k U U (qcj 3 1 U (xb (f := S5072.c) (out := x7) (new := [y9]) U qur U U (qa6 U (qa5 (by decide) (by simp [S5072.c, S115.c, S45.c]))) (qq5 U) (by simp; omega))) U ?_;refine su (qu U qcy U) U<|je U U (qw (tv := .osl 2031 14 0 (List.length (x7 ++ [y9]))) U qie U U U U U)<|qd<|qa [.p, .p]<|su (zn U U U iE) U<|sm U U<|qd ?_;exact ⟨U, (k8 + 1, t10, x7 ++ [y9]), jA, jA, U, ⟨iB, hd2, hR⟩, by simp⟩
    ·replace h3 : (decide (((k8 : Nat) : Int) < (List.length a0.Waiting : Int))) = false := h3;obtain rfl := zz hd2 (decF h3);rw [qb3] at hR;refine zw<|qb<|qds (l := [(2, .ptr 2 0), (3, .ptr 3 0)]) (m := [(2, .box [.g (G.lit (.slice none 0 0)), .g (G.lit (.slice none 0 0))]), (3, .box [.g (G.sl 16 (List.map S5100.c x2)), .osl 2031 14 0 (List.length x7)]), (2031, .arr 105 14 (List.map S5072.c x7))]) 3 0 2030 16 _ U U U ((List.length_map ..).trans U) ⟨U, U, O⟩ ⟨U, U, U, O⟩ U U<|qds (l := [(2, .ptr 2 0), (3, .ptr 3 0)]) (m := [(2, .box [.g (G.lit (.slice none 0 0)), .g (G.lit (.slice none 0 0))]), (3, .box [.g (G.sl 16 (List.map S5100.c x2)), .g (G.sl 14 (List.map S5072.c x7))])]) 3 1 2031 14 _ U U U ((List.length_map ..).trans U) ⟨U, U, O⟩ ⟨U, U, O⟩ U U<|qa [.r, .w]<|sr (zj U jc U U U U) U<|je U U (qw (tv := .g (G.agg [G.sl 16 (List.map S5100.c x2), G.sl 14 (List.map S5072.c x7)])) U jc U U U U U)<|qd<|qo ?_;subst hR;exact za U (qad U U jc U U)
theorem qju {α : Type} {l : List α} {n : Nat} {x : α} (h : ixO l ((n : Nat) : Int) = some x) : l[n]? = some x := by
 have := zh h; rwa [Int.toNat_natCast] at this
theorem qht {s : ByteArray} : qdg s = 0 ↔ s147 s = true := by unfold qdg; rw [qdy]; cases s91 s <;> simp
theorem q7b (a : ByteArray) : ∀ (l : List ByteArray) (k : Nat), qgy a l k = true ↔ a ∈ l
 | [], k => by rw [qgy]; simp
 | y :: t, k => by
  rw [qgy]
  by_cases h : y = a
  ·subst h; simp
  ·rw [decide_eq_false h, cond_false, q7b a t, List.mem_cons];exact ⟨.inr, fun q => q.resolve_left fun e => h e.symm⟩
theorem q7c (l : List ByteArray) (a : ByteArray) : s92 l a = true ↔ a ∈ l := q7b a l 0
theorem q1t (a0 : S5036) : ∀ (k n : Nat), jy a0 k 0 ((n : Nat) : Int) = some 0 → ∀ j c, n ≤ j → a0.Shares[j]? = some c → s147 c = true ∧ ¬ c = a0.Holder ∧ ¬ c ∈ a0.Shares.take j
 | 0, n, h => by rw [jy] at h; cases h
 | k + 1, n, h => by
  intro j c hj hc;have hjl : j < a0.Shares.length := (List.getElem?_eq_some_iff.1 hc).1;rw [jy, cond_eq_ite] at h;rw [if_pos (by rw [decide_eq_true (show ((n : Nat) : Int) < (a0.Shares.length : Int) by omega)]; rfl)] at h;obtain ⟨y, hy, h⟩ := qh h;have hy' := qju hy;obtain ⟨y', hy2, h⟩ := qh h
  have fin : ∀ e : Int, e ≠ 0 → qbd (fun z0_ z1_ => jy a0 k z0_ z1_) a0 ((n : Nat) : Int) e = some 0 → False := by
   intro e he hq;unfold qbd at hq;rw [decide_eq_false he] at hq;simp only [cond_false, Bool.false_and] at hq;obtain ⟨_, _, hq⟩ := qh hq;replace hq : jy a0 k e (((n : Nat) : Int) + 1) = some 0 := hq
   cases k with
   | zero => rw [jy] at hq; cases hq
   | succ k =>
    rw [jy, decide_eq_false he, Bool.and_false, cond_false] at hq;exact he (Option.some.inj hq)
  rw [cond_eq_ite] at h
  split at h
  ·exact (fin 31 (by decide) h).elim
  rename_i c1
  by_cases h0 : qdg y = 0
  ·rw [h0] at h hy2 c1;rw [decide_eq_true rfl, cond_true] at hy2;have e2 : y' = y := Option.some.inj (hy2.symm.trans hy);rw [e2] at c1
   have c1 : ¬ y = a0.Holder := by simpa using c1
   unfold qbd at h;rw [decide_eq_true (show (0 : Int) = 0 from rfl)] at h;simp only [cond_true, Bool.true_and] at h;obtain ⟨y2, hy3, h⟩ := qh h;have e3 : y2 = y := Option.some.inj (hy3.symm.trans hy);rw [e3, Int.toNat_natCast] at h;rw [cond_eq_ite] at h
   split at h
   ·replace h : jy a0 k 9 (((n : Nat) : Int) + 1) = some 0 := h
    cases k with
    | zero => rw [jy] at h; cases h
    | succ k => rw [jy, decide_eq_false (show ¬ (9 : Int) = 0 by decide), Bool.and_false, cond_false] at h; cases h
   rename_i c2
   unfold qe0 at h
   by_cases e : j = n
   ·subst e;have : c = y := Option.some.inj (hc.symm.trans hy');rw [this];exact ⟨qht.1 h0, c1, fun hm => c2 ((q7c _ _).2 hm)⟩
   ·exact q1t a0 k (n + 1) h j c (by omega) hc
  ·exact (fin _ h0 h).elim
theorem qzw (a0 : S5036) {x : Int} (h : qbv a0 x = some 0) : x = 0 ∧ ∀ j c, a0.Shares[j]? = some c → s147 c = true ∧ ¬ c = a0.Holder ∧ ¬ c ∈ a0.Shares.take j := by
 unfold qbv at h
 by_cases hx : x = 0
 ·subst hx; exact ⟨rfl, fun j c hc => q1t a0 _ 0 h j c (Nat.zero_le _) hc⟩
 ·rw [jy, decide_eq_false hx, Bool.and_false, cond_false] at h;exact absurd (Option.some.inj h) hx
theorem q1u (a0 : S5036) : ∀ (k n : Nat), vc a0 k 0 ((n : Nat) : Int) = some 0 → (∀ j l, n ≤ j → a0.Leases[j]? = some l → qgf l = 0 ∧ qgg a0 l = 0 ∧ (0 < j → ∀ q, a0.Leases[j - 1]? = some q → q.fTo < l.fFrom)) ∧
  a0.Shares.length ≤ 4 ∧ ∀ j c, a0.Shares[j]? = some c → s147 c = true ∧ ¬ c = a0.Holder ∧ ¬ c ∈ a0.Shares.take j
 | 0, n, h => by rw [vc] at h; cases h
 | k + 1, n, h => by
  rw [vc, cond_eq_ite] at h
  split at h
  ·rename_i c0
   have c0 : ((n : Nat) : Int) < (a0.Leases.length : Int) := by simpa using c0
   obtain ⟨y6, h6, h⟩ := qh h;obtain ⟨y7, h7, h⟩ := qh h;have e7 : y7 = y6 := Option.some.inj (h7.symm.trans h6);subst e7;obtain ⟨y8, h8, h⟩ := qh h;obtain ⟨y9, h9, h⟩ := qh h
   have fin : ∀ e : Int, e ≠ 0 → qc6 (fun z0_ z1_ => vc a0 k z0_ z1_) ((n : Nat) : Int) e = some 0 → False := by
    intro e he hq;replace hq : vc a0 k e (((n : Nat) : Int) + 1) = some 0 := hq
    cases k with
    | zero => rw [vc] at hq; cases hq
    | succ k =>
     rw [vc, decide_eq_false he, Bool.and_false, cond_false, Bool.false_and, cond_false] at hq;exact he (qzw a0 hq).1
   rw [cond_eq_ite] at h
   split at h
   ·exact (fin 15 (by decide) h).elim
   rename_i c1
   by_cases h0 : s89 [qgf y7, qgg a0 y7] = 0
   ·rw [h0] at h;unfold qc6 at h;obtain ⟨g1, g2, g3⟩ := q1u a0 k (n + 1) h;refine ⟨fun j l hj hl => ?_, g2, g3⟩
    by_cases e : j = n
    ·subst e;have el : l = y7 := Option.some.inj (hl.symm.trans (qju h6));have hz := (qgz _).1 h0;rw [el];refine ⟨hz _ (by simp), hz _ (by simp), fun hj0 q hq => ?_⟩;rw [h0, decide_eq_true (show (0 : Int) = 0 from rfl), decide_eq_true (show (0 : Int) < ((j : Nat) : Int) by omega)] at h8 h9 c1;simp only [Bool.true_and, cond_true, Bool.and_self] at h8 h9 c1;have e8 : y8 = y7 := Option.some.inj (h8.symm.trans h6)
     have e9 : y9 = q := by
      have : ixO a0.Leases (((j : Nat) : Int) - 1) = ixO a0.Leases ((j - 1 : Nat) : Int) := by congr 1; omega
      rw [this] at h9;exact Option.some.inj ((qju h9).symm.trans hq)
     rw [e8, e9] at c1
     have c1 : ¬ y7.fFrom ≤ q.fTo := by simpa using c1
     omega
    ·exact g1 j l (by omega) hl
   ·exact (fin _ h0 h).elim
  ·rename_i c0
   have c0 : ¬ ((n : Nat) : Int) < (a0.Leases.length : Int) := by simpa using c0
   rw [cond_eq_ite] at h
   split at h
   ·have := (qzw a0 h).1; omega
   rename_i c1
   have c1 : ¬ (4 : Int) < (a0.Shares.length : Int) := by simpa using c1
   refine ⟨fun j l hj hl => ?_, by omega, (qzw a0 h).2⟩;have := (List.getElem?_eq_some_iff.1 hl).1
   omega
def vl (y : S5036) : S5100 := S5100.mk y.Request y.Holder y.Leases y.Shares
theorem qwc {r : S115} (h : qhu r = 0) : ReqV r := by
 unfold qhu qe1 at h;rw [cond_eq_ite] at h
 split at h
 ·cases h
 rename_i c1
 have h1 := q7d h;refine ⟨h1, fun e => c1 ?_⟩;rw [h, decide_eq_true (show (0 : Int) = 0 from rfl), Bool.true_and];refine decide_eq_true ?_;rw [qc7 h1.per] at e;rw [qhe _ h1.per];have e : dayL r.Period.Days (r.Period.fTo + 1 - r.Period.fFrom).toNat r.Period.fFrom = [] := e;rw [e]; rfl
theorem qpx {y : S5036} {l : S5102} (h1 : qgf l = 0) (h2 : qgg y l = 0) : LeaseV (vl y) l := by
 unfold qgf qe2 at h1;rw [cond_eq_ite] at h1
 split at h1
 ·cases h1
 rename_i c1
 have hz := (qgz _).1 h1;rw [h1, decide_eq_true (show (0 : Int) = 0 from rfl), Bool.true_and] at c1
 have c1 : ¬ l.fTo < l.fFrom := by simpa using c1
 have d : ∀ n, s109 n = 0 → 0 ≤ n ∧ n ≤ 99999 := fun n hn => by unfold s109 at hn; exact qav.1 hn
 unfold qgg at h2;rw [cond_eq_ite] at h2
 split at h2
 ·cases h2
 rename_i c2
 rw [cond_eq_ite] at h2
 split at h2
 ·cases h2
 rename_i c3
 simp only [Bool.or_eq_true, decide_eq_true_eq, not_or] at c2;exact ⟨qht.1 (hz _ (by simp)), d _ (hz (s109 l.fFrom) (by simp)), d _ (hz (s109 l.fTo) (by simp)), by omega, by show y.Request.Period.fFrom ≤ _ ∧ _ ≤ y.Request.Period.fTo; omega, by show ¬ l.Carrier = y.Holder; simpa using c3⟩
theorem qzx {y : S5036} (h : qo8 y = some 0) : SlotV (vl y) := by
 unfold qo8 at h
 have key : s89 [qhu y.Request, qdg y.Holder] = 0 ∧ y.Leases.length ≤ 8 ∧ qao y 0 = some 0 := by
  have nz : ∀ e : Int, qao y e = some 0 → e = 0 := by
   intro e hq
   by_cases he : e = 0
   ·exact he
   ·unfold qao at hq;rw [vc, decide_eq_false he, Bool.and_false, cond_false, Bool.false_and, cond_false] at hq;exact (qzw y hq).1
  rw [cond_eq_ite] at h
  split at h
  ·have := nz _ h; omega
  rename_i c1
  have h0 := nz _ h;rw [h0] at h c1;rw [decide_eq_true (show (0 : Int) = 0 from rfl), Bool.true_and] at c1
  have c1 : ¬ (8 : Int) < (y.Leases.length : Int) := by simpa using c1
  exact ⟨h0, by omega, h⟩
 obtain ⟨k1, k2, k3⟩ := key;unfold qao at k3;obtain ⟨g1, g2, g3⟩ := q1u y _ 0 k3;have hz := (qgz _).1 k1
 have hlp : ∀ j (hj : j < y.Leases.length), ∀ i (hi : i < j), (y.Leases[i]'(by omega)).fTo < (y.Leases[j]).fFrom := by
  intro j
  induction j with
  | zero => intro hj i hi; omega
  | succ j ih =>
   intro hj i hi;have q1 := (g1 (j + 1) _ (Nat.zero_le _) (List.getElem?_eq_getElem hj)).2.2 (Nat.succ_pos _) _ (List.getElem?_eq_getElem (show j < y.Leases.length by omega))
   by_cases e : i = j
   ·subst e; exact q1
   ·have q2 := ih (by omega) i (by omega);have q3 := g1 j _ (Nat.zero_le _) (List.getElem?_eq_getElem (show j < y.Leases.length by omega));have q4 := (qpx q3.1 q3.2.1).o
    omega
 refine ⟨qwc (hz (qhu y.Request) (by simp)), qht.1 (hz (qdg y.Holder) (by simp)), k2, fun l hl => ?_, ?_, g2, fun c hc => ?_, ?_⟩
 ·obtain ⟨j, hj⟩ := List.mem_iff_getElem?.1 hl;have := g1 j l (Nat.zero_le _) hj;exact qpx this.1 this.2.1
 ·show y.Leases.Pairwise _;exact List.pairwise_iff_getElem.2 fun i j hi hj hij => hlp j hj i hij
 ·obtain ⟨j, hj⟩ := List.mem_iff_getElem?.1 hc;have := g3 j c hj;exact ⟨this.1, this.2.1⟩
 ·show y.Shares.Nodup;refine List.pairwise_iff_getElem.2 fun i j hi hj hij e => ?_;refine (g3 j _ (List.getElem?_eq_getElem hj)).2.2 ?_;rw [List.mem_iff_getElem];exact ⟨i, by rw [List.length_take]; omega, by rw [List.getElem_take]; exact e⟩
theorem qew (n : ByteArray) : ∀ (l : List S5036) (k : Nat), 0 ≤ qb5 n l k ↔ ∃ x ∈ l, x.Request.Name = n
 | [], k => by rw [qb5]; simp
 | y :: t, k => by
  rw [qb5]
  by_cases h : y.Request.Name = n
  ·rw [decide_eq_true h, cond_true]; simp [h]
  ·rw [decide_eq_false h, cond_false, qew n t]; simp [h]
theorem qhf (n : ByteArray) : ∀ (l : List S5072) (k : Nat), 0 ≤ qb6 n l k ↔ ∃ x ∈ l, x.Request.Name = n
 | [], k => by rw [qb6]; simp
 | y :: t, k => by
  rw [qb6]
  by_cases h : y.Request.Name = n
  ·rw [decide_eq_true h, cond_true]; simp [h]
  ·rw [decide_eq_false h, cond_false, qhf n t]; simp [h]
theorem q7e (a0 : S5025) : ∀ (t : List S5036) (k : Nat), a0.Slots.drop k = t → vn a0 t k = some 0 → (∀ j y, k ≤ j → a0.Slots[j]? = some y → qo8 y = some 0 ∧ ∀ x ∈ a0.Slots.take j, ¬ x.Request.Name = y.Request.Name) ∧ a0.Waiting.length ≤ 64 ∧ kp a0 a0.Waiting 0 = some 0
 | [], k, hd, h => by
  rw [vn, cond_eq_ite] at h
  split at h
  ·cases h
  rename_i c1
  have c1 : ¬ (64 : Int) < (a0.Waiting.length : Int) := by simpa using c1
  refine ⟨fun j y hj hy => ?_, by omega, h⟩;have h1 := (List.getElem?_eq_some_iff.1 hy).1;have h2 := congrArg List.length hd;rw [List.length_drop] at h2
  simp at h2; omega
 | y :: t, k, hd, h => by
  obtain ⟨h1, h2, h3⟩ := qea hd;rw [vn] at h;obtain ⟨r, hr, h⟩ := qh h
  have j3 : ∀ e : Int, qby (fun k_ => vn a0 t k_) k e = some 0 → e = 0 ∧ vn a0 t (k + 1) = some 0 := by
   intro e hq;unfold qby at hq
   by_cases he : e = 0
   ·subst he; rw [decide_eq_false (by simp), cond_false] at hq; exact ⟨rfl, hq⟩
   ·rw [decide_eq_true he, cond_true] at hq; exact absurd (Option.some.inj hq) he
  rw [cond_eq_ite] at h
  split at h
  ·have := (j3 _ h).1; omega
  rename_i c1
  obtain ⟨hr0, h⟩ := j3 _ h;rw [hr0] at hr c1;rw [decide_eq_true (show (0 : Int) = 0 from rfl), Bool.true_and] at c1;obtain ⟨g1, g2⟩ := q7e a0 t (k + 1) h2 h;refine ⟨fun j z hj hz => ?_, g2⟩
  by_cases e : j = k
  ·subst e;have ez : z = y := Option.some.inj (hz.symm.trans h1);rw [ez];refine ⟨hr, fun x hx hxe => c1 (decide_eq_true ?_)⟩;rw [Int.toNat_natCast];unfold qfq;exact (qew _ _ _).2 ⟨x, hx, hxe⟩
  ·exact g1 j z (by omega) hz
theorem q7f (a0 : S5025) : ∀ (t : List S5072) (k : Nat), a0.Waiting.drop k = t → a0.Waiting.length ≤ 1000 → kp a0 t k = some 0 → ∀ j y, k ≤ j → a0.Waiting[j]? = some y → qpy y = 0 ∧ (∀ x ∈ a0.Slots, ¬ x.Request.Name = y.Request.Name) ∧ (∀ x ∈ a0.Waiting.take j, ¬ x.Request.Name = y.Request.Name) ∧ (0 < j → ∀ q, a0.Waiting[j - 1]? = some q → qq9 q y = true)
 | [], k, hd, _, h => by
  intro j y hj hy;have h1 := (List.getElem?_eq_some_iff.1 hy).1;have h2 := congrArg List.length hd;rw [List.length_drop] at h2
  simp at h2; omega
 | y :: t, k, hd, hl, h => by
  obtain ⟨h1, h2, h3⟩ := qea hd;rw [kp] at h
  have j1 : ∀ e : Int, qbw (fun k_ => kp a0 t k_) k e = some 0 → e = 0 ∧ kp a0 t (k + 1) = some 0 := by
   intro e hq;unfold qbw at hq
   by_cases he : e = 0
   ·subst he; rw [decide_eq_false (by simp), cond_false] at hq; exact ⟨rfl, hq⟩
   ·rw [decide_eq_true he, cond_true] at hq; exact absurd (Option.some.inj hq) he
  have j2 : ∀ e : Int, qbx (fun k_ => kp a0 t k_) a0 k y e = some 0 → e = 0 ∧ kp a0 t (k + 1) = some 0 ∧ (0 < k → ∀ q, a0.Waiting[k - 1]? = some q → qq9 q y = true) := by
   intro e hq;unfold qbx at hq;obtain ⟨p, hp, hq⟩ := qh hq;rw [cond_eq_ite] at hq
   split at hq
   ·have := (j1 _ hq).1; omega
   rename_i c1
   obtain ⟨e0, hq⟩ := j1 _ hq;refine ⟨e0, hq, fun hk q hqk => ?_⟩;subst e0;rw [decide_eq_true (show (0 : Int) = 0 from rfl), decide_eq_true (show (0 : Int) < ((k : Nat) : Int) by omega)] at hp c1;simp only [Bool.and_self, cond_true, Bool.true_and] at hp c1;rw [wrap_i64 (by unfold I64; omega)] at hp
   have : p = q := by
    have e1 : ixO a0.Waiting (((k : Nat) : Int) - 1) = ixO a0.Waiting ((k - 1 : Nat) : Int) := by congr 1; omega
    rw [e1] at hp;exact Option.some.inj ((qju hp).symm.trans hqk)
   subst this
   simpa using c1
  rw [cond_eq_ite] at h
  split at h
  ·have := (j2 _ h).1; omega
  rename_i c1
  obtain ⟨g1, g2, g3⟩ := j2 _ h;rw [g1, decide_eq_true (show (0 : Int) = 0 from rfl), Bool.true_and] at c1;simp only [Bool.or_eq_true, decide_eq_true_eq, not_or] at c1;intro j z hj hz
  by_cases e : j = k
  ·subst e;have ez : z = y := Option.some.inj (hz.symm.trans h1);rw [ez];refine ⟨g1, fun x hx hxe => c1.1 ?_, fun x hx hxe => c1.2 ?_, g3⟩
   ·unfold qfq; exact (qew _ _ _).2 ⟨x, hx, hxe⟩
   ·rw [Int.toNat_natCast]; unfold qke; exact (qhf _ _ _).2 ⟨x, hx, hxe⟩
  ·exact q7f a0 t (k + 1) h2 hl g2 j z (by omega) hz
theorem qzy {a b c : S5072} (h : qra a b) (k : qra b c) : qra a c := by
 rcases h with h | ⟨h1, h⟩ <;> rcases k with k | ⟨k1, k⟩
 ·exact .inl (by omega)
 ·exact .inl (by omega)
 ·exact .inl (by omega)
 ·exact .inr ⟨by omega, qzz h k⟩
theorem qz0 {α : Type} {r : α → α → Prop} (tr : ∀ {a b c}, r a b → r b c → r a c) {l : List α} (h : ∀ j y q, 0 < j → l[j]? = some y → l[j - 1]? = some q → r q y) : l.Pairwise r := by
 refine List.pairwise_iff_getElem.2 fun i j hi hj hij => ?_
 induction j with
 | zero => omega
 | succ j ih =>
  have q1 := h (j + 1) _ _ (Nat.succ_pos _) (List.getElem?_eq_getElem hj) (List.getElem?_eq_getElem (show j + 1 - 1 < l.length by omega))
  by_cases e : i = j
  ·subst e; exact q1
  ·exact tr (ih (by omega) (by omega)) q1
theorem qwd (x2 : List S5100) : ∀ (l : List S5072) (k : Nat) (x : List S5072), qb3 x2 l k x = S5042.mk x2 (x ++ l)
 | [], k, x => by rw [qb3, List.append_nil]
 | y :: t, k, x => by rw [qb3, qwd x2 t]; simp
theorem qwe (rec1 : Nat → (List S5100) → S5042) (x2 : List S5100) (k3 : Nat) (y4 : S5036) : ∀ (l : List S5102) (k : Nat) (x : List S5102), qb4 rec1 x2 k3 y4 l k x = rec1 (k3 + 1) (x2 ++ [S5100.mk y4.Request y4.Holder (x ++ l) y4.Shares])
 | [], k, x => by rw [qb4, List.append_nil]
 | y :: t, k, x => by rw [qb4, qwe rec1 x2 k3 y4 t]; simp
theorem qwf (a0 : S5025) : ∀ (l : List S5036) (k : Nat) (x : List S5100), qau a0 l k x = S5042.mk (x ++ l.map vl) a0.Waiting
 | [], k, x => by rw [qau, qwd]; simp
 | y :: t, k, x => by rw [qau, qwe, qwf a0 t]; simp [vl]
theorem wx (a0 : S5025) : kg a0 = S5042.mk (a0.Slots.map vl) a0.Waiting := by unfold kg; rw [qwf]; rfl
theorem qz1 {a0 : S5025} (h : qqx a0 = some 0) : BookV (kg a0) := by
 unfold qqx at h;rw [cond_eq_ite] at h
 split at h
 ·cases h
 rename_i c1
 have c1 : ¬ (64 : Int) < (a0.Slots.length : Int) := by simpa using c1
 obtain ⟨g1, g2, g3⟩ := q7e a0 _ 0 rfl h;have g4 := q7f a0 _ 0 rfl (by omega) g3;rw [wx];refine ⟨by show (a0.Slots.map vl).length ≤ 64; rw [List.length_map]; omega, g2, fun x hx => ?_, fun w hw => ?_, ?_, ?_⟩
 ·obtain ⟨y, hy, rfl⟩ := List.mem_map.1 hx;obtain ⟨j, hj⟩ := List.mem_iff_getElem?.1 hy;exact qzx (g1 j y (Nat.zero_le _) hj).1
 ·obtain ⟨j, hj⟩ := List.mem_iff_getElem?.1 hw;have := (g4 j w (Nat.zero_le _) hj).1;unfold qpy at this;have hz := (qgz _).1 this;exact ⟨qwc (hz _ (by simp)), qav.1 (hz (s90 w.Rank 0 999999999) (by simp))⟩
 ·have e : ju (a0.Slots.map vl) = a0.Slots.map fun x => x.Request.Name := by unfold ju; rw [List.map_map]; rfl
  show (ju (a0.Slots.map vl) ++ qan a0.Waiting).Nodup;rw [e];refine List.nodup_append.2 ⟨?_, ?_, ?_⟩
  ·refine List.pairwise_iff_getElem.2 fun i j hi hj hij he => ?_;rw [List.length_map] at hi hj;rw [List.getElem_map, List.getElem_map] at he;refine (g1 j _ (Nat.zero_le _) (List.getElem?_eq_getElem hj)).2 (a0.Slots[i]) ?_ he;rw [List.mem_iff_getElem];exact ⟨i, by rw [List.length_take]; omega, by rw [List.getElem_take]⟩
  ·refine List.pairwise_iff_getElem.2 fun i j hi hj hij he => ?_;unfold qan at hi hj he;rw [List.length_map] at hi hj;rw [List.getElem_map, List.getElem_map] at he;refine (g4 j _ (Nat.zero_le _) (List.getElem?_eq_getElem hj)).2.2.1 (a0.Waiting[i]) ?_ he;rw [List.mem_iff_getElem];exact ⟨i, by rw [List.length_take]; omega, by rw [List.getElem_take]⟩
  ·intro a ha b hb hab;obtain ⟨x, hx, rfl⟩ := List.mem_map.1 ha;obtain ⟨w, hw, rfl⟩ := List.mem_map.1 hb;obtain ⟨j, hj⟩ := List.mem_iff_getElem?.1 hw;exact (g4 j w (Nat.zero_le _) hj).2.1 x hx hab
 ·refine qz0 (r := qra) (fun {a b c} h k => qzy h k) fun j y q hj hy hq => ?_;have := (g4 j y (Nat.zero_le _) hy).2.2.2 hj q hq;unfold qq9 at this;unfold qra
  simpa using this
theorem qme (f : S2062 → Bool) : ∀ (l : List S2062) (k : Nat), 0 ≤ qb7 f l k ↔ ∃ x ∈ l, f x = true
 | [], k => by rw [qb7]; simp
 | y :: t, k => by
  rw [qb7]
  cases h : f y with
  | true => simp [h]
  | false => rw [cond_false, qme f t]; simp [h]
theorem qmf (n : ByteArray) : ∀ (l : List S2062) (k : Nat), 0 ≤ qb8 n l k ↔ ∃ x ∈ l, x.Name = n
 | [], k => by rw [qb8]; simp
 | y :: t, k => by
  rw [qb8]
  by_cases h : y.Name = n
  ·rw [decide_eq_true h, cond_true]; simp [h]
  ·rw [decide_eq_false h, cond_false, qmf n t]; simp [h]
theorem qwg {k : ByteArray} (h : k = (⟨#[65]⟩ : ByteArray) ∨ k = (⟨#[68]⟩ : ByteArray) ∨ k = (⟨#[84]⟩ : ByteArray)) : mhas kindL k = true := by
 rcases h with rfl | rfl | rfl <;> decide
theorem qz2 {l : S2062} (h : LimR l) : qgu l = 0 :=
 qmc.2 ⟨h.n, qwg h.k, by
  have := h.t;unfold qrb at this;rw [qdy]
  simpa using this, h.le, h.st, h.f, h.o, by have := h.ft; omega, h.per, h.mo⟩
theorem qwh (a0 : List S2062) : ∀ (t : List S2062) (k : Nat), a0.drop k = t → qdb a0 t k = 0 → qbg a0 t k = 0
 | [], _, _, _ => rfl
 | y :: t, k, hd, h => by
  obtain ⟨h1, h2, h3⟩ := qea hd;rw [qdb, cond_eq_ite] at h
  split at h
  ·rename_i c; simp at c; exact absurd h c
  rename_i c1
  rw [cond_eq_ite] at h
  split at h
  ·cases h
  rename_i c2
  have hl := qz2 (q1v (by simpa using c1))
  have hz : vr [(qgu y), (xk (decide (0 ≤ (qkz (List.take (Int.toNat ((k : Nat) : Int)) a0) y.Name))) 9)] = 0 := j8.2 fun x hx => by
   simp only [List.mem_cons, List.not_mem_nil, or_false] at hx
   rcases hx with rfl | rfl
   ·exact hl
   ·refine (xj (by decide)).2 (decide_eq_false fun hq => c2 (decide_eq_true ?_));unfold qkz qwi at hq;obtain ⟨x, hx, hxe⟩ := (qme _ _ _).1 hq;unfold qt7;exact (qmf _ _ _).2 ⟨x, hx, by simpa [qt8] using hxe⟩
  rw [qbg, hz, decide_eq_false (by simp), cond_false];exact qwh a0 t (k + 1) h2 h
theorem qz3 {a0 : List S2062} (h : qnp a0 = 0) : qa8 a0 = 0 := by
 unfold qnp at h;rw [cond_eq_ite] at h
 split at h
 ·cases h
 rename_i c1
 unfold qa8;rw [decide_eq_false (by simpa using c1), cond_false];exact qwh a0 _ 0 U h
theorem qwj : ∀ (l : List S2062) (k : Nat) (x : List S2062), qb2 l k x = x ++ l
 | [], k, x => by rw [qb2, List.append_nil]
 | y :: t, k, x => by rw [qb2, qwj t]; simp
theorem qss (l : List S2062) : qhd l = l := by unfold qhd; rw [qwj]; rfl
structure OpenV (a0 : List S2062) (a1 : S5025) : Prop where
 lims : qa8 a0 = 0
 ref : qnp a0 = 0
 book : BookV (kg a1)
 sl : a1.Slots.length ≤ 5
 wl : a1.Waiting.length ≤ 5
 bs : ∀ x ∈ a1.Slots, x.Request.Period.fTo - x.Request.Period.fFrom < 14
 bw : ∀ x ∈ a1.Waiting, x.Request.Period.fTo - x.Request.Period.fFrom < 14
theorem qz4 {p : S45} (h : s102 p = 0) : s40 p = 0 := by
 obtain ⟨q1, q2, q3, q4, q5, q6⟩ := j7 _ h
 have d : ∀ n : Int, 0 ≤ n → n ≤ 99999 → s109 n = 0 := fun n h1 h2 => by unfold s109; exact qav.2 ⟨h1, h2⟩
 unfold s40;rw [d _ q1 (by omega), d _ (by omega) (by omega), decide_eq_false (show ¬ p.fTo < p.fFrom by omega), wrap_i64 (by unfold I64; omega), decide_eq_false (show ¬ 400 < p.fTo - p.fFrom by omega)];exact qav.2 ⟨q5, q6⟩
theorem qst {r : S115} (hv : RqOk r) (h : qk1 r = true) : r.Period.fTo - r.Period.fFrom < 14 := by
 unfold qk1 at h;rw [qz4 hv.per] at h;obtain ⟨q1, q2, q3, q4, q5, q6⟩ := j7 _ hv.per;rw [wrap_i64 (by unfold I64; omega)] at h;simp only [Bool.and_eq_true, Bool.or_eq_true, decide_eq_true_eq, ne_eq, not_true_eq_false, false_or] at h;exact h.2
theorem q7g : ∀ (t : List S5072) (k : Nat), qb9 t k = true → ∀ x ∈ t, qk1 x.Request = true
 | [], _, _, x, hx => by cases hx
 | y :: t, k, h, x, hx => by
  rw [qb9, cond_eq_ite] at h
  split at h
  ·cases h
  ·rename_i h1
   rcases List.mem_cons.1 hx with rfl | hx
   ·simpa using h1
   ·exact q7g t _ h x hx
theorem qwk (a : S5025) : ∀ (t : List S5036) (k : Nat), qbi a t k = true → qb9 a.Waiting 0 = true
 | [], _, h => h
 | y :: t, k, h => by
  rw [qbi, cond_eq_ite] at h
  split at h
  ·cases h
  ·exact qwk a t _ h
theorem q4a {a0 : List S2062} {a1 : S5025} (h : qno a0 a1 = some true) : OpenV a0 a1 := by
 unfold qno at h;obtain ⟨r, hr, h⟩ := qh h;have h := Option.some.inj h;simp only [Bool.and_eq_true, decide_eq_true_eq] at h;obtain ⟨⟨⟨h1, h2⟩, h3⟩, h4⟩ := h;rw [qss] at h1 h2;rw [qss, h1, h2, h3, decide_eq_true (show (0 : Int) = 0 from rfl)] at hr;simp only [Bool.and_self, cond_true] at hr;subst h4;have hb := qz1 hr;have h3' := h3;unfold qkg at h3;rw [cond_eq_ite] at h3
 split at h3
 ·cases h3
 rename_i c1
 simp only [Bool.or_eq_true, Bool.and_eq_true, decide_eq_true_eq, not_or, not_and, Decidable.not_not, ne_eq] at c1;have e := wx a1;have hsl := hb.sl;have hwl := hb.wl;rw [e] at hsl hwl;have hsl : (a1.Slots.map vl).length ≤ 64 := hsl;have hwl : a1.Waiting.length ≤ 64 := hwl;rw [List.length_map] at hsl;refine ⟨qz3 h2, h2, hb, ?_, ?_, fun x hx => ?_, fun x hx => ?_⟩
 ·by_cases c : (5 : Int) < (a1.Slots.length : Int)
  ·have := c1.1 c; omega
  ·omega
 ·by_cases c : (5 : Int) < (a1.Waiting.length : Int)
  ·have := c1.2 c; omega
  ·omega
 ·have hv := hb.s (vl x) (by rw [e]; exact List.mem_map_of_mem hx);exact qst hv.rq.ok (qsr (qpw h3' x hx)).2.2
 ·have hv := hb.w x (by rw [e]; exact hx);exact qst hv.rq.ok (q7g _ 0 (qwk a1 _ 0 h3) x hx)
def mvOf (r : S115) (d : Int) : S1079 := S1079.mk (1440 * d + r.Minute) r.Kind r.Terminal r.Seats r.Size r.Noise r.Name
def mvs (r : S115) : List S1079 := (s69 r.Period).1.map (mvOf r)
theorem qwl {r : S115} (hm : 0 ≤ r.Minute ∧ r.Minute ≤ 1439) : ∀ (t : List Int), (∀ d ∈ t, 0 ≤ d ∧ d ≤ 99999) → ∀ (k : Nat) (x : List S1079), qb1 r t k x = x ++ t.map (mvOf r)
 | [], _, k, x => by rw [qb1]; simp
 | d :: t, hd, k, x => by
  have h := hd d List.mem_cons_self;rw [qb1, qwl hm t (fun y hy => hd y (List.mem_cons_of_mem _ hy)), wrap_i64 (n := 1440 * d) (by unfold I64; omega), wrap_i64 (by unfold I64; omega)]
  simp [mvOf]
theorem qz5 {r : S115} (h : RqOk r) : qt5 r = mvs r := by
 unfold qt5 mvs;rw [qwl h.m _ (qev h.per)]; rfl
theorem qsu {r : S115} (h : RqOk r) : qlo r = (mvs r, 0) := by
 unfold qlo;rw [qwm h, decide_eq_false (by simp), cond_false, qz5 h]
theorem qsv {p : S45} (hp : s102 p = 0) : (s69 p).1.Pairwise (· < ·) := by
 rw [qc7 hp]
 have key : ∀ (m : Int) (n : Nat) (f : Int), (dayL m n f).Pairwise (· < ·) := by
  intro m n
  induction n with
  | zero => intro f; exact List.Pairwise.nil
  | succ n ih =>
   intro f;unfold dayL
   split
   ·exact List.Pairwise.cons (fun d hd => by have := qaf _ _ _ d hd; omega) (ih _)
   ·exact ih _
 exact key _ _ _
theorem q1k {r : S115} (h : RqOk r) : (∀ m ∈ mvs r, MvOk m) ∧ ((mvs r).map S1079.Moment).Pairwise (· ≤ ·) := by
 constructor
 ·intro m hm;obtain ⟨d, hd, rfl⟩ := List.mem_map.1 hm;have h1 := qev h.per d hd;have h2 := h.m; have h3 := h.s; have h4 := h.z; have h5 := h.no;refine ⟨by show 0 ≤ 1440 * d + r.Minute; omega, by show 1440 * d + r.Minute ≤ 143999999; omega, h.k, ?_, h3.1, h3.2, ?_, h4.2, h5.1, h5.2, h.n⟩
  ·show r.Terminal = _ ∨ _;have ht := h.t;unfold qhv at ht;show r.Terminal = _ ∨ s147 r.Terminal = true;rw [qdy]
   simpa using ht
  ·show 0 ≤ r.Size; omega
 ·unfold mvs;rw [List.map_map, List.pairwise_map]
  exact (qsv h.per).imp fun {a b} hab => by show 1440 * a + r.Minute ≤ 1440 * b + r.Minute; omega
theorem q4b {r : S115} (h : RqOk r) (hb : r.Period.fTo - r.Period.fFrom < 14) : (mvs r).length ≤ 14 := by
 unfold mvs;rw [List.length_map, qc7 h.per];have := qgx r.Period.Days (r.Period.fTo + 1 - r.Period.fFrom).toNat r.Period.fFrom;show (dayL r.Period.Days (r.Period.fTo + 1 - r.Period.fFrom).toNat r.Period.fFrom).length ≤ 14
 omega
theorem qwn {r : S115} (h : RqOk r) (hb : r.Period.fTo - r.Period.fFrom < 14) : qap (mvs r) = some 0 := (qgv (by have := q4b h hb; omega)).2 (q1k h)
def mrg (a b : List S1079) : List S1079 := ((qpz a b).getD ([], 0)).1
theorem q7h {a b : List S1079} (ha : qap a = some 0) (hb : qap b = some 0) (hl : a.length + b.length ≤ 30000) : qpz a b = some (mrg a b, 0) ∧ (mrg a b).Perm (a ++ b) ∧ Srt ltM (mrg a b) ∧ qap (mrg a b) = some 0 := by
 obtain ⟨Z, h1, h2, h3, h4⟩ := qz6 ha hb hl
 have e : mrg a b = Z := by unfold mrg; rw [h1]; rfl
 rw [e];exact ⟨h1, h2, h3, h4⟩
def bmv : List S1079 → List S115 → List S1079
 | x, [] => x
 | x, r :: t => bmv (mrg x (mvs r)) t
structure Brf (r : S115) : Prop where
 ok : RqOk r
 b : r.Period.fTo - r.Period.fFrom < 14
structure MvV (x : List S1079) (n : Nat) : Prop where
 z : qap x = some 0
 l : x.length ≤ n
theorem qz7 {x : List S1079} {n : Nat} {r : S115} (h : MvV x n) (hr : Brf r) (hn : n ≤ 20000) : MvV (mrg x (mvs r)) (n + 14) ∧ qpz x (qlo r).1 = some (mrg x (mvs r), 0) ∧ (mrg x (mvs r)).Perm (x ++ mvs r) ∧ Srt ltM (mrg x (mvs r)) := by
 have hl := q4b hr.ok hr.b;have h1 := h.l;obtain ⟨g1, g2, g3, g4⟩ := q7h h.z (qwn hr.ok hr.b) (by omega);refine ⟨⟨g4, by rw [g2.length_eq, List.length_append]; omega⟩, by rw [qsu hr.ok]; exact g1, g2, g3⟩
theorem qwo : ∀ (t : List S115) (x : List S1079) (n : Nat), (∀ r ∈ t, Brf r) → MvV x n → n + t.length * 14 ≤ 20000 → qca t x = some (bmv x t) ∧ MvV (bmv x t) (n + t.length * 14) ∧ (bmv x t).Perm (x ++ t.flatMap mvs) ∧ (Srt ltM x → Srt ltM (bmv x t))
 | [], x, n, _, h, _ => ⟨rfl, by simpa [bmv] using h, by simp [bmv], fun h => h⟩
 | r :: t, x, n, hr, h, hn => by
  rw [List.length_cons] at hn;obtain ⟨g1, g2, g3, g4⟩ := qz7 h (hr r List.mem_cons_self) (by omega);obtain ⟨k1, k2, k3, k4⟩ := qwo t (mrg x (mvs r)) (n + 14) (fun q hq => hr q (List.mem_cons_of_mem _ hq)) g1 (by omega);refine ⟨by rw [qca, g2]; exact k1, ?_, ?_, fun _ => k4 g4⟩
  ·have e : n + (r :: t).length * 14 = n + 14 + t.length * 14 := by rw [List.length_cons]; omega
   rw [e]; exact k2
  ·show (bmv (mrg x (mvs r)) t).Perm (x ++ (r :: t).flatMap mvs);rw [List.flatMap_cons, ← List.append_assoc];exact k3.trans (List.Perm.append_right _ g3)
theorem qwp : MvV [] 0 := ⟨by rfl, Nat.le_refl _⟩
theorem qly {b : S5042} (h : ∀ x ∈ b.Slots, Brf x.Request) (hn : b.Slots.length ≤ 1000) : qfx b (-1) = some (bmv [] (b.Slots.map S5100.Request)) ∧ MvV (bmv [] (b.Slots.map S5100.Request)) (b.Slots.length * 14) := by
 obtain ⟨g1, g2, _⟩ := qwo (b.Slots.map S5100.Request) [] 0 (fun r hr => by
  obtain ⟨x, hx, rfl⟩ := List.mem_map.1 hr
  exact h x hx) qwp (by rw [List.length_map]; omega)
 rw [List.length_map, Nat.zero_add] at g2;exact ⟨g1, g2⟩
def fit (ls : List S2062) (ms : List S1079) (r : S115) : Bool := !inI r.Minute (ivs ms r ls)
def acc (ls : List S2062) : List S1079 → List S5072 → List S5072
 | _, [] => []
 | ms, w :: t => bif fit ls ms w.Request then w :: acc ls (mrg ms (mvs w.Request)) t else acc ls ms t
def zeb (w : S5072) : S5100 := qa7 w.Request
theorem qp0 {x : S5100} (h : SlotV x) : x.Leases.length ≤ 1000000 ∧ x.Shares.length ≤ 1000000 := by
 have := h.ln; have := h.sn; omega
structure BkB (b : S5042) : Prop where
 v : BookV b
 s : ∀ x ∈ b.Slots, Brf x.Request
 w : ∀ x ∈ b.Waiting, Brf x.Request
 n : b.Slots.length + b.Waiting.length ≤ 30
def bM (b : S5042) : List S1079 := bmv [] (b.Slots.map S5100.Request)
theorem qz8 {r : S115} (h : ReqV r) : SlotV (qa7 r) := ⟨h, h.ok.c, Nat.zero_le _, (fun l hl => nomatch hl), List.Pairwise.nil, Nat.zero_le _, (fun c hc => nomatch hc), List.Pairwise.nil⟩
theorem qnr {b : S5042} (h : BkB b) : qhc b = some (bM b, 0) := by
 have hn := h.n;obtain ⟨g1, g2⟩ := qly h.s (by omega);unfold qhc;rw [qk2 h.v];simp only [zc];rw [decide_eq_false (by simp), cond_false, g1]
 rfl
theorem qz9 (l : S2062) {a b : List S1079} (h : a.Perm b) : (ofL l a).Perm (ofL l b) := by unfold ofL; exact (h.filter _).map _
theorem qwq {a b : List Int} (h : a.Perm b) (x n : Int) : cntI a x n = cntI b x n := by unfold cntI; rw [(h.filter _).length_eq]
theorem q4c (l : S2062) (a b : List S1079) : ofL l (a ++ b) = ofL l a ++ ofL l b := by unfold ofL; rw [List.filter_append, List.map_append]
theorem q0a (a b : List Int) (x n : Int) : cntI (a ++ b) x n = cntI a x n + cntI b x n := by unfold cntI; rw [List.filter_append, List.length_append]; omega
theorem q4d {l : List Int} (h : l.Pairwise fun a b => a + 1440 ≤ b) {x n : Int} (hn : n ≤ 1440) : cntI l x n ≤ 1 := by
 unfold cntI;have h1 := h.filter (fun y => decide (x ≤ y) && decide (y < x + n));generalize hf : l.filter (fun y => decide (x ≤ y) && decide (y < x + n)) = f at h1
 have hm : ∀ y ∈ f, x ≤ y ∧ y < x + n := fun y hy => by
  rw [← hf] at hy;have := (List.mem_filter.1 hy).2
  simpa using this
 match f, h1, hm with
 | [], _, _ => exact Int.zero_le_ofNat 1
 | [_], _, _ => exact Int.le_refl _
 | a :: b :: _, h1, hm =>
  have q1 := hm a (by simp);have q2 := hm b (by simp);have q3 := (List.pairwise_cons.1 h1).1 b (by simp)
  omega
theorem q4e {a0 : List S2062} {a1 : S5025} (h : OpenV a0 a1) : BkB (kg a1) := by
 have hb := h.book;refine ⟨hb, ?_, ?_, ?_⟩
 ·intro x hx;have hv := hb.s x hx;rw [wx] at hx;obtain ⟨y, hy, rfl⟩ := List.mem_map.1 hx;exact ⟨hv.rq.ok, h.bs y hy⟩
 ·intro x hx;have hv := hb.w x hx;rw [wx] at hx;exact ⟨hv.rq.ok, h.bw x hx⟩
 ·rw [wx];show (a1.Slots.map vl).length + a1.Waiting.length ≤ 30;have := h.sl; have := h.wl;rw [List.length_map]; omega
theorem q1w {b : S5042} (h : ∀ x ∈ b.Slots, Brf x.Request) (hn : b.Slots.length ≤ 57) : ∀ r, qfx b (-1) = some r → r.length ≤ 800 := by
 intro r hr;obtain ⟨g1, g2⟩ := qly h (by omega);rw [g1] at hr
 cases hr
 have := g2.l; omega
structure QIn (a0 : List S2062) (a1 : S5025) : Prop where
 o : OpenV a0 a1
 b : BkB (kg a1)
theorem q_in {a0 : List S2062} {a1 : S5025} {r1 : Bool} (h : qno a0 a1 = some r1) (h1 : r1 = true) : QIn a0 a1 := by
 rw [h1] at h;have := q4a h;exact ⟨this, q4e this⟩
theorem QIn.slots {a0 : List S2062} {a1 : S5025} (h : QIn a0 a1) : ∀ x ∈ a1.Slots, x.Leases.length ≤ 1000 ∧ x.Shares.length ≤ 1000 := by
 intro x hx;have hv := h.b.v.s (vl x) (by rw [wx]; exact List.mem_map_of_mem hx);have h1 : x.Leases.length ≤ 8 := hv.ln;have h2 : x.Shares.length ≤ 4 := hv.sn
 omega
theorem QIn.bw {a0 : List S2062} {a1 : S5025} (h : QIn a0 a1) : ∀ x ∈ a1.Waiting, Brf x.Request := by
 intro x hx;exact h.b.w x (by rw [wx]; exact hx)
theorem QIn.wl {a0 : List S2062} {a1 : S5025} (h : QIn a0 a1) : (kg a1).Waiting.length ≤ 5 ∧ (kg a1).Slots.length ≤ 5 := by
 have := h.o.sl; have := h.o.wl;rw [wx];show a1.Waiting.length ≤ 5 ∧ (a1.Slots.map vl).length ≤ 5;rw [List.length_map]; omega
theorem QIn.w14 {a0 : List S2062} {a1 : S5025} (h : QIn a0 a1) : ∀ x ∈ (kg a1).Waiting, ((qlo x.Request).1).length ≤ 14 := by
 intro x hx;have := h.b.w x hx;rw [qsu this.ok];exact q4b this.ok this.b
theorem QIn.mv {a0 : List S2062} {a1 : S5025} (h : QIn a0 a1) : ∀ r, qfx (kg a1) (-1) = some r → r.length ≤ 800 := q1w h.b.s (by have := h.wl; omega)
theorem qqv {b : S5042} (h : BkB b) : ∀ r, qhc b = some r → r.1.length ≤ 1000 := by
 intro r hr;rw [qnr h] at hr
 cases hr
 have hn := h.n;obtain ⟨_, g2⟩ := qly h.s (by omega);have := g2.l;show (bM b).length ≤ 1000;unfold bM; omega
theorem q0b {ls : List S2062} {b : S5042} {r : S115} {R : S5042 × Int} (h : qfe ls b r = some R) (h0 : R.2 = 0) : R.1.Slots = b.Slots ++ [qa7 r] ∧ R.1.Waiting = b.Waiting := by
 unfold qfe at h;obtain ⟨r1, h1, h2⟩ := qh h;rw [cond_eq_ite] at h2
 split at h2
 ·rename_i c
  cases h2
  have c : vu [qa8 ls, r1] ≠ 0 := by simpa using c
  exact absurd h0 c
 obtain ⟨r2, h3, h4⟩ := qh h2
 cases h4
 have h0 : r2.2 = 0 := h0;unfold qwr at h3;rw [cond_eq_ite] at h3
 split at h3
 ·rename_i c
  cases h3
  have c : vu [(qdt r), (jv (qfg b r.Name) 9), (jv (decide (64 ≤ (List.length b.Slots : Int))) 5)] ≠ 0 := by simpa using c
  exact absurd h0 c
 obtain ⟨r3, _, h5⟩ := qh h3;obtain ⟨r4, _, h6⟩ := qh h5;rw [cond_eq_ite] at h6
 split at h6
 ·cases h6; cases h0
 obtain ⟨r5, h7, h8⟩ := qh h6
 cases h8
 have e := qjv h7;rw [e];exact ⟨U, U⟩
structure LkS (x y : S5100) : Prop where
 rq : y.Request = x.Request
 le : y.Leases = x.Leases
 v : SlotV y
def LkL (l m : List S5100) : Prop := m.length = l.length ∧ ∀ (i : Nat) (x y : S5100), l[i]? = some x → m[i]? = some y → LkS x y
structure Lk (b c : S5042) : Prop where
 s : LkL b.Slots c.Slots
 w : c.Waiting = b.Waiting
theorem LkL.rqs {l m : List S5100} (h : LkL l m) : m.map S5100.Request = l.map S5100.Request := by
 apply List.ext_getElem?
 intro i;rw [List.getElem?_map, List.getElem?_map]
 cases hx : l[i]? with
 | none =>
  have : m[i]? = none := by rw [List.getElem?_eq_none_iff] at hx ⊢; have := h.1; omega
  rw [this]
 | some x =>
  have hi := (List.getElem?_eq_some_iff.1 hx).1;have hy : m[i]? = some (m[i]'(by have := h.1; omega)) := List.getElem?_eq_getElem _;rw [hy];simp only [Option.map_some];rw [(h.2 i x _ hx hy).rq]
theorem LkL.mem {l m : List S5100} (h : LkL l m) {y : S5100} (hy : y ∈ m) : ∃ x ∈ l, LkS x y := by
 obtain ⟨i, hi, rfl⟩ := List.mem_iff_getElem.1 hy
 have hl : i < l.length := by have := h.1; omega
 exact ⟨l[i], List.getElem_mem hl, h.2 i _ _ (List.getElem?_eq_getElem hl) (List.getElem?_eq_getElem hi)⟩
theorem Lk.bM {b c : S5042} (h : Lk b c) : bM c = bM b := by
 unfold Go.Sim.bM; rw [h.s.rqs]
theorem Lk.refl {b : S5042} (hb : BkB b) : Lk b b := ⟨⟨rfl, fun i x y hx hy => by
 rw [hx] at hy; cases hy
 exact ⟨U, U, hb.v.s x (List.mem_of_getElem? hx)⟩⟩, U⟩
theorem Lk.trans {b c d : S5042} (h : Lk b c) (k : Lk c d) : Lk b d := ⟨⟨k.s.1.trans h.s.1, fun i x z hx hz => by
 have hi := (List.getElem?_eq_some_iff.1 hx).1;have hy : c.Slots[i]? = some (c.Slots[i]'(by have := h.s.1; omega)) := List.getElem?_eq_getElem _;have h1 := h.s.2 i x _ hx hy;have h2 := k.s.2 i _ z hy hz
 exact ⟨h2.rq.trans h1.rq, h2.le.trans h1.le, h2.v⟩⟩, k.w.trans h.w⟩
theorem qws (f : S5100 → Bool) : ∀ (l : List S5100) (k : Nat), 0 ≤ xc f l k → ∃ j x, xc f l k = ((k + j : Nat) : Int) ∧ l[j]? = some x ∧ f x = true
 | [], k, h => by rw [xc] at h; omega
 | y :: t, k, h => by
  rw [xc, cond_eq_ite] at h ⊢
  split at h
  ·rename_i c
   rw [if_pos c];exact ⟨0, y, by simp, rfl, c⟩
  ·rename_i c
   rw [if_neg c];obtain ⟨j, x, h1, h2, h3⟩ := qws f t (k + 1) h;exact ⟨j + 1, x, by rw [h1]; congr 1; omega, by simpa using h2, h3⟩
theorem q4f {b : S5042} {n : ByteArray} (h : 0 ≤ wv b n) : ∃ j x, wv b n = ((j : Nat) : Int) ∧ b.Slots[j]? = some x ∧ x.Request.Name = n := by
 unfold wv qp1 at h ⊢;obtain ⟨j, x, h1, h2, h3⟩ := qws _ _ _ h;refine ⟨j, x, by rw [h1]; congr 1; omega, h2, ?_⟩;unfold qhw at h3;exact of_decide_eq_true h3
theorem qdw {α : Type} {l : List α} {j : Nat} {x : α} (h : l[j]? = some x) : ixO l ((j : Nat) : Int) = some x := by
 unfold ixO; rw [decide_eq_true (by omega), cond_true, Int.toNat_natCast]; exact h
theorem q0c {b : S5042} {n : ByteArray} : qk3 b n = 0 ↔ 0 ≤ wv b n := by
 unfold qk3; rw [wg (by decide), decide_eq_false_iff_not]; omega
theorem qwt {r : S115} (hm : 0 ≤ r.Minute ∧ r.Minute ≤ 1439) : ∀ (t : List Int), (∀ d ∈ t, 0 ≤ d ∧ d ≤ 99999) → ∀ (k : Nat) (x : List S1079), qcb r t k x = x ++ t.map (mvOf r)
 | [], _, k, x => by rw [qcb]; simp
 | d :: t, hd, k, x => by
  have h := hd d List.mem_cons_self;rw [qcb, qwt hm t (fun y hy => hd y (List.mem_cons_of_mem _ hy)), wrap_i64 (n := 1440 * d) (by unfold I64; omega), wrap_i64 (by unfold I64; omega)]
  simp [mvOf]
theorem qy5 {r : S115} (h : RqOk r) : qcq r = mvs r := by
 have e : (s69 r.Period).1 = s104 r.Period := by rw [qc7 h.per, qhe _ h.per]
 have hd := qev h.per;unfold qcq mvs;rw [e] at hd ⊢;rw [qwt h.m _ hd]; rfl
def qis (a0 : S5042) (a1 : ByteArray) (a2 : ByteArray) (a3 : Int) : Option (S5042 × Int) :=
 zc (qp2 a0) fun r1 => (bif decide (r1 ≠ 0) then some ((S5042.mk [] []), r1) else zc (qwu a0 a1 a2 a3) fun r2 => some (r2.1, r2.2))
theorem q6l {g : GL} (a0 : S5042) (a1 : ByteArray) (a2 : ByteArray) (a3 : Int) {R : S5042 × Int}  (hb : a0.Slots.length ≤ 1000000) (hb1 : a0.Waiting.length ≤ 1000000) (hl : ∀ a ∈ a0.Slots, a.Leases.length ≤ 1000000) (hR : qis a0 a1 a2 a3 = some R) : Con (EG g) 9 [G.agg [G.sl 16 (List.map S5100.c a0.Slots), G.sl 14 (List.map S5072.c a0.Waiting)], G.str a1, G.str a2, G.int a3] (G.tup [G.agg [G.sl 16 (List.map S5100.c R.1.Slots), G.sl 14 (List.map S5072.c R.1.Waiting)], G.int R.2]) := by
 unfold qis at hR;refine qm Tryz.func9 U U fun w0 M0 => ?_;refine qb<|qa [.p, .w, .p]<|su (zi U U) U<|sw (zm 8 U qbm U U) U<|sa U U<|qd<|qb<|qb ?_;obtain ⟨r1, br1, hR⟩ := qh hR;refine qa [.p, .p, .p]<|su (qr U jc U U U) U<|su (qg U q22 U (q4g a0 br1) (qe U qk)) U<|sa U U<|qd<|qb<|qa [.p, .p]<|sm U U<|su (zx U U U) U<|qd ?_;refine ql _ U (fun h1 => ?_) (fun h1 => ?_)
 ·replace h1 : (decide (r1 ≠ 0)) = true := h1;replace hR := zk hR h1;(try simp only [bB] at h1);refine qb<|qa [.p, .p, .w, .p]<|su (jk U qbm U qfi kx U) U<|sm U U<|je U U (qw (tv := .g (G.agg [G.lit (.slice none 0 0), G.lit (.slice none 0 0)])) U jc U U U U U)<|sa U U<|qd<|qo ?_;obtain rfl := Option.some.inj hR;exact resN U ⟨q1x (qad U U jc U U) (qfy ⟨qaw _, qaw _, O⟩), rv_g U, O⟩ (by simp)
 ·replace h1 : (decide (r1 ≠ 0)) = false := h1;replace hR := zl hR h1;(try simp only [bB] at h1);refine qn<|qb ?_;obtain ⟨r2, br2, hR⟩ := qh hR;refine qa [.p, .p, .p, .p, .p, .p, .p, .w, .p]<|su (qr U jc U U U) U<|sm U U<|sm U U<|sm U U<|su (qg U q9v U (zb8 a0 a1 a2 a3 hb hb1 hl br2) (qe U (qe U (qe U (qe U qk))))) U<|su (qv U U U) U<|su (qv U U U) U<|je U U (qw (tv := .g (G.agg [G.sl 16 (List.map S5100.c r2.1.Slots), G.sl 14 (List.map S5072.c r2.1.Waiting)])) U jc U U U U U)<|sa U U<|qd<|qo ?_;obtain rfl := Option.some.inj hR;exact resN U ⟨qad U U jc U U, rv_g U, O⟩ (by simp)
theorem nbG {x y : Bool} (h : (x == false && y) = true) : (!x && y) = true := by cases x <;> simpa using h
theorem qqw {a0 : List S2062} {a1 : S5025} (h : QIn a0 a1) {y : S5036} {i : Int} (hy : ixO a1.Slots i = some y) : y ∈ a1.Slots ∧ ReqV y.Request := by
 have hm : y ∈ a1.Slots := List.mem_of_getElem? (zh hy);exact ⟨hm, (h.b.v.s (vl y) (by rw [wx]; exact List.mem_map_of_mem hm)).rq⟩
theorem qu6 {r : S115} (h : ReqV r) : 1 ≤ (s104 r.Period).length := by
 have h1 := h.ne;rw [qc7 h.ok.per, ← qhe _ h.ok.per] at h1;exact List.length_pos_iff.2 h1
theorem qtd {b : S5042} (h : BkB b) : ∀ a ∈ b.Slots, a.Leases.length ≤ 1000000 := fun a ha => by
 have := (h.v.s a ha).ln; omega
theorem qvc {b : S5042} {h n : ByteArray} {d : Int} {r : S5042 × Int} (hr : qis b h n d = some r) : r.1.Slots.length ≤ b.Slots.length := by
 unfold qis at hr;obtain ⟨r1, _, hr⟩ := qh hr;rw [cond_eq_ite] at hr
 split at hr
 ·cases hr; exact Nat.zero_le _
 ·obtain ⟨r2, h2, hr⟩ := qh hr
  cases hr
  unfold qwu at h2;obtain ⟨r3, h3, h2⟩ := qh h2;have hl := qwv h3;rw [cond_eq_ite] at h2
  split at h2
  ·cases h2; exact Nat.zero_le _
  ·obtain ⟨y, hy, h2⟩ := qh h2;rw [cond_eq_ite] at h2
   split at h2
   ·cases h2
    show (qfz r3.1.Slots (wv r3.1 n)).length ≤ _;have h0 := jj hy;have h1 := (List.getElem?_eq_some_iff.1 (zh hy)).1;unfold qfz qhx;rw [cond_eq_ite]
    split
    ·simp only [List.length_take]; omega
    ·simp only [List.length_take, List.length_append, List.length_drop, List.length_take]; omega
   ·cases h2; exact hl
def qsw (t : Int) (l : S5102) : S5102 := S5102.mk l.Carrier l.fFrom (min l.fTo t)
theorem q1y (t : Int) : ∀ (l : List S5102) (k : Nat) (x : List S5102), (∀ a ∈ l, a.fFrom ≤ a.fTo) → w3 t l k x = x ++ (l.filter fun a => decide (a.fFrom ≤ min a.fTo t)).map (qsw t)
 | [], k, x, _ => by rw [w3]; simp
 | y :: l, k, x, h => by
  have hy := h y List.mem_cons_self;have ih := fun k x => q1y t l k x fun a ha => h a (List.mem_cons_of_mem _ ha);rw [w3, List.filter_cons, cond_eq_ite];unfold qe3;simp only []
  by_cases hc : y.fFrom ≤ min y.fTo t
  ·rw [if_pos (by simp [hc]), if_pos (by simp [hc]), ih]
   simp [qsw]
  ·rw [if_neg (by
    simp only [qit, Bool.and_true, decide_true, Bool.true_and, Bool.or_eq_true, decide_eq_true_eq, not_or]
    omega), if_neg (by simpa using hc), ih]
theorem q7i {l : List S5102} (t : Int) (h : ∀ a ∈ l, a.fFrom ≤ a.fTo) : qoi l t = (l.filter fun a => decide (a.fFrom ≤ min a.fTo t)).map (qsw t) := by
 unfold qoi; rw [q1y t l 0 [] h]; rfl
theorem q4h {x : S5100} (hx : SlotV x) {t : Int} (ht : t ≤ x.Request.Period.fTo) (h0 : 0 ≤ t) (hp : s102 (S45.mk x.Request.Period.fFrom t x.Request.Period.Days) = 0) (hd : (s69 (S45.mk x.Request.Period.fFrom t x.Request.Period.Days)).1 ≠ []) : SlotV (xv x t) := by
 have hr := hx.rq.ok;obtain ⟨q1, q2, q3, _⟩ := j7 _ hr.per;have hle := q7i (l := x.Leases) t fun a ha => (hx.ls a ha).o
 have hmem : ∀ c ∈ (xv x t).Leases, ∃ a ∈ x.Leases, c = qsw t a ∧ a.fFrom ≤ min a.fTo t := by
  intro c hc;have hc : c ∈ qoi x.Leases t := hc;rw [hle] at hc;obtain ⟨a, ha, rfl⟩ := List.mem_map.1 hc;exact ⟨a, (List.mem_filter.1 ha).1, U, of_decide_eq_true (List.mem_filter.1 ha).2⟩
 refine ⟨⟨⟨hr.n, hr.c, hr.p, hr.t, hr.l, hr.k, hr.lk, hp, hr.m, hr.s, hr.z, hr.no⟩, hd⟩, hx.ho, ?_, ?_, ?_, hx.sn, hx.ss, hx.sd⟩
 ·show (qoi x.Leases t).length ≤ 8;rw [hle, List.length_map];exact Nat.le_trans (List.length_filter_le _ _) hx.ln
 ·intro c hc;obtain ⟨a, ha, rfl, h2⟩ := hmem c hc;have hv := hx.ls a ha;have f := hv.f; have o := hv.o; have i := hv.i; have tt := hv.t;exact ⟨hv.c, hv.f, ⟨by show 0 ≤ min a.fTo t; omega, by show min a.fTo t ≤ 99999; omega⟩, h2, ⟨i.1, by show min a.fTo t ≤ t; omega⟩, hv.h⟩
 ·show (qoi x.Leases t).Pairwise _;rw [hle, List.pairwise_map];refine (List.Pairwise.filter _ hx.lp).imp fun {a b} h => ?_;show min a.fTo t < b.fFrom
  omega
theorem qmg (n : ByteArray) : ∀ (l m : List S5100) (k : Nat), ju l = ju m → xc (fun x => qhw x n) l k = xc (fun x => qhw x n) m k
 | [], [], _, _ => rfl
 | [], _ :: _, _, h => by cases h
 | _ :: _, [], _, h => by cases h
 | x :: l, y :: m, k, h => by
  simp only [ju, List.map_cons, List.cons.injEq] at h;rw [xc, xc, qmg n l m (k + 1) h.2]
  have : qhw x n = qhw y n := by unfold qhw; rw [h.1]
  rw [this]
theorem q4i {b c : S5042} (h : ju b.Slots = ju c.Slots) (n : ByteArray) : wv b n = wv c n := by
 unfold wv qp1; exact qmg n _ _ 0 h
theorem q7j {b : S5042} (hn : (ju b.Slots).Nodup) {j : Nat} {x : S5100} (hx : b.Slots[j]? = some x) : wv b x.Request.Name = ((j : Nat) : Int) := by
 have h0 : 0 ≤ wv b x.Request.Name := by
  unfold wv qp1;exact (qhy _ _ 0).2 ⟨x, List.mem_of_getElem? hx, by unfold qhw; exact decide_eq_true rfl⟩
 obtain ⟨i, y, h1, h2, h3⟩ := q4f h0
 have e1 : (ju b.Slots)[i]? = some x.Request.Name := by unfold ju; rw [List.getElem?_map, h2]; exact congrArg some h3
 have e2 : (ju b.Slots)[j]? = some x.Request.Name := by unfold ju; rw [List.getElem?_map, hx]; rfl
 have hi := (List.getElem?_eq_some_iff.1 e1);have hj := (List.getElem?_eq_some_iff.1 e2);obtain ⟨hi1, hi2⟩ := hi;obtain ⟨hj1, hj2⟩ := hj;have hp := List.pairwise_iff_getElem.1 hn
 have : i = j := by
  rcases Nat.lt_trichotomy i j with h | h | h
  ·exact absurd (hi2.trans hj2.symm) (hp i j hi1 hj1 h)
  ·exact h
  ·exact absurd (hj2.trans hi2.symm) (hp j i hj1 hi1 h)
 rw [h1, this]
theorem qkh {l : List S5100} {j : Nat} {x z : S5100} (hx : l[j]? = some x) (hz : z.Request.Name = x.Request.Name) : ju (l.set j z) = ju l := by
 unfold ju;rw [List.map_set, hz];exact qsx (by rw [List.getElem?_map, hx]; rfl)
theorem q7k {l : List S5100} {j : Nat} (hj : j < l.length) : qfz l ((j : Nat) : Int) = l.take j ++ l.drop (j + 1) := by
 unfold qfz qhx;rw [decide_eq_false (by omega), cond_false];have e1 : Int.toNat ((j : Nat) : Int) = j := Int.toNat_natCast j
 have e2 : Int.toNat (((j : Nat) : Int) + 1) = j + 1 := by omega
 simp only [e1, e2, Nat.sub_zero, Int.toNat_natCast]
 have hl : (l.take j ++ l.drop (j + 1)).length = j + (l.length - (j + 1)) := by rw [List.length_append, List.length_take, List.length_drop]; omega
 rw [List.take_take, Nat.min_self, ← hl, List.take_left']
 rfl
def bk5 (b : S5042) (j : Nat) (x : S5100) (d : Int) : S5042 :=
 bif decide ((qa2 (xv x (d - 1)).Request.Period).2 ≠ 0) || decide ((qa2 (xv x (d - 1)).Request.Period).1 = 0) then S5042.mk (b.Slots.take j ++ b.Slots.drop (j + 1)) b.Waiting else S5042.mk (b.Slots.set j (xv x (d - 1))) b.Waiting
theorem qo9 {b : S5042} (hb : BkB b) {j : Nat} {x : S5100} (hx : b.Slots[j]? = some x) {d : Int} (hd0 : 0 ≤ d) (hd1 : d ≤ 99999) (hd2 : d ≤ x.Request.Period.fTo) : qis b x.Holder x.Request.Name d = some (bk5 b j x d, 0) := by
 have hv := hb.v.s x (List.mem_of_getElem? hx);have hnd : (ju b.Slots).Nodup := (List.nodup_append.1 hb.v.nd).1;have hf := q7j hnd hx;have hj := (List.getElem?_eq_some_iff.1 hx).1;unfold qis;rw [qk2 hb.v];simp only [zc];rw [decide_eq_false (by simp), cond_false];unfold qwu qt9
 have hz : vu [qct x.Holder, qk3 b x.Request.Name, qjb d] = 0 := vx.2 fun y hy => by
  simp only [List.mem_cons, List.not_mem_nil, or_false] at hy
  rcases hy with rfl | rfl | rfl
  ·exact qe4.2 hv.ho
  ·exact q0c.2 (by rw [hf]; omega)
  ·exact qhz.2 ⟨hd0, hd1⟩
 have h8 : qp3 x d = (xv x (d - 1), 0) := by
  unfold qp3;rw [decide_eq_false (by omega), cond_false, wrap_i64 (by unfold I64; omega)]
 have hn2 : ju (b.Slots.set j (xv x (d - 1))) = ju b.Slots := qkh hx rfl;have hf2 : wv (S5042.mk (b.Slots.set j (xv x (d - 1))) b.Waiting) x.Request.Name = ((j : Nat) : Int) := (q4i (c := b) hn2 _).trans hf;rw [hz, decide_eq_false (by simp), cond_false, qmh fun y hy => qp0 (hb.v.s y hy)];simp only [zc];rw [hf, qdw hx];simp only [h8];simp only [decide_true, Bool.not_true, cond_false, ne_eq, not_true_eq_false, decide_false, Int.toNat_natCast];rw [hf2, qdw (List.getElem?_set_self hj)];simp only [];unfold bk5
 cases hc : decide ((qa2 (xv x (d - 1)).Request.Period).2 ≠ 0) || decide ((qa2 (xv x (d - 1)).Request.Period).1 = 0) with
 | true =>
  simp only [cond_true];rw [q7k (by rw [List.length_set]; exact hj)]
  have e1 : (b.Slots.set j (xv x (d - 1))).take j = b.Slots.take j := by rw [List.take_set_of_le (Nat.le_refl _)]
  have e2 : (b.Slots.set j (xv x (d - 1))).drop (j + 1) = b.Slots.drop (j + 1) := by rw [List.drop_set_of_lt (Nat.lt_succ_self _)]
  rw [e1, e2]
 | false => rfl
theorem qqy {α : Type} {l : List α} {j : Nat} {y : α} (h : y ∈ l.take j ++ l.drop (j + 1)) : y ∈ l := by
 rcases List.mem_append.1 h with h | h
 ·exact List.mem_of_mem_take h
 ·exact List.mem_of_mem_drop h
theorem q4j {α : Type} (l : List α) (j : Nat) : (l.take j ++ l.drop (j + 1)).Sublist l := by
 have h1 : (l.take j ++ l.drop j) = l := List.take_append_drop j l
 have h2 : (l.drop (j + 1)).Sublist (l.drop j) := by
  rw [show l.drop (j + 1) = (l.drop j).drop 1 by rw [List.drop_drop]];exact List.drop_sublist _ _
 have h3 := List.Sublist.append (List.Sublist.refl (l.take j)) h2;rw [h1] at h3; exact h3
theorem q1l {b : S5042} (hb : BkB b) {j : Nat} {x : S5100} (hx : b.Slots[j]? = some x) {d : Int} (hd0 : 0 ≤ d) (hd2 : d ≤ x.Request.Period.fTo) : BkB (bk5 b j x d) := by
 have hxm := List.mem_of_getElem? hx;have hv := hb.v.s x hxm;unfold bk5
 cases hc : decide ((qa2 (xv x (d - 1)).Request.Period).2 ≠ 0) || decide ((qa2 (xv x (d - 1)).Request.Period).1 = 0) with
 | true =>
  simp only [cond_true];have hs := q4j b.Slots j;refine ⟨⟨Nat.le_trans hs.length_le hb.v.sl, hb.v.wl, fun y hy => hb.v.s y (qqy hy), hb.v.w, ?_, hb.v.or⟩, fun y hy => hb.s y (qqy hy), hb.w, ?_⟩
  ·have h1 : (ju (b.Slots.take j ++ b.Slots.drop (j + 1)) ++ qan b.Waiting).Sublist (ju b.Slots ++ qan b.Waiting) := List.Sublist.append (hs.map _) (List.Sublist.refl _);exact h1.nodup hb.v.nd
  ·have := hs.length_le; have := hb.n;show (b.Slots.take j ++ b.Slots.drop (j + 1)).length + b.Waiting.length ≤ 30
   omega
 | false =>
  simp only [cond_false];simp only [Bool.or_eq_false_iff, decide_eq_false_iff_not, Decidable.not_not] at hc;obtain ⟨c1, c2⟩ := hc
  have hp : s102 (S45.mk x.Request.Period.fFrom (d - 1) x.Request.Period.Days) = 0 := by
   have c1 : (s69 (S45.mk x.Request.Period.fFrom (d - 1) x.Request.Period.Days)).2 = 0 := c1;unfold s69 at c1;rw [cond_eq_ite] at c1
   split at c1
   ·exact c1
   ·rename_i h; exact Decidable.not_not.1 fun h' => h (decide_eq_true h')
  have hne : (s69 (S45.mk x.Request.Period.fFrom (d - 1) x.Request.Period.Days)).1 ≠ [] := by
   intro e
   apply c2
   show (List.length (s69 (S45.mk x.Request.Period.fFrom (d - 1) x.Request.Period.Days)).1 : Int) = 0;rw [e]; rfl
  have hpp := j7 _ hp;have hp1 : 0 ≤ x.Request.Period.fFrom := hpp.1;have hp2 : x.Request.Period.fFrom ≤ d - 1 := hpp.2.1;have hz := q4h hv (t := d - 1) (by omega) (by omega) hp hne;have hbr := hb.s x hxm;have hmem : ∀ y ∈ b.Slots.set j (xv x (d - 1)), y ∈ b.Slots ∨ y = xv x (d - 1) := fun y hy => List.mem_or_eq_of_mem_set hy;refine ⟨⟨by show (b.Slots.set j _).length ≤ 64; rw [List.length_set]; exact hb.v.sl, hb.v.wl, fun y hy => ?_, hb.v.w, ?_, hb.v.or⟩, fun y hy => ?_, hb.w, by show (b.Slots.set j _).length + _ ≤ 30; rw [List.length_set]; exact hb.n⟩
  ·rcases hmem y hy with h | rfl
   ·exact hb.v.s y h
   ·exact hz
  ·show (ju (b.Slots.set j (xv x (d - 1))) ++ qan b.Waiting).Nodup;rw [qkh (z := xv x (d - 1)) hx rfl]; exact hb.v.nd
  ·rcases hmem y hy with h | rfl
   ·exact hb.s y h
   ·refine ⟨hz.rq.ok, ?_⟩;have := hbr.b;show d - 1 - x.Request.Period.fFrom < 14
    omega
theorem qrc (m t : Int) : ∀ (n : Nat) (f : Int), (dayL m n f).filter (fun e => decide (e < t)) = dayL m (min n (t - f).toNat) f
 | 0, f => by rw [Nat.zero_min]; rfl
 | n + 1, f => by
  by_cases h : f < t
  ·have e : min (n + 1) (t - f).toNat = min n (t - (f + 1)).toNat + 1 := by omega
   rw [e];unfold dayL
   split
   ·rw [List.filter_cons, if_pos (by simpa using h), qrc m t n (f + 1)]
   ·rw [qrc m t n (f + 1)]
  ·have e : min (n + 1) (t - f).toNat = 0 := by omega
   rw [e, List.filter_eq_nil_iff.2 fun x hx => by
    have := (qaf _ _ _ x hx).1
    simp only [decide_eq_true_eq]; omega]
   rfl
theorem qww (m t : Int) : ∀ (n : Nat) (f : Int), f ≤ t → (dayL m n f).filter (fun e => decide (t ≤ e)) = dayL m (n - (t - f).toNat) t
 | 0, f, _ => by rw [Nat.zero_sub]; rfl
 | n + 1, f, h => by
  by_cases h1 : f = t
  ·subst h1;rw [show n + 1 - (f - f).toNat = n + 1 by omega]
   exact List.filter_eq_self.2 fun x hx => by
    have := (qaf _ _ _ x hx).1
    simpa using this
  ·have e : n + 1 - (t - f).toNat = n - (t - (f + 1)).toNat := by omega
   rw [e, ← qww m t n (f + 1) (by omega)]
   conv => lhs; unfold dayL
   split
   ·rw [List.filter_cons, if_neg (by simp; omega)]
   ·rfl
theorem q1z {f t m : Int} (h0 : 0 ≤ f) (h1 : f ≤ t) (h2 : t ≤ 99999) (h3 : t - f ≤ 400) (h4 : 1 ≤ m) (h5 : m ≤ 127) : s102 ⟨f, t, m⟩ = 0 := by
 unfold s102 s153 s155 s154
 simp only
 rw [wrap_i64 (n := t - f) ⟨by omega, by omega⟩, decide_eq_false (by omega : ¬ f < 0), decide_eq_false (by omega : ¬ 99999 < f), decide_eq_false (by omega : ¬ t < 0), decide_eq_false (by omega : ¬ 99999 < t), decide_eq_false (by omega : ¬ t < f), decide_eq_false (by omega : ¬ 400 < t - f), decide_eq_false (by omega : ¬ m < 1), decide_eq_false (by omega : ¬ 127 < m)]
 rfl
theorem qjr {p : S45} (hp : s102 p = 0) {d : Int} (h : d ∈ (s69 p).1) : p.fFrom ≤ d ∧ d ≤ p.fTo := by
 obtain ⟨q1, q2, q3, q4, q5, q6⟩ := j7 _ hp;rw [qc7 hp] at h;have hr := qaf _ _ _ d h
 omega
theorem q0d {p : S45} (hp : s102 p = 0) {d : Int} (h : d ∈ (s69 p).1) : (s69 (S45.mk p.fFrom (d - 1) p.Days)).1 = (s69 p).1.filter fun e => decide (e < d) := by
 obtain ⟨q1, q2, q3, q4, q5, q6⟩ := j7 _ hp;obtain ⟨r1, r2⟩ := qjr hp h
 by_cases h1 : p.fFrom = d
 ·rw [List.filter_eq_nil_iff.2 fun x hx => by
   have := (qjr hp hx).1
   simp only [decide_eq_true_eq]; omega]
  by_cases h2 : s102 (S45.mk p.fFrom (d - 1) p.Days) = 0
  ·have := (j7 _ h2).2.1;have this : p.fFrom ≤ d - 1 := this
   omega
  ·unfold s69; rw [decide_eq_true h2]; rfl
 ·have h2 : s102 (S45.mk p.fFrom (d - 1) p.Days) = 0 := q1z q1 (by omega) (by omega) (by omega) q5 q6;rw [qc7 h2, qc7 hp];show dayL p.Days (d - 1 + 1 - p.fFrom).toNat p.fFrom = _;rw [qrc];exact congrArg (fun n => dayL p.Days n p.fFrom) (by omega)
theorem qwx {p : S45} (hp : s102 p = 0) {d : Int} (h : d ∈ (s69 p).1) : s102 (S45.mk d p.fTo p.Days) = 0 ∧ (s69 (S45.mk d p.fTo p.Days)).1 = (s69 p).1.filter fun e => decide (d ≤ e) := by
 obtain ⟨q1, q2, q3, q4, q5, q6⟩ := j7 _ hp;obtain ⟨r1, r2⟩ := qjr hp h;have h2 : s102 (S45.mk d p.fTo p.Days) = 0 := q1z (by omega) (by omega) (by omega) (by omega) q5 q6;refine ⟨h2, ?_⟩;rw [qc7 h2, qc7 hp];show dayL p.Days (p.fTo + 1 - d).toNat d = _;rw [qww _ _ _ _ r1];exact congrArg (fun n => dayL p.Days n d) (by omega)
def remM (r : S115) (d : Int) : List S1079 := ((s69 r.Period).1.filter fun e => decide (d ≤ e)).map (mvOf r)
def qua (r : S115) (d : Int) : List S1079 := ((s69 r.Period).1.filter fun e => decide (e < d)).map (mvOf r)
theorem qub (r : S115) (d : Int) : (mvs r).Perm (qua r d ++ remM r d) := by
 unfold mvs qua remM;rw [← List.map_append];refine List.Perm.map _ ?_;have h := List.filter_append_perm (fun e => decide (e < d)) (s69 r.Period).1
 have e : (s69 r.Period).1.filter (fun x => !decide (x < d)) = (s69 r.Period).1.filter fun e => decide (d ≤ e) := List.filter_congr fun x _ => by
  rw [← decide_not]; exact decide_eq_decide.2 (by omega)
 rw [e] at h;exact h.symm
theorem qh0 {b : S5042} (h : BkB b) : (bM b).Perm (b.Slots.flatMap fun x => mvs x.Request) ∧ Srt ltM (bM b) := by
 have hn := h.n
 obtain ⟨_, _, g3, g4⟩ := qwo (b.Slots.map S5100.Request) [] 0 (fun r hr => by
  obtain ⟨x, hx, rfl⟩ := List.mem_map.1 hr
  exact h.s x hx) qwp (by rw [List.length_map]; omega)
 rw [List.nil_append, List.flatMap_map] at g3;exact ⟨g3, g4 List.Pairwise.nil⟩
theorem qoj {α : Type} {l : List α} {j : Nat} {x : α} (h : l[j]? = some x) (z : α) : l = l.take j ++ x :: l.drop (j + 1) ∧ l.set j z = l.take j ++ z :: l.drop (j + 1) := by
 have hj := (List.getElem?_eq_some_iff.1 h);obtain ⟨hj, e⟩ := hj
 constructor
 ·rw [← e, ← List.drop_eq_getElem_cons hj, List.take_append_drop]
 ·rw [List.set_eq_take_append_cons_drop, if_pos hj]
theorem qy4 {b : S5042} (hb : BkB b) {j : Nat} {x : S5100} (hx : b.Slots[j]? = some x) {d : Int} (hd : d ∈ (s69 x.Request.Period).1) (hk : BkB (bk5 b j x d)) : (bM b).Perm (bM (bk5 b j x d) ++ remM x.Request d) := by
 have hv := hb.v.s x (List.mem_of_getElem? hx);have hp := hv.rq.ok.per;have h1 := (qh0 hb).1;have h2 := (qh0 hk).1;refine h1.trans (List.Perm.trans ?_ (List.Perm.append_right _ h2.symm));obtain ⟨e1, e2⟩ := qoj hx (xv x (d - 1));have hs := qub x.Request d
 have hkept : mvs (xv x (d - 1)).Request = qua x.Request d := by
  unfold mvs qua;show (s69 (S45.mk x.Request.Period.fFrom (d - 1) x.Request.Period.Days)).1.map (mvOf (xv x (d - 1)).Request) = _;rw [q0d hp hd]
  rfl
 have hbk : ((bk5 b j x d).Slots.flatMap fun x => mvs x.Request).Perm ((b.Slots.take j).flatMap (fun x => mvs x.Request) ++ (qua x.Request d ++ (b.Slots.drop (j + 1)).flatMap fun x => mvs x.Request)) := by
  unfold bk5
  cases hc : decide ((qa2 (xv x (d - 1)).Request.Period).2 ≠ 0) || decide ((qa2 (xv x (d - 1)).Request.Period).1 = 0) with
  | true =>
   have he : qua x.Request d = [] := by
    rw [← hkept];unfold mvs
    have : (s69 (xv x (d - 1)).Request.Period).1 = [] := by
     rw [Bool.or_eq_true, decide_eq_true_iff, decide_eq_true_iff] at hc
     rcases hc with hc | hc
     ·have hc : (s69 (xv x (d - 1)).Request.Period).2 ≠ 0 := hc;unfold s69 at hc ⊢;rw [cond_eq_ite] at hc ⊢
      split at hc
      ·rename_i h; rw [if_pos h]
      ·exact absurd U hc
     ·have hc : (List.length (s69 (xv x (d - 1)).Request.Period).1 : Int) = 0 := hc;exact List.length_eq_zero_iff.1 (by omega)
    rw [this]; rfl
   rw [he, List.nil_append, cond_true];show ((b.Slots.take j ++ b.Slots.drop (j + 1)).flatMap fun x => mvs x.Request).Perm _;rw [List.flatMap_append]
  | false =>
   rw [cond_false];show ((b.Slots.set j (xv x (d - 1))).flatMap fun x => mvs x.Request).Perm _;rw [e2, List.flatMap_append, List.flatMap_cons, hkept]
 refine List.Perm.trans ?_ (List.Perm.append_right _ hbk.symm)
 conv => lhs; rw [e1]
 rw [List.flatMap_append, List.flatMap_cons];refine List.Perm.trans ?_ (List.Perm.of_eq (List.append_assoc _ _ _).symm);refine List.Perm.append_left _ ?_;refine (List.Perm.append_right _ hs).trans ?_;rw [List.append_assoc, List.append_assoc];exact List.Perm.append_left _ List.perm_append_comm
def wnB (m : S1079) (i : Nat) (l : S2062) (b : Int) : Option (Nat × S2062 × Int) := bif decide (b ≤ m.Moment) && decide (m.Moment < b + l.Length) then some (i, l, b) else none
def wnL (m : S1079) : List S2062 → Nat → List (Nat × S2062 × Int)
 | [], _ => []
 | l :: t, i => (bif qag l m.Kind m.Terminal then ((dsL m).take 2).flatMap fun d => (begL l d).filterMap (wnB m i l) else []) ++ wnL m t (i + 1)
def cM (ms : List S1079) (q : Nat × S2062 × Int) : Int := cntI (ofL q.2.1 ms) q.2.2 q.2.1.Length
def wE (ms : List S1079) (q : Nat × S2062 × Int) : S2068 := ⟨(q.1 : Nat), q.2.2, cM ms q⟩
theorem qwy (ms : List S1079) (m : S1079) : ∀ (ls : List S2062) (i : Nat), arL ms m ls i = (wnL m ls i).map (wE ms)
 | [], _ => rfl
 | l :: t, i => by
  unfold arL wnL;rw [List.map_append, ← qwy ms m t (i + 1)]
  cases qag l m.Kind m.Terminal with
  | false => rfl
  | true =>
   refine congrArg (· ++ _) ?_;show arW ms m i l 2 = List.map (wE ms) (((dsL m).take 2).flatMap fun d => (begL l d).filterMap (wnB m i l));unfold arW;rw [List.map_flatMap];refine congrArg (fun f => List.flatMap f ((dsL m).take 2)) (funext fun d => ?_);rw [List.map_filterMap];refine congrArg (fun f => List.filterMap f (begL l d)) (funext fun b => ?_);unfold qkv wnB
   cases decide (b ≤ m.Moment) && decide (m.Moment < b + l.Length) <;> rfl
structure WnV (ls : List S2062) (m : S1079) (i : Nat) (q : Nat × S2062 × Int) : Prop where
 ge : i ≤ q.1
 g : ls[q.1 - i]? = some q.2.1
 s : qag q.2.1 m.Kind m.Terminal = true
 f : q.2.2 ≤ m.Moment
 t : m.Moment < q.2.2 + q.2.1.Length
theorem qvb (m : S1079) : ∀ (ls : List S2062) (i : Nat), ∀ q ∈ wnL m ls i, WnV ls m i q
 | [], _, q, h => nomatch h
 | l :: t, i, q, h => by
  unfold wnL at h
  rcases List.mem_append.1 h with h | h
  ·cases hs : qag l m.Kind m.Terminal with
   | false => rw [hs] at h; exact nomatch h
   | true =>
    rw [hs, cond_true] at h;obtain ⟨d, _, h⟩ := List.mem_flatMap.1 h;obtain ⟨b, _, h⟩ := List.mem_filterMap.1 h;unfold wnB at h
    cases hc : decide (b ≤ m.Moment) && decide (m.Moment < b + l.Length) with
    | false => rw [hc] at h; cases h
    | true =>
     rw [hc] at h
     cases h
     simp only [Bool.and_eq_true, decide_eq_true_eq] at hc;exact ⟨Nat.le_refl _, by show (l :: t)[i - i]? = _; rw [Nat.sub_self]; rfl, hs, hc.1, hc.2⟩
  ·have h := qvb m t (i + 1) q h;have h1 := h.ge;refine ⟨by omega, ?_, h.s, h.f, h.t⟩;have h2 := h.g;rw [show q.1 - i = (q.1 - (i + 1)) + 1 by omega, List.getElem?_cons_succ]; exact h2
theorem q13 {ms : List S1079} (q : Nat × S2062 × Int) : 0 ≤ cM ms q ∧ cM ms q ≤ ms.length := by
 unfold cM cntI;refine ⟨Int.natCast_nonneg _, ?_⟩;have h1 := List.length_filter_le (fun x => decide (q.2.2 ≤ x) && decide (x < q.2.2 + q.2.1.Length)) (ofL q.2.1 ms)
 have h2 : (ofL q.2.1 ms).length ≤ ms.length := by unfold ofL; rw [List.length_map]; exact List.length_filter_le _ _
 omega
def rmF (c : Nat × S2062 × Int → Int) : List (Nat × S2062 × Int) → Int → Int
 | [], x => x
 | q :: t, x => rmF c t (min x (max 0 (q.2.1.Most - c q)))
theorem qwz {ls : List S2062} (hl : ∀ l ∈ ls, LimOk l) {ms : List S1079} (hms : ms.length ≤ 1000) {m : S1079} : ∀ (W : List (Nat × S2062 × Int)) (x : Int), (∀ q ∈ W, WnV ls m 0 q) → qb0 ls (W.map (wE ms)) x = some (rmF (cM ms) W x)
 | [], x, _ => rfl
 | q :: t, x, h => by
  have hq := h q List.mem_cons_self;have hg : ls[q.1]? = some q.2.1 := hq.g;have ho := hl _ (List.mem_of_getElem? hg);have h1 := ho.m0; have h2 := ho.m1; have h3 := q13 (ms := ms) q;rw [List.map_cons, qb0, show (wE ms q).Limit = ((q.1 : Nat) : Int) from rfl, qdw hg];simp only [zc];rw [show (wE ms q).Count = cM ms q from rfl, wrap_i64 (by unfold I64; omega), qwz hl hms t _ fun q hq => h q (List.mem_cons_of_mem _ hq)]
  rfl
def room (ls : List S2062) (ms : List S1079) (m : S1079) : Int := rmF (cM ms) (wnL m ls 0) 999999999
theorem q14 {ls : List S2062} (h0 : qa8 ls = 0) {ms : List S1079} (h1 : qap ms = some 0) {m : S1079} (hm : MvOk m) : qgw ls ms = some 0 ∧ vr [0, qbl m] = 0 := by
 constructor
 ·unfold qgw;rw [h1];simp only [zc]
  exact congrArg some (j8.2 fun y hy => by
   simp only [List.mem_cons, List.not_mem_nil, or_false] at hy
   rcases hy with rfl | rfl
   ·exact h0
   ·rfl)
 ·refine j8.2 fun y hy => ?_;simp only [List.mem_cons, List.not_mem_nil, or_false] at hy
  rcases hy with rfl | rfl
  ·rfl
  ·exact qq7.2 hm
theorem qva {ls : List S2062} (h0 : qa8 ls = 0) {ms : List S1079} (h1 : qap ms = some 0) (hms : ms.length ≤ 1000) {m : S1079} (hm : MvOk m) : qlm ls ms m = some (room ls ms m, 0) := by
 obtain ⟨g1, g2⟩ := q14 h0 h1 hm;unfold qlm;rw [g1];simp only [zc];rw [g2, decide_eq_false (by simp), cond_false];unfold qzr;rw [qwy, qwz (qnq h0).2 hms _ _ (qvb m ls 0)]
 rfl
theorem qw0 {ls : List S2062} {ms : List S1079} {m : S1079} : ∀ (W : List (Nat × S2062 × Int)) (k : Nat) (x : List S2068), (∀ q ∈ W, WnV ls m 0 q) → w4 (fun x0 => qrd x0 ls) (W.map (wE ms)) k x = some (x ++ (W.filter fun q => decide (q.2.1.Most ≤ cM ms q)).map (wE ms))
 | [], k, x, _ => by rw [List.map_nil, w4]; simp
 | q :: t, k, x, h => by
  have hq := h q List.mem_cons_self;have hg : ls[q.1]? = some q.2.1 := hq.g;have ih := fun k x => qw0 (ls := ls) (ms := ms) (m := m) t k x fun q hq => h q (List.mem_cons_of_mem _ hq)
  have h4 : qrd (wE ms q) ls = some (decide (q.2.1.Most ≤ cM ms q)) := by
   unfold qrd;rw [show (wE ms q).Limit = ((q.1 : Nat) : Int) from rfl, qdw hg]
   rfl
  rw [List.map_cons, w4, h4];simp only [zc];rw [List.filter_cons];unfold qe5
  cases decide (q.2.1.Most ≤ cM ms q) with
  | true => rw [cond_true, if_pos rfl]; exact (ih _ _).trans (by simp)
  | false => rw [cond_false, if_neg (by simp)]; exact ih _ _
def qtf (ls : List S2062) (ms : List S1079) (m : S1079) : List (Nat × S2062 × Int) := (wnL m ls 0).filter fun q => decide (q.2.1.Most ≤ cM ms q)
theorem q3j {ls : List S2062} (h0 : qa8 ls = 0) {ms : List S1079} (h1 : qap ms = some 0) {m : S1079} (hm : MvOk m) : qu4 ls ms m = some ((qtf ls ms m).map (wE ms), 0) := by
 obtain ⟨g1, g2⟩ := q14 h0 h1 hm;unfold qu4;rw [g1];simp only [zc];rw [g2, decide_eq_false (by simp), cond_false];unfold qw1;rw [qwy, qw0 (m := m) _ _ _ (qvb m ls 0)]
 rfl
theorem qw2 {c c' : Nat × S2062 × Int → Int} : ∀ (W : List (Nat × S2062 × Int)) (x x' : Int), (∀ q ∈ W, c' q ≤ c q) → x ≤ x' → rmF c W x ≤ rmF c' W x'
 | [], x, x', _, h => h
 | q :: t, x, x', hq, h => by
  have := hq q List.mem_cons_self;exact qw2 t _ _ (fun q h => hq q (List.mem_cons_of_mem _ h)) (by omega)
theorem q7l {c c' : Nat × S2062 × Int → Int} : ∀ (W : List (Nat × S2062 × Int)) (x : Int), (∀ q ∈ W, c' q = c q) → rmF c' W x = rmF c W x
 | [], x, _ => rfl
 | q :: t, x, hq => by
  unfold rmF;rw [hq q List.mem_cons_self];exact q7l t _ fun q h => hq q (List.mem_cons_of_mem _ h)
theorem q15 {c c' : Nat × S2062 × Int → Int} : ∀ (W : List (Nat × S2062 × Int)) (x x' : Int), (∀ q ∈ W, c' q = c q - 1 ∧ c q ≤ q.2.1.Most ∧ 1 ≤ c q ∧ q.2.1.Most ≤ 999999999) → ((x = 999999999 ∧ x' = 999999999) ∨ (x < 999999999 ∧ x' = x + 1)) → rmF c W x < 999999999 → rmF c' W x' = rmF c W x + 1
 | [], x, x', _, h, hr => by
  have hr : x < 999999999 := hr;show x' = x + 1
  omega
 | q :: t, x, x', hq, h, hr => by
  obtain ⟨h1, h2, h3, h4⟩ := hq q List.mem_cons_self;refine q15 t _ _ (fun q h => hq q (List.mem_cons_of_mem _ h)) ?_ hr;rw [h1]
  omega
theorem q0e {ms ms' : List S1079} {r : S115} {d : Int} (h : ms.Perm (ms' ++ remM r d)) (q : Nat × S2062 × Int) : cM ms q = cM ms' q + cM (remM r d) q := by
 unfold cM;rw [qwq (qz9 _ h), q4c, q0a]
theorem q4k (l : S2062) (r : S115) (d : Int) : ofL l (remM r d) = if qag l r.Kind r.Terminal = true then ((s69 r.Period).1.filter fun e => decide (d ≤ e)).map fun d => 1440 * d + r.Minute else [] := by
 unfold ofL remM;rw [List.filter_map]
 split
 ·rename_i h
  have e : (((s69 r.Period).1.filter fun e => decide (d ≤ e)).filter ((fun m => qag l m.Kind m.Terminal) ∘ mvOf r)) = (s69 r.Period).1.filter fun e => decide (d ≤ e) := List.filter_eq_self.2 fun d _ => h;rw [e, List.map_map]; rfl
 ·rename_i h
  have e : (((s69 r.Period).1.filter fun e => decide (d ≤ e)).filter ((fun m => qag l m.Kind m.Terminal) ∘ mvOf r)) = [] := List.filter_eq_nil_iff.2 fun d _ => h;rw [e]; rfl
theorem q4l {ls : List S2062} (hl : ∀ l ∈ ls, LimOk l) {r : S115} (hr : RqOk r) {d e : Int} (he : e ∈ (s69 r.Period).1) {q : Nat × S2062 × Int} (hq : WnV ls (mvOf r e) 0 q) : cM (remM r d) q = if d ≤ e then 1 else 0 := by
 have hg : ls[q.1]? = some q.2.1 := hq.g;have ho := hl _ (List.mem_of_getElem? hg);have hs : qag q.2.1 r.Kind r.Terminal = true := hq.s;have hf : q.2.2 ≤ 1440 * e + r.Minute := hq.f;have ht : 1440 * e + r.Minute < q.2.2 + q.2.1.Length := hq.t;have hlen := ho.l1;unfold cM;rw [q4k, if_pos hs]
 have hp : (((s69 r.Period).1.filter fun e => decide (d ≤ e)).map fun d => 1440 * d + r.Minute).Pairwise fun a b => a + 1440 ≤ b := by
  rw [List.pairwise_map]
  exact ((qsv hr.per).filter _).imp fun {a b} hab => by omega
 have h1 := q4d hp (x := q.2.2) hlen
 split
 ·rename_i hde
  have : 1 ≤ cntI (((s69 r.Period).1.filter fun e => decide (d ≤ e)).map fun d => 1440 * d + r.Minute) q.2.2 q.2.1.Length := by
   unfold cntI
   have hm : 1440 * e + r.Minute ∈ (((s69 r.Period).1.filter fun e => decide (d ≤ e)).map fun d => 1440 * d + r.Minute).filter (fun x => decide (q.2.2 ≤ x) && decide (x < q.2.2 + q.2.1.Length)) :=
    List.mem_filter.2 ⟨List.mem_map.2 ⟨e, List.mem_filter.2 ⟨he, by simpa using hde⟩, rfl⟩, by simp only [Bool.and_eq_true, decide_eq_true_eq]; exact ⟨hf, ht⟩⟩
   have := List.length_pos_of_mem hm
   omega
  omega
 ·rename_i hde
  unfold cntI
  rw [List.filter_eq_nil_iff.2 fun x hx => by
   obtain ⟨e', he', rfl⟩ := List.mem_map.1 hx;have := of_decide_eq_true (List.mem_filter.1 he').2;simp only [Bool.and_eq_true, decide_eq_true_eq]
   omega]
  rfl
structure RoomV (ls : List S2062) (ms ms' : List S1079) (r : S115) (d e : Int) : Prop where
 mono : room ls ms (mvOf r e) ≤ room ls ms' (mvOf r e)
 before : e < d → room ls ms' (mvOf r e) = room ls ms (mvOf r e)
 from_ : d ≤ e → (∀ q ∈ qtf ls ms (mvOf r e), cM ms q ≤ q.2.1.Most) → room ls ms (mvOf r e) < 999999999 → room ls ms' (mvOf r e) = room ls ms (mvOf r e) + 1
theorem q6p {ls : List S2062} (hl : ∀ l ∈ ls, LimOk l) {ms ms' : List S1079} {r : S115} (hr : RqOk r) {d e : Int} (he : e ∈ (s69 r.Period).1) (h : ms.Perm (ms' ++ remM r d)) : RoomV ls ms ms' r d e := by
 have hW := qvb (mvOf r e) ls 0;have hc := fun q (hq : q ∈ wnL (mvOf r e) ls 0) => q4l (d := d) hl hr he (hW q hq);have hsp := q0e h;refine ⟨qw2 _ _ _ (fun q hq => ?_) (Int.le_refl _), fun hlt => q7l _ _ fun q hq => ?_, fun hle hf hlt => q15 _ _ _ (fun q hq => ?_) (.inl ⟨U, U⟩) hlt⟩
 ·have h1 := hc q hq; have h2 := hsp q
  split at h1 <;> omega
 ·have h1 := hc q hq; have h2 := hsp q;rw [if_neg (by omega)] at h1; omega
 ·have h1 := hc q hq; have h2 := hsp q;rw [if_pos hle] at h1;have h3 := q13 (ms := ms') q;have hg : ls[q.1]? = some q.2.1 := (hW q hq).g;have ho := hl _ (List.mem_of_getElem? hg);refine ⟨by omega, ?_, by omega, ho.m1⟩
  by_cases hm : q.2.1.Most ≤ cM ms q
  ·exact hf q (List.mem_filter.2 ⟨hq, by simpa using hm⟩)
  ·omega
theorem qsy {α : Type} {Rel : α → α → Prop} : ∀ {a b : List α}, a.Perm b → a.Pairwise Rel → b.Pairwise Rel → (∀ x y, Rel x y → Rel y x → x = y) → a = b
 | [], b, hp, _, _, _ => by rw [List.nil_perm.1 hp]
 | x :: t, [], hp, _, _, _ => by cases (List.perm_nil.1 hp)
 | x :: t, y :: s, hp, ha, hb, an => by
  have h1 := List.pairwise_cons.1 ha;have h2 := List.pairwise_cons.1 hb
  have hxy : x = y := by
   have hx : x ∈ y :: s := hp.mem_iff.1 List.mem_cons_self;have hy : y ∈ x :: t := hp.mem_iff.2 List.mem_cons_self
   rcases List.mem_cons.1 hx with e | hx
   ·exact e
   ·rcases List.mem_cons.1 hy with e | hy'
    ·exact e.symm
    ·exact an x y (h1.1 y hy') (h2.1 x hx)
  subst hxy;rw [qsy (List.Perm.cons_inv hp) h1.2 h2.2 an]
def mKey (x : S1079) : Int × ByteArray := (x.Moment, x.Kind)
def LeK (p q : Int × ByteArray) : Prop := ¬ (q.1 < p.1) ∧ ¬ (q.1 = p.1 ∧ wu q.2 p.2 = true)
theorem q16 {x y : S1079} (h : ltM y x = false) : LeK (mKey x) (mKey y) := by
 have h1 : ¬ LtM y x := fun h2 => by rw [(qei y x).2 h2] at h; cases h
 exact ⟨fun h2 => h1 (.inl h2), fun h2 => h1 (.inr ⟨h2.1, .inl h2.2⟩)⟩
theorem q0f {p q : Int × ByteArray} (h : LeK p q) (k : LeK q p) : p = q := by
 have h0 := h.1; have k0 := k.1
 have h1 : p.1 = q.1 := by omega
 have h2 : wu q.2 p.2 = false := by
  cases hc : wu q.2 p.2 with
  | false => rfl
  | true => exact absurd ⟨h1.symm, hc⟩ h.2
 have h3 : wu p.2 q.2 = false := by
  cases hc : wu p.2 q.2 with
  | false => rfl
  | true => exact absurd ⟨h1, hc⟩ k.2
 exact Prod.ext h1 (qw3 h3 h2)
theorem q4m {a b : List S1079} (ha : Srt ltM a) (hb : Srt ltM b) (h : (a.map mKey).Perm (b.map mKey)) : a.map mKey = b.map mKey :=
 qsy h (List.pairwise_map.2 (ha.imp q16)) (List.pairwise_map.2 (hb.imp q16)) fun _ _ => q0f
abbrev againN : ByteArray := ⟨#[97, 103, 97, 105, 110]⟩
def qln (r : S115) (d : Int) : S115 := S115.mk againN r.Carrier r.Kind r.Terminal r.Partner r.Link (S45.mk d r.Period.fTo r.Period.Days) r.Minute r.Seats r.Size r.Noise
theorem q3k {r : S115} (hr : ReqV r) {d : Int} (hd : d ∈ (s69 r.Period).1) (hl : ¬ r.Link = againN) : ReqV (qln r d) := by
 have ho := hr.ok;obtain ⟨h1, h2⟩ := qwx ho.per hd
 have hn : s147 againN = true := by decide +kernel
 refine ⟨⟨hn, ho.c, ho.p, ho.t, ho.l, ho.k, hl, h1, ho.m, ho.s, ho.z, ho.no⟩, ?_⟩;intro e;have e : (s69 (S45.mk d r.Period.fTo r.Period.Days)).1 = [] := e;rw [h2] at e;have := List.filter_eq_nil_iff.1 e d hd
 simp at this
theorem quc {r : S115} (hr : RqOk r) {d : Int} (hd : d ∈ (s69 r.Period).1) : (mvs (qln r d)).map mKey = (remM r d).map mKey := by
 unfold mvs remM;show ((s69 (S45.mk d r.Period.fTo r.Period.Days)).1.map (mvOf (qln r d))).map mKey = _;rw [(qwx hr.per hd).2, List.map_map, List.map_map]
 rfl
def qqz (b : S5042) (r : S115) : S5042 := S5042.mk (b.Slots ++ [qa7 r]) b.Waiting
theorem qy6 {b : S5042} (hb : BkB b) {r : S115} (hr : ReqV r) (h14 : r.Period.fTo - r.Period.fFrom < 14) (hn : ¬ r.Name ∈ ju b.Slots ++ qan b.Waiting) (hk : b.Slots.length + b.Waiting.length ≤ 29) : BkB (qqz b r) := by
 have hmem : ∀ y ∈ b.Slots ++ [qa7 r], y ∈ b.Slots ∨ y = qa7 r := fun y hy => by
  rcases List.mem_append.1 hy with h | h
  ·exact .inl h
  ·exact .inr (List.mem_singleton.1 h)
 have hl : (b.Slots ++ [qa7 r]).length = b.Slots.length + 1 := by rw [List.length_append]; rfl
 have hv := hb.v;refine ⟨⟨by show (b.Slots ++ [qa7 r]).length ≤ 64; omega, hv.wl, fun y hy => ?_, hv.w, ?_, hv.or⟩, fun y hy => ?_, hb.w, by show (b.Slots ++ [qa7 r]).length + b.Waiting.length ≤ 30; omega⟩
 ·rcases hmem y hy with h | rfl
  ·exact hv.s y h
  ·exact qz8 hr
 ·show (ju (b.Slots ++ [qa7 r]) ++ qan b.Waiting).Nodup
  have e : ju (b.Slots ++ [qa7 r]) = ju b.Slots ++ [r.Name] := by unfold ju; rw [List.map_append]; rfl
  rw [e, List.append_assoc];refine (List.Perm.nodup_iff (List.Perm.trans (List.Perm.append_left _ (List.perm_append_comm (l₁ := [r.Name]) (l₂ := qan b.Waiting))) ?_ : (ju b.Slots ++ ([r.Name] ++ qan b.Waiting)).Perm ((ju b.Slots ++ qan b.Waiting) ++ [r.Name]))).2 ?_
  ·rw [List.append_assoc]
  ·refine List.nodup_append.2 ⟨hv.nd, List.Pairwise.cons (fun _ h => nomatch h) List.Pairwise.nil, fun a ha c hc => ?_⟩;rw [List.mem_singleton.1 hc];intro e;rw [e] at ha;exact hn ha
 ·rcases hmem y hy with h | rfl
  ·exact hb.s y h
  ·exact ⟨hr.ok, h14⟩
theorem qud {b : S5042} (hb : BkB b) {r : S115} (hw : BkB (qqz b r)) : (bM (qqz b r)).Perm (bM b ++ mvs r) := by
 refine (qh0 hw).1.trans (List.Perm.trans ?_ (List.Perm.append_right _ (qh0 hb).1.symm));show ((b.Slots ++ [qa7 r]).flatMap fun x => mvs x.Request).Perm _;rw [List.flatMap_append, List.flatMap_singleton];exact List.Perm.refl _
theorem qy7 {b b' : S5042} (hb : BkB b) (hb' : BkB b') {r : S115} (hr : RqOk r) {d : Int} (hd : d ∈ (s69 r.Period).1) (h : (bM b).Perm (bM b' ++ remM r d)) (hw : BkB (qqz b' (qln r d))) : (bM (qqz b' (qln r d))).map mKey = (bM b).map mKey := by
 refine q4m (qh0 hw).2 (qh0 hb).2 ?_;refine ((qud hb' hw).map _).trans ((?_ : List.Perm _ _).trans (h.map _).symm);rw [List.map_append, List.map_append, quc hr hd]
theorem qth {ls : List S2062} (h0 : qa8 ls = 0) {b : S5042} (hb : BkB b) {r : S115} (hr : ReqV r) (hn : ¬ r.Name ∈ ju b.Slots ++ qan b.Waiting) (hk : b.Slots.length + b.Waiting.length ≤ 29) : qfe ls b r = some (S5042.mk [] [], 14) ∨ qfe ls b r = some (qqz b r, 0) := by
 obtain ⟨g1, g2⟩ := qly hb.s (by omega)
 have ht : qfg b r.Name = false := by
  cases hc : qfg b r.Name with
  | false => rfl
  | true => exact absurd ((qw4 _ _).1 hc) hn
 rw [qok h0 (qk2 hb.v) (qol hr) ht (by omega) g1 g2.z (qwm hr.ok) fun x hx => qp0 (hb.v.s x hx)]
 cases inI r.Minute (ivs _ r ls) with
 | true => exact .inl rfl
 | false => exact .inr rfl
theorem q3g {a0 : List S2062} {a1 : S5025} (hq : QIn a0 a1) {i : Int} {y : S5036} (hy : ixO a1.Slots i = some y) {k d : Int} (hd : ixO (s104 (S45.mk y.Request.Period.fFrom y.Request.Period.fTo y.Request.Period.Days)) k = some d) {r : S5042 × Int} (hr : qis (kg a1) y.Holder y.Request.Name d = some r) :
  BkB r.1 ∧ r.1.Slots.length ≤ 5 ∧ r.1.Waiting.length ≤ 1000 ∧ (∀ q, qfx r.1 (-1) = some q → q.length ≤ 1000) := by
 obtain ⟨hym, hrv⟩ := qqw hq hy;have hper := hrv.ok.per;have hdm : d ∈ s104 y.Request.Period := List.mem_of_getElem? (zh hd);rw [qhe _ hper] at hdm;have hrg := qaf _ _ _ d hdm;obtain ⟨q1, q2, q3, _⟩ := j7 _ hper
 have hx : (kg a1).Slots[i.toNat]? = some (vl y) := by rw [wx]; show (a1.Slots.map vl)[i.toNat]? = _; rw [List.getElem?_map, zh hy]; rfl
 have hbs : qis (kg a1) y.Holder y.Request.Name d = some (bk5 (kg a1) i.toNat (vl y) d, 0) := qo9 hq.b hx (by omega) (by omega) (show d ≤ (vl y).Request.Period.fTo by show d ≤ y.Request.Period.fTo; omega);have hbk := q1l hq.b hx (show 0 ≤ d by omega) (show d ≤ (vl y).Request.Period.fTo by show d ≤ y.Request.Period.fTo; omega);have hl := qvc hbs;have hl : (bk5 (kg a1) i.toNat (vl y) d).Slots.length ≤ (kg a1).Slots.length := hl;rw [hbs] at hr
 cases hr
 obtain ⟨hw1, hw2⟩ := hq.wl;have hn := hbk.n;refine ⟨hbk, Nat.le_trans hl hw2, ?_, fun q hq => Nat.le_trans (q1w hbk.s ?_ q hq) (by decide)⟩
 ·show (bk5 (kg a1) i.toNat (vl y) d).Waiting.length ≤ 1000
  omega
 ·omega
theorem qy2 {ls : List S2062} {b : S5042} {r : S115} {R : S5042 × Int} (h : qfe ls b r = some R) (h0 : R.2 = 0) : R.1.Slots.length ≤ b.Slots.length + 1 := by
 rw [(q0b h h0).1, List.length_append]; exact Nat.le_refl _
end Go.Sim
set_option maxRecDepth 100000
namespace Go.Sim
def mL : List S2062 := [S2062.mk ⟨#[104, 111, 117, 114]⟩ ⟨#[84]⟩ ⟨#[]⟩ 60 60 0 0 (S45.mk 10 20 127) 2]
def mX : S115 := S115.mk ⟨#[112]⟩ ⟨#[97, 98]⟩ ⟨#[65]⟩ ⟨#[]⟩ ⟨#[102, 97, 114]⟩ ⟨#[]⟩ (S45.mk 10 13 127) 5 0 1 0
def mY : S115 := S115.mk ⟨#[113]⟩ ⟨#[99, 100]⟩ ⟨#[65]⟩ ⟨#[]⟩ ⟨#[102, 97, 114]⟩ ⟨#[]⟩ (S45.mk 10 13 127) 5 0 1 0
def mY' : S115 := S115.mk ⟨#[113]⟩ ⟨#[99, 100]⟩ ⟨#[65]⟩ ⟨#[]⟩ ⟨#[102, 97, 114]⟩ ⟨#[]⟩ (S45.mk 10 11 127) 5 0 1 0
def mB1 : S5042 := S5042.mk [qa7 mX] []
def mB2 : S5042 := S5042.mk [qa7 mX, qa7 mY] []
def mB3 : S5042 := S5042.mk [qa7 mX, S5100.mk mY' ⟨#[99, 100]⟩ [] []] []
def mM (d : Int) (n : UInt8) : S1079 := S1079.mk (1440 * d + 5) ⟨#[65]⟩ ⟨#[]⟩ 0 1 0 ⟨#[n]⟩
theorem mk1 : qfe mL ⟨[], []⟩ mX = some (mB1, 0) := by
 rw [qok (ms := []) (by kernel_rfl) (by kernel_rfl) (by kernel_rfl) (by kernel_rfl) (by decide) (by kernel_rfl) (by kernel_rfl) (by kernel_rfl) (fun x h => by cases h)];rw [show inI mX.Minute (ivs [] mX mL) = false by kernel_rfl]
 rfl
theorem mv1 : qfx mB1 (-1) = some [mM 10 112, mM 11 112, mM 12 112, mM 13 112] := by kernel_rfl
theorem mk2 : qfe mL mB1 mY = some (mB2, 0) := by
 rw [qok (by kernel_rfl) (by kernel_rfl) (by kernel_rfl) (by kernel_rfl) (by decide) mv1 (by kernel_rfl) (by kernel_rfl) (fun x h => by
  have : x = qa7 mX := List.mem_singleton.1 h
  subst this; exact ⟨by decide, by decide⟩)]
 rw [show inI mY.Minute (ivs [mM 10 112, mM 11 112, mM 12 112, mM 13 112] mY mL) = false by kernel_rfl]
 rfl
end Go.Sim
set_option maxRecDepth 100000
namespace Go.Sim
def mS3 : List S1079 := [mM 10 112, mM 10 113, mM 11 112, mM 11 113, mM 12 112, mM 13 112]
theorem mk3 : qis mB2 ⟨#[99, 100]⟩ ⟨#[113]⟩ 12 = some (mB3, 0) := by kernel_rfl
theorem mk4 : qhc mB3 = some (mS3, 0) := by kernel_rfl
theorem mk5 : qlm mL mS3 (S1079.mk 15845 ⟨#[65]⟩ ⟨#[]⟩ 0 0 0 ⟨#[122]⟩) = some (0, 0) := by kernel_rfl
theorem mk6 : qlm mL mS3 (S1079.mk 17285 ⟨#[65]⟩ ⟨#[]⟩ 0 0 0 ⟨#[122]⟩) = some (1, 0) := by kernel_rfl
theorem mq0 (r : List S1079) (h : qfx (S5042.mk [] []) (-1) = some r) : r.length ≤ 1000 := by cases h; decide
theorem mq1 (r : List S1079) (h : qfx mB1 (-1) = some r) : r.length ≤ 1000 := by rw [mv1] at h; cases h; decide
open Go.Proofs
def q0g  : Option Bool :=
 zc (qfe [(S2062.mk (⟨#[104, 111, 117, 114]⟩) (⟨#[84]⟩) ByteArray.empty 60 60 0 0 (S45.mk 10 20 127) 2)] (S5042.mk [] []) (S115.mk (⟨#[112]⟩) (⟨#[97, 98]⟩) (⟨#[65]⟩) ByteArray.empty (⟨#[102, 97, 114]⟩) ByteArray.empty (S45.mk 10 13 127) 5 0 1 0)) fun r1 => zc (qfe [(S2062.mk (⟨#[104, 111, 117, 114]⟩) (⟨#[84]⟩) ByteArray.empty 60 60 0 0 (S45.mk 10 20 127) 2)] r1.1 (S115.mk (⟨#[113]⟩) (⟨#[99, 100]⟩) (⟨#[65]⟩) ByteArray.empty (⟨#[102, 97, 114]⟩) ByteArray.empty (S45.mk 10 13 127) 5 0 1 0)) fun r2 => zc (qis r2.1 (⟨#[99, 100]⟩) (⟨#[113]⟩) 12) fun r3 => zc (qhc r3.1) fun r4 => zc (qlm [(S2062.mk (⟨#[104, 111, 117, 114]⟩) (⟨#[84]⟩) ByteArray.empty 60 60 0 0 (S45.mk 10 20 127) 2)] r4.1 (S1079.mk 15845 (⟨#[65]⟩) ByteArray.empty 0 0 0 (⟨#[122]⟩))) fun r5 => zc (qlm [(S2062.mk (⟨#[104, 111, 117, 114]⟩) (⟨#[84]⟩) ByteArray.empty 60 60 0 0 (S45.mk 10 20 127) 2)] r4.1 (S1079.mk 17285 (⟨#[65]⟩) ByteArray.empty 0 0 0 (⟨#[122]⟩))) fun r6 => some (((decide (IntKind.i64.wrap ((IntKind.i64.wrap ((IntKind.i64.wrap ((IntKind.i64.wrap ((IntKind.i64.wrap (r1.2 + r2.2)) + r3.2)) + r4.2)) + r5.2)) + r6.2) = 0)) && (decide (r5.1 = 0))) && (decide (r6.1 = 1)))
set_option maxHeartbeats 16000000 in
theorem zb9 {g : GL}  {R : Bool}   (hR : q0g  = some R) : Con (EG g) 7 [] (G.bool R) := by
 unfold q0g at hR;refine qm Tryz.func7 U U fun w0 M0 => ?_;refine qb<|qa [.p]<|sa U U<|qd<|qb<|qa [.p, .p, .p, .p]<|su (jk U z46 U pl46 (zp U (zp U (zp U kx))) U) U<|su (jk U quv U q6c (zp U (zp U (zp U (zp U (zp U (zp U kx)))))) U) U ?_;refine su (qt U Tryz.underlying22 vy quv U (qx U jp) U (by exact lens rfl) (by decide)) U ?_;refine sa U U<|qd<|qb<|qa [.p, .p, .w, .w]<|su (jk U z46 U pl46 (zp U (zp U (zp U kx))) U) U<|su (jk U z116 U za3 (zp U (zp U (zp U (zp U (zp U (zp U (zp U kx))))))) U) U<|sw (zm 2 U z116 U U) U<|je U U (qw (tv := .g (G.agg [G.str (⟨#[112]⟩), G.str (⟨#[97, 98]⟩), G.str (⟨#[65]⟩), G.str ByteArray.empty, G.str (⟨#[102, 97, 114]⟩), G.str ByteArray.empty, G.int 10, G.int 13, G.int 127, G.int 5, G.int 0, G.int 1, G.int 0])) U qab U U U U U)<|qd<|qb<|qa [.r, .w, .w]<|sr (zj U qab U U U U) U<|sw (zm 3 U z116 U U) U<|je U U (qw (tv := .g (G.agg [G.str (⟨#[112]⟩), G.str (⟨#[97, 98]⟩), G.str (⟨#[65]⟩), G.str ByteArray.empty, G.str (⟨#[102, 97, 114]⟩), G.str ByteArray.empty, G.int 10, G.int 13, G.int 127, G.int 5, G.int 0, G.int 1, G.int 0])) U qab U U U U U)<|qd<|qb<|qa [.p, .w, .p, .w]<|su (qu U kh U) U<|je U U (qw (tv := .g (G.str (⟨#[113]⟩))) U ty9 U U U U U)<|su (qu U qj0 U) U<|je U U (qw (tv := .g (G.str (⟨#[99, 100]⟩))) U ty9 U U U U U)<|qd<|qb ?_;obtain ⟨r1, br1, hR⟩ := qh hR;have q0 := mq0;refine qa [.p, .p, .r, .p, .p, .p, .p, .w, .w, .p]<|sm rfl rfl<|su (qgt (x := G.agg [G.lit (.slice none 0 0), G.lit (.slice none 0 0)]) (y := G.agg [G.sl 16 (List.map S5100.c []), G.sl 14 (List.map S5072.c [])]) (jk rfl qbm rfl qfi kx rfl) (qfy ⟨qaw 16, qaw 14, trivial⟩)) rfl<|sr (zj rfl qab rfl rfl rfl rfl) rfl<|su (qg rfl q21 rfl (q3i [(S2062.mk (⟨#[104, 111, 117, 114]⟩) (⟨#[84]⟩) ByteArray.empty 60 60 0 0 (S45.mk 10 20 127) 2)] (S5042.mk [] []) (S115.mk (⟨#[112]⟩) (⟨#[97, 98]⟩) (⟨#[65]⟩) ByteArray.empty (⟨#[102, 97, 114]⟩) ByteArray.empty (S45.mk 10 13 127) 5 0 1 0) (by first | assumption | omega | (simp [qi]; done) | (simp [qi]; omega)) (by first | assumption | omega | (simp [qi]; done) | (simp [qi]; omega)) (by first | assumption | omega | (simp [qi]; done) | (simp [qi]; omega)) br1) (qe rfl (qe rfl (qe rfl qk)))) rfl<|sm rfl rfl<|su (qv rfl rfl rfl) rfl<|su (qv rfl rfl rfl) rfl<|sw (zm 4 rfl qbm rfl rfl) rfl<|je rfl rfl (qw (tv := .g (G.agg [G.sl 16 (List.map S5100.c r1.1.Slots), G.sl 14 (List.map S5072.c r1.1.Waiting)])) rfl jc rfl rfl rfl rfl rfl)<|sa rfl rfl<|qd<|qb ?_;obtain ⟨r2, br2, hR⟩ := qh hR;have e1 : r1 = (mB1, 0) := Option.some.inj (br1.symm.trans mk1)
 have q1 : r1.1.Slots.length ≤ 1000 := by rw [e1]; decide
 have q2 : r1.1.Waiting.length ≤ 1000 := by rw [e1]; decide
 have q3 : ∀ r, qfx r1.1 (-1) = some r → r.length ≤ 1000 := by rw [e1]; exact mq1
 refine qa [.p, .r, .r, .p, .p, .p, .p, .w, .p]<|sm rfl rfl<|sr (zj rfl jc rfl rfl rfl rfl) rfl<|sr (zj rfl qab rfl rfl rfl rfl) rfl<|su (qg rfl q21 rfl (q3i [(S2062.mk (⟨#[104, 111, 117, 114]⟩) (⟨#[84]⟩) ByteArray.empty 60 60 0 0 (S45.mk 10 20 127) 2)] r1.1 (S115.mk (⟨#[113]⟩) (⟨#[99, 100]⟩) (⟨#[65]⟩) ByteArray.empty (⟨#[102, 97, 114]⟩) ByteArray.empty (S45.mk 10 13 127) 5 0 1 0) (by first | assumption | omega | (simp [qi]; done) | (simp [qi]; omega)) (by first | assumption | omega | (simp [qi]; done) | (simp [qi]; omega)) (by first | assumption | omega | (simp [qi]; done) | (simp [qi]; omega)) br2) (qe rfl (qe rfl (qe rfl qk)))) rfl<|sm rfl rfl<|su (qv rfl rfl rfl) rfl<|su (qv rfl rfl rfl) rfl<|je rfl rfl (qw (tv := .g (G.agg [G.sl 16 (List.map S5100.c r2.1.Slots), G.sl 14 (List.map S5072.c r2.1.Waiting)])) rfl jc rfl rfl rfl rfl rfl)<|sa rfl rfl<|qd<|qb ?_;obtain ⟨r3, br3, hR⟩ := qh hR
 have e2 : r2 = (mB2, 0) := by rw [e1] at br2; exact Option.some.inj (br2.symm.trans mk2)
 have q4 : r2.1.Slots.length ≤ 1000000 := by rw [e2]; decide
 have q5 : r2.1.Waiting.length ≤ 1000000 := by rw [e2]; decide
 have q6 : ∀ a ∈ r2.1.Slots, a.Leases.length ≤ 1000000 := by rw [e2]; decide
 refine qa [.r, .p, .p, .p, .p, .w, .w, .p]<|sr (zj rfl jc rfl rfl rfl rfl) rfl<|su (qg rfl q50 rfl (q6l r2.1 (⟨#[99, 100]⟩) (⟨#[113]⟩) 12 (by first | assumption | omega | (simp [qi]; done) | (simp [qi]; omega)) (by first | assumption | omega | (simp [qi]; done) | (simp [qi]; omega)) (by first | assumption | omega | (simp [qi]; done) | (simp [qi]; omega)) br3) (qe rfl (qe rfl (qe rfl (qe rfl qk))))) rfl<|sm rfl rfl<|su (qv rfl rfl rfl) rfl<|su (qv rfl rfl rfl) rfl<|sw (zm 7 rfl qbm rfl rfl) rfl<|je rfl rfl (qw (tv := .g (G.agg [G.sl 16 (List.map S5100.c r3.1.Slots), G.sl 14 (List.map S5072.c r3.1.Waiting)])) rfl jc rfl rfl rfl rfl rfl)<|sa rfl rfl<|qd<|qb ?_;obtain ⟨r4, br4, hR⟩ := qh hR
 have e3 : r3 = (mB3, 0) := by rw [e2] at br3; exact Option.some.inj (br3.symm.trans mk3)
 have q7 : r3.1.Slots.length ≤ 1000000000000000 := by rw [e3]; decide
 refine qa [.r, .p, .p, .p, .p, .p, .p]<|sr (zj rfl jc rfl rfl rfl rfl) rfl<|su (qg rfl qyn rfl (qyz r3.1 (by first | assumption | omega | (simp [qi]; done) | (simp [qi]; omega)) br4) (qe rfl qk)) rfl<|sm rfl rfl<|su (qv rfl rfl rfl) rfl<|su (qv rfl rfl rfl) rfl<|sa rfl rfl<|sa rfl rfl<|qd<|qb ?_;obtain ⟨r5, br5, hR⟩ := qh hR
 have e4 : r4 = (mS3, 0) := by rw [e3] at br4; exact Option.some.inj (br4.symm.trans mk4)
 have q8 : r4.1.length ≤ 1000 := by rw [e4]; decide
 refine qa [.p, .p, .p, .p, .p, .p, .p, .p, .p]<|sm rfl rfl<|sm rfl rfl<|su (jk rfl qlj rfl qrs (zp rfl (zp rfl (zp rfl kx))) rfl) rfl<|su (qg rfl qyk rfl (qy0 [(S2062.mk (⟨#[104, 111, 117, 114]⟩) (⟨#[84]⟩) ByteArray.empty 60 60 0 0 (S45.mk 10 20 127) 2)] r4.1 (S1079.mk 15845 (⟨#[65]⟩) ByteArray.empty 0 0 0 (⟨#[122]⟩)) (by first | assumption | omega | (simp [qi]; done) | (simp [qi]; omega)) br5) (qe rfl (qe rfl (qe rfl qk)))) rfl<|sm rfl rfl<|su (qv rfl rfl rfl) rfl<|su (qv rfl rfl rfl) rfl<|sa rfl rfl<|sa rfl rfl<|qd<|qb ?_;obtain ⟨r6, br6, hR⟩ := qh hR;refine qa [.p, .p, .p, .p, .p, .p, .p, .p, .p]<|sm rfl rfl<|sm rfl rfl<|su (jk rfl qlj rfl qrs (zp rfl (zp rfl (zp rfl kx))) rfl) rfl<|su (qg rfl qyk rfl (qy0 [(S2062.mk (⟨#[104, 111, 117, 114]⟩) (⟨#[84]⟩) ByteArray.empty 60 60 0 0 (S45.mk 10 20 127) 2)] r4.1 (S1079.mk 17285 (⟨#[65]⟩) ByteArray.empty 0 0 0 (⟨#[122]⟩)) (by first | assumption | omega | (simp [qi]; done) | (simp [qi]; omega)) br6) (qe rfl (qe rfl (qe rfl qk)))) rfl<|sm rfl rfl<|su (qv rfl rfl rfl) rfl<|su (qv rfl rfl rfl) rfl<|sa rfl rfl<|sa rfl rfl<|qd<|qb<|qa [.p, .p, .p, .p, .p, .p, .p, .p, .p, .p, .p, .p, .p, .p, .p, .p, .p, .p, .p, .p, .p]<|sm rfl rfl<|sm rfl rfl<|su (kl rfl rfl rfl) rfl<|sm rfl rfl<|su (kl rfl rfl rfl) rfl<|sm rfl rfl<|su (kl rfl rfl rfl) rfl<|sm rfl rfl<|su (kl rfl rfl rfl) rfl<|sm rfl rfl<|su (kl rfl rfl rfl) rfl<|su (jn rfl rfl rfl) rfl<|sm rfl rfl<|sg rfl rfl (fun h => qj rfl rfl) rfl<|sg rfl rfl (fun h => jn rfl (gd h rfl) rfl) rfl<|su (zt rfl rfl rfl rfl) rfl<|sm rfl rfl<|sg rfl rfl (fun h => qj rfl rfl) rfl<|sg rfl rfl (fun h => jn rfl (gd h rfl) rfl) rfl<|su (zt rfl rfl rfl rfl) rfl<|sa rfl rfl<|qd<|qo ?_;obtain rfl := Option.some.inj hR;exact za U (rv_g U)
theorem qe6 {α β : Type} {x : Option α} {a : α} {f : α → Option β} {r : Option β} (h : x = some a) (k : f a = r) : zc x f = r := by rw [h]; exact k
theorem que : q0g = some true := by
 unfold q0g;refine qe6 mk1<|qe6 mk2<|qe6 mk3<|qe6 mk4<|qe6 mk5<|qe6 mk6 ?_
 decide
theorem mkt_ex : ∃ b : Bool, b = true ∧ ∀ g : List (Nat × List Value), Con (EG g) 7 [] (G.bool b) := ⟨true, rfl, fun g => zb9 que⟩
noncomputable def mktB : Bool := mkt_ex.choose
theorem qgh : mktB = true := mkt_ex.choose_spec.1
theorem qrx {g : GL} : Con (EG g) 7 [] (G.bool mktB) := mkt_ex.choose_spec.2 g
end Go.Sim
