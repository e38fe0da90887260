/-
  What is proved: lemmas and contracts of functions on the way to the law useRights (part 11).
-/
import Derived.Test.YtdfgeoefbbkcnaaGreatDoorVrA8
import Derived.Test.YtdfgeoefbbkcnaaGreatDoorVrA4
import Derived.Test.YtdfgeoefbbkcnaaGreatDoorVrA9
import Derived.Test.YtdfgeoefbbkcnaaGreatDoorVrB1
set_option linter.unusedSectionVars false
set_option linter.unusedSimpArgs false
set_option linter.unusedVariables false
set_option linter.unnecessarySimpa false
set_option linter.deprecated false
set_option maxRecDepth 10000
namespace Go.Sim
open Go.Proofs
def s185 (a0 : S115) (a1 : S115) : Bool :=
 decide (a0.Name = a1.Name)
theorem c185 {g : List (Nat × List Value)} (a0 : S115) (a1 : S115)    : Con (EG g) 185 [G.agg [G.str a0.Name, G.str a0.Carrier, G.str a0.Kind, G.str a0.Terminal, G.str a0.Partner, G.str a0.Link, G.int a0.Period.fFrom, G.int a0.Period.fTo, G.int a0.Period.Days, G.int a0.Minute, G.int a0.Seats, G.int a0.Size, G.int a0.Noise], G.ref [G.str a1.Name, G.str a1.Carrier, G.str a1.Kind, G.str a1.Terminal, G.str a1.Partner, G.str a1.Link, G.int a1.Period.fFrom, G.int a1.Period.fTo, G.int a1.Period.Days, G.int a1.Minute, G.int a1.Seats, G.int a1.Size, G.int a1.Noise]] (G.bool (s185 a0 a1)) := by
 generalize hR : s185 a0 a1 = R;unfold s185 at hR;refine qn Tryz.func185 rfl rfl fun w0 M0 => ?_;refine qb (qa [.p, .p] (su (zl rfl rfl) rfl (sa rfl rfl (qc (qb (qa [.p, .p, .p, .p, .p, .p] ?_))))));refine su (qd rfl xk rfl) rfl (su (qf rfl ty9 rfl) rfl (su (qd rfl xk rfl) rfl (su (qf rfl ty9 rfl) rfl (su (jr rfl rfl rfl) rfl (sa rfl rfl (qc ?_))))));refine qo ?_;subst hR;exact zb rfl (rv_g rfl)
def s220_l1 (a1 : S115 → Bool) : List S115 → Nat → Int
 | [], k2 => (-1)
 | y3 :: t4, k2 => (bif (a1 y3) then ((k2 : Nat) : Int) else s220_l1 a1 t4 (k2 + 1))
def s220 (a0 : List S115) (a1 : S115 → Bool) : Int :=
 s220_l1 a1 a0 0
theorem c220 {g : List (Nat × List Value)} (a0 : List S115) (a1 : S115 → Bool) {ca1 : G} {ia1 : FuncId} {ka1 : List G} (ha1 : FnIs ca1 ia1 ka1) (Ka1 : Known Tryz.prog ia1) (Ha1 : ∀ (x0 : S115), Con (EG g) ia1 ([G.agg [G.str x0.Name, G.str x0.Carrier, G.str x0.Kind, G.str x0.Terminal, G.str x0.Partner, G.str x0.Link, G.int x0.Period.fFrom, G.int x0.Period.fTo, G.int x0.Period.Days, G.int x0.Minute, G.int x0.Seats, G.int x0.Size, G.int x0.Noise]] ++ ka1) (G.bool (a1 x0)))   : Con (EG g) 220 [G.sl 13 (List.map S115.c a0), ca1] (G.int (s220 a0 a1)) := by
 generalize hR : s220 a0 a1 = R;unfold s220 at hR;refine qn Tryz.func220 rfl rfl fun w0 M0 => ?_;refine zd (f := S115.c) (l := a0) 0 rfl fun hla0 => ?_;refine qb (qa [.p] (sa rfl rfl (qc (qb (qb (qa [.p, .p, .p] ?_))))));refine sm rfl rfl (su (qv (f := S115.c) (l := a0) rfl Tryz.underlying112 rfl) rfl (sm rfl rfl (qc (qi (qq (γ := Nat × (List S115)) (fun g => ([(0, .g (G.sl 13 (List.map S115.c a0))), (1, .g (ca1)), (7, .g (G.int (List.length a0 : Int))), (8, .g (G.int ((g.1 : Nat) : Int)))], [])) (fun g => a0.drop g.1 = g.2 ∧ s220_l1 a1 g.2 g.1 = R) (fun g => List.length g.2) ⟨rfl, (0, a0), ⟨rfl, rfl, rfl, rfl, trivial⟩, trivial, rfl, ⟨rfl, hR⟩, trivial⟩ ?_)))))
 ·rintro ⟨k2, t4⟩ ⟨hd, hR⟩;replace hd : a0.drop k2 = t4 := hd;replace hR : s220_l1 a1 t4 k2 = R := hR;refine qb (qa [.p] (su (qu rfl rfl rfl) rfl (qc (zd (f := S115.c) (l := a0) 0 rfl fun hlz1 => ?_))));refine qb (qj _ rfl (fun h1 => ?_) (fun h1 => ?_))
  ·replace h1 : (decide (((k2 : Nat) : Int) < (List.length a0 : Int))) = true := h1;obtain ⟨y3, t4, rfl, hx1, hd⟩ := ze hd (decT h1);replace h1 := decT h1;rw [s220_l1] at hR;(try dsimp only at hR);refine ql (qb (qi (qb (qa [.p, .p] (sm rfl rfl (sa rfl rfl ?_))))));refine qc (qb (qa [.p, .p, .p, .p, .p, .p] (sm rfl rfl (sm rfl rfl (sm rfl rfl (su (zh (f := S115.c) (l := a0) (a := y3) rfl Tryz.underlying112 wc rfl rfl (Int.natCast_nonneg _) hx1) rfl ?_))))));refine su (qt rfl wc rfl rfl rfl) rfl (su (vd rfl ha1 Ka1 rfl (Ha1 y3) (qe rfl qm)) rfl (qc (qj _ rfl (fun h3 => ?_) (fun h3 => ?_))))
   ·replace hR := zj hR h3;refine qb (qa [.p, .p] (sm rfl rfl (sa rfl rfl (qc (qo ?_)))));subst hR;exact zb rfl (rv_g rfl)
   ·replace h3 : ((a1 y3)) = false := h3;replace hR := zk hR h3;(try simp only [bB] at h3);refine ql (qa [.p, .p] (su (zc rfl rfl rfl iE) rfl (sm rfl rfl (qc ?_))));exact ⟨rfl, (k2 + 1, t4), ⟨rfl, rfl, rfl, rfl, trivial⟩, trivial, rfl, ⟨hd, hR⟩, by simp⟩
  ·replace h1 : (decide (((k2 : Nat) : Int) < (List.length a0 : Int))) = false := h1;obtain rfl := zm hd (decF h1);rw [s220_l1] at hR;refine qw ?_;refine qb (qa [.p] (sa rfl rfl (qc (qo ?_))));subst hR;exact zb rfl (rv_g rfl)
def s184 (a0 : List S115) (a1 : S115 → Bool) : Bool :=
 decide (0 ≤ (s220 a0 a1))
theorem c184 {g : List (Nat × List Value)} (a0 : List S115) (a1 : S115 → Bool) {ca1 : G} {ia1 : FuncId} {ka1 : List G} (ha1 : FnIs ca1 ia1 ka1) (Ka1 : Known Tryz.prog ia1) (Ha1 : ∀ (x0 : S115), Con (EG g) ia1 ([G.agg [G.str x0.Name, G.str x0.Carrier, G.str x0.Kind, G.str x0.Terminal, G.str x0.Partner, G.str x0.Link, G.int x0.Period.fFrom, G.int x0.Period.fTo, G.int x0.Period.Days, G.int x0.Minute, G.int x0.Seats, G.int x0.Size, G.int x0.Noise]] ++ ka1) (G.bool (a1 x0)))   : Con (EG g) 184 [G.sl 13 (List.map S115.c a0), ca1] (G.bool (s184 a0 a1)) := by
 generalize hR : s184 a0 a1 = R;unfold s184 at hR;refine qn Tryz.func184 rfl rfl fun w0 M0 => ?_;refine zd (f := S115.c) (l := a0) 0 rfl fun hla0 => ?_;refine qb (qa [.p] (sa rfl rfl (qc (qb (qa [.p, .p, .p, .p, .p] (sm rfl rfl ?_))))));refine sm rfl rfl (su (qg rfl K220 rfl (c220 a0 a1 ha1 Ka1 Ha1) (qe rfl (qe rfl qm))) rfl (su (ko rfl rfl rfl) rfl (sa rfl rfl (qc (qo ?_)))));subst hR;exact zb rfl (rv_g rfl)
def s134_l1 (a0 : List S115) : List S115 → Nat → Int
 | [], k2 => 0
 | y3 :: t4, k2 => (bif decide ((s84 [(s87 y3.Name), (s86 (s184 (List.take (Int.toNat ((k2 : Nat) : Int)) a0) (fun x0 => s185 x0 (S115.mk y3.Name y3.Carrier y3.Kind y3.Terminal y3.Partner y3.Link (S45.mk y3.Period.fFrom y3.Period.fTo y3.Period.Days) y3.Minute y3.Seats y3.Size y3.Noise))) 9), (s101 y3.Kind), (s102 (S45.mk y3.Period.fFrom y3.Period.fTo y3.Period.Days)), (s85 y3.Minute 0 1439)]) ≠ 0) then (s84 [(s87 y3.Name), (s86 (s184 (List.take (Int.toNat ((k2 : Nat) : Int)) a0) (fun x0 => s185 x0 (S115.mk y3.Name y3.Carrier y3.Kind y3.Terminal y3.Partner y3.Link (S45.mk y3.Period.fFrom y3.Period.fTo y3.Period.Days) y3.Minute y3.Seats y3.Size y3.Noise))) 9), (s101 y3.Kind), (s102 (S45.mk y3.Period.fFrom y3.Period.fTo y3.Period.Days)), (s85 y3.Minute 0 1439)]) else s134_l1 a0 t4 (k2 + 1))
def s134 (a0 : List S115) : Int :=
 (bif decide (64 < (List.length a0 : Int)) then 5 else s134_l1 a0 a0 0)
theorem c134 {g : List (Nat × List Value)} (a0 : List S115)    : Con (EG g) 134 [G.sl 13 (List.map S115.c a0)] (G.int (s134 a0)) := by
 generalize hR : s134 a0 = R;unfold s134 at hR;refine qn Tryz.func134 rfl rfl fun w0 M0 => ?_;refine zd (f := S115.c) (l := a0) 0 rfl fun hla0 => ?_;refine qb (qa [.p] (sa rfl rfl (qc (qb (qb (qa [.p, .p, .p] ?_))))));refine sm rfl rfl (su (qv (f := S115.c) (l := a0) rfl Tryz.underlying112 rfl) rfl (su (z0 rfl rfl rfl) rfl (qc (qj _ rfl (fun h1 => ?_) (fun h1 => ?_)))))
 ·replace hR := zj hR h1;refine qb (qa [.p] (sa rfl rfl (qc (qo ?_))));subst hR;exact zb rfl (rv_g rfl)
 ·replace h1 : (decide (64 < (List.length a0 : Int))) = false := h1;replace hR := zk hR h1;(try simp only [bB] at h1);refine ql (qb (qb (qa [.p, .p, .p] (sm rfl rfl (su (qv (f := S115.c) (l := a0) rfl Tryz.underlying112 rfl) rfl (sm rfl rfl ?_))))));refine qc (qi (qq (γ := Nat × (List S115)) (fun g => ([(0, .g (G.sl 13 (List.map S115.c a0))), (10, .g (G.sl 13 (List.map S115.c a0))), (11, .g (G.int (List.length a0 : Int))), (12, .g (G.int ((g.1 : Nat) : Int)))], [])) (fun g => a0.drop g.1 = g.2 ∧ s134_l1 a0 g.2 g.1 = R) (fun g => List.length g.2) ⟨rfl, (0, a0), ⟨rfl, rfl, rfl, rfl, trivial⟩, trivial, rfl, ⟨rfl, hR⟩, trivial⟩ ?_))
  ·rintro ⟨k2, t4⟩ ⟨hd, hR⟩;replace hd : a0.drop k2 = t4 := hd;replace hR : s134_l1 a0 t4 k2 = R := hR;refine qb (qa [.p] (su (qu rfl rfl rfl) rfl (qc (zd (f := S115.c) (l := a0) 0 rfl fun hlz1 => ?_))));refine qb (qj _ rfl (fun h2 => ?_) (fun h2 => ?_))
   ·replace h2 : (decide (((k2 : Nat) : Int) < (List.length a0 : Int))) = true := h2;obtain ⟨y3, t4, rfl, hx1, hd⟩ := ze hd (decT h2);replace h2 := decT h2;rw [s134_l1] at hR;(try dsimp only at hR);refine ql (qb (qi (qb (qa [.p, .p, .p, .w, .p, .w] (sm rfl rfl (su (zh (f := S115.c) (l := a0) (a := y3) rfl Tryz.underlying112 wc rfl rfl (Int.natCast_nonneg _) hx1) rfl ?_))))));refine su (qt rfl wc rfl rfl rfl) rfl (sw (zq 4 rfl z116 rfl rfl) rfl (sa rfl rfl (jf rfl rfl (za (tv := .g (G.agg [G.str y3.Name, G.str y3.Carrier, G.str y3.Kind, G.str y3.Terminal, G.str y3.Partner, G.str y3.Link, G.int y3.Period.fFrom, G.int y3.Period.fTo, G.int y3.Period.Days, G.int y3.Minute, G.int y3.Seats, G.int y3.Size, G.int y3.Noise])) rfl wc rfl rfl rfl rfl rfl) (qc (qb (w3 (l := [(0, .g (G.sl 13 (List.map S115.c a0))), (3, .g (G.int ((k2 : Nat) : Int))), (4, .g (G.ref [G.str y3.Name, G.str y3.Carrier, G.str y3.Kind, G.str y3.Terminal, G.str y3.Partner, G.str y3.Link, G.int y3.Period.fFrom, G.int y3.Period.fTo, G.int y3.Period.Days, G.int y3.Minute, G.int y3.Seats, G.int y3.Size, G.int y3.Noise])), (10, .g (G.sl 13 (List.map S115.c a0))), (11, .g (G.int (List.length a0 : Int))), (12, .g (G.int ((k2 : Nat) : Int)))]) (m := []) 4 rfl ⟨.inl ⟨rfl, rfl⟩, .inl ⟨rfl, rfl⟩, .inr (qfm rfl), .inl ⟨rfl, rfl⟩, .inl ⟨rfl, rfl⟩, .inl ⟨rfl, rfl⟩, trivial⟩ trivial rfl rfl ?_))))));refine qa [.p, .p, .p, .p, .p, .p] (sm rfl rfl (sm rfl rfl (su (qiq (f := S115.c) (l := a0) rfl Tryz.underlying112 wc rfl w5 (xm rfl (Int.natCast_nonneg _)) (Nat.zero_le _) (qm9 hx1)) rfl (su (wo rfl rfl rfl) rfl (su (qg rfl K184 rfl (c184 (List.take (Int.toNat ((k2 : Nat) : Int)) a0) (fun x0 => s185 x0 (S115.mk y3.Name y3.Carrier y3.Kind y3.Terminal y3.Partner y3.Link (S45.mk y3.Period.fFrom y3.Period.fTo y3.Period.Days) y3.Minute y3.Seats y3.Size y3.Noise)) qc2 K185 (fun x0 => c185 x0 (S115.mk y3.Name y3.Carrier y3.Kind y3.Terminal y3.Partner y3.Link (S45.mk y3.Period.fFrom y3.Period.fTo y3.Period.Days) y3.Minute y3.Seats y3.Size y3.Noise))) (qe rfl (qe rfl qm))) rfl (sa rfl rfl ?_))))));refine qc (qb (zu [.p, .p, .p, .p, .p, .p, .p, .p, .p, .p, .p, .p, .p, .p, .p, .p, .p] (by kernel_rfl) (su (qd rfl xk rfl) rfl (su (qf rfl ty9 rfl) rfl (su (qg rfl K87 rfl (c87 y3.Name) (qe rfl qm)) rfl (sm rfl rfl ?_))))));refine su (qg rfl K86 rfl (c86 (s184 (List.take (Int.toNat ((k2 : Nat) : Int)) a0) (fun x0 => s185 x0 (S115.mk y3.Name y3.Carrier y3.Kind y3.Terminal y3.Partner y3.Link (S45.mk y3.Period.fFrom y3.Period.fTo y3.Period.Days) y3.Minute y3.Seats y3.Size y3.Noise))) 9) (qe rfl (qe rfl qm))) rfl (su (qd rfl qd2 rfl) rfl (su (qf rfl ty9 rfl) rfl (su (qg rfl K101 rfl (c101 y3.Kind) (qe rfl qm)) rfl (su (qd rfl qaf rfl) rfl (su (qt rfl ty46 rfl rfl rfl) rfl (su (qg rfl K102 rfl (c102 (S45.mk y3.Period.fFrom y3.Period.fTo y3.Period.Days)) (qe rfl qm)) rfl ?_))))));refine su (qd rfl qf8 rfl) rfl (su (qf rfl ty3 rfl) rfl (su (qg rfl K85 rfl (c85 y3.Minute 0 1439) (qe rfl (qe rfl (qe rfl qm)))) rfl (su (qr rfl Tryz.underlying170 ty37 z37 rfl (qy rfl (qy rfl (qy rfl (qy rfl (qy rfl jc))))) rfl (by simp []) (by decide)) rfl (su (qg rfl K84 rfl (c84 [(s87 y3.Name), (s86 (s184 (List.take (Int.toNat ((k2 : Nat) : Int)) a0) (fun x0 => s185 x0 (S115.mk y3.Name y3.Carrier y3.Kind y3.Terminal y3.Partner y3.Link (S45.mk y3.Period.fFrom y3.Period.fTo y3.Period.Days) y3.Minute y3.Seats y3.Size y3.Noise))) 9), (s101 y3.Kind), (s102 (S45.mk y3.Period.fFrom y3.Period.fTo y3.Period.Days)), (s85 y3.Minute 0 1439)]) (qe rfl qm)) rfl (sa rfl rfl (qc ?_))))));refine qb (qa [.p, .p] (sm rfl rfl (su (jg rfl rfl rfl) rfl (qc (qj _ rfl (fun h4 => ?_) (fun h4 => ?_))))))
    ·replace hR := zj hR h4;refine qb (qa [.p, .p] (sm rfl rfl (sa rfl rfl (qc (qo ?_)))));subst hR;exact zb rfl (rv_g rfl)
    ·replace h4 : (decide ((s84 [(s87 y3.Name), (s86 (s184 (List.take (Int.toNat ((k2 : Nat) : Int)) a0) (fun x0 => s185 x0 (S115.mk y3.Name y3.Carrier y3.Kind y3.Terminal y3.Partner y3.Link (S45.mk y3.Period.fFrom y3.Period.fTo y3.Period.Days) y3.Minute y3.Seats y3.Size y3.Noise))) 9), (s101 y3.Kind), (s102 (S45.mk y3.Period.fFrom y3.Period.fTo y3.Period.Days)), (s85 y3.Minute 0 1439)]) ≠ 0)) = false := h4;replace hR := zk hR h4;(try simp only [bB] at h4);refine ql (qa [.p, .p] (su (zc rfl rfl rfl iE) rfl (sm rfl rfl (qc ?_))));exact ⟨rfl, (k2 + 1, t4), ⟨rfl, rfl, rfl, rfl, trivial⟩, trivial, rfl, ⟨hd, hR⟩, by simp⟩
   ·replace h2 : (decide (((k2 : Nat) : Int) < (List.length a0 : Int))) = false := h2;obtain rfl := zm hd (decF h2);rw [s134_l1] at hR;refine qw ?_;refine qb (qa [.p] (sa rfl rfl (qc (qo ?_))));subst hR;exact zb rfl (rv_g rfl)
end Go.Sim
set_option maxRecDepth 10000
namespace Go.Sim
open Go.Proofs
theorem qxr {g : List (Nat × List Value)} (a0 : List S151) {R : List Int}  (hb0 : a0.length ≤ 1000) (hs0 : UpS a0) (hR : s168 a0 = some R) : ConN (EG g) 168 [G.sl 3 (List.map S151.c a0)] 3 1 (List.map cInt R) := by
 unfold s168 at hR;refine kl Tryz.func168 rfl rfl fun w0 M0 => ?_;refine zd (f := S151.c) (l := a0) 0 rfl fun hla0 => ?_;refine qb (qa [.p, .w] (su (zl rfl rfl) rfl (sw (zt 2 3 1 rfl rfl rfl) rfl (qc (qb (qa [.p, .p, .w, .p] ?_))))));refine su (qf rfl ty25 rfl) rfl (su (qv (f := S151.c) (l := a0) rfl Tryz.underlying25 rfl) rfl (sw (qdd (f := cInt) (z := 0) 7 rfl mk82 rfl rfl rfl (by first | exact Int.le_refl _ | omega) (by first | decide | omega) rfl rfl rfl) rfl (su (qx rfl rfl) rfl (qc (qb (qb ?_))))));refine qa [.p, .p, .p] (su (qf rfl ty25 rfl) rfl (su (qv (f := S151.c) (l := a0) rfl Tryz.underlying25 rfl) rfl (sm rfl rfl (qc (qi (qq (γ := Nat × (List S151) × (List Int)) (fun g => ([(1, .g (G.ref [G.sl 3 (List.map S151.c a0)])), (3, .osl 7 1 0 (List.length a0)), (9, .g (G.int (List.length a0 : Int))), (10, .g (G.int ((g.1 : Nat) : Int)))], [(7, .arr 3 1 (List.map cInt g.2.2))])) (fun g => g.2.2 = idxs g.1 ++ List.replicate (a0.length - g.1) 0 ∧ List.length g.2.2 = List.length a0 ∧ a0.drop g.1 = g.2.1 ∧ s168_l1 a0 g.2.1 g.1 g.2.2 = some R) (fun g => List.length g.2.1) ⟨rfl, (0, a0, List.replicate (List.length a0) 0), ⟨rfl, rfl, rfl, rfl, trivial⟩, ⟨rfl, trivial⟩, rfl, ⟨(by simp [idxs]), List.length_replicate, rfl, hR⟩, trivial⟩ ?_))))))
 ·rintro ⟨k4, t6, x2⟩ ⟨iv1_0, ln3, hd, hR⟩;replace hd : a0.drop k4 = t6 := hd;replace hR : s168_l1 a0 t6 k4 x2 = some R := hR;replace iv1_0 : x2 = idxs k4 ++ List.replicate (a0.length - k4) 0 := iv1_0;replace ln3 : List.length x2 = List.length a0 := ln3;refine qb (qa [.p] (su (qu rfl rfl rfl) rfl (qc (qb (qj _ rfl (fun h1 => ?_) (fun h1 => ?_))))))
  ·replace h1 : (decide (((k4 : Nat) : Int) < (List.length a0 : Int))) = true := h1;obtain ⟨y5, t6, rfl, hx1, hd⟩ := ze hd (decT h1);replace h1 := decT h1;rw [s168_l1] at hR;(try dsimp only at hR);refine ql (qb (qi (qb (qa [.p, .p] (sm rfl rfl (sa rfl rfl ?_))))));refine qc ?_;obtain ⟨y8, by8, hR⟩ := qk hR;refine qa [.p, .p, .p, .p, .w] (su (qp rfl rfl) rfl (sm rfl rfl (sm rfl rfl (su (jl rfl Tryz.underlying82 ty3 rfl rfl (z5 by8) (Nat.lt_of_lt_of_eq (jk (qz by8)) ln3)) rfl (jf rfl rfl (vx (f := cInt) (l := x2) (a' := ((k4 : Nat) : Int)) rfl ty3 rfl rfl rfl (Nat.lt_of_lt_of_eq (Nat.lt_of_lt_of_eq (jk (qz by8)) ln3) (Eq.symm ln3)) rfl (fun _ => rfl)) (qc ?_))))));refine qa [.p, .p] (su (zc rfl rfl rfl iE) rfl (sm rfl rfl (qc ?_)));exact ⟨rfl, (k4 + 1, t6, List.set x2 (Int.toNat ((k4 : Nat) : Int)) ((k4 : Nat) : Int)), ⟨rfl, rfl, rfl, rfl, trivial⟩, ⟨rfl, trivial⟩, rfl, ⟨(qp4 iv1_0 (jk hx1)), ((List.length_set ..).trans ln3), hd, hR⟩, by simp⟩
  ·replace h1 : (decide (((k4 : Nat) : Int) < (List.length a0 : Int))) = false := h1;obtain rfl := zm hd (decF h1);rw [s168_l1] at hR;refine qw ?_;refine qb ?_;obtain ⟨r7, br7, hR⟩ := qk hR;refine qa [.p, .p, .w] (su (qp rfl rfl) rfl (su (wo rfl rfl rfl) rfl (sw (jy 0 7 rfl K203 rfl (qyj x2 (fun x0 x1 => s204 x0 x1 a0) ln3 qc2 K204 (fun x0 x1 r_ h_ => c204 x0 x1 a0 h_) (by omega) (qtf hs0 iv1_0 (by assumption) (by have := decF h1; omega)) br7) (zp rfl rfl (zp rfl rfl xx)) rfl rfl rfl) rfl (qc (qb (qa [.p, .p] ?_))))));refine su (qp rfl rfl) rfl (su (qx rfl rfl) rfl (qc (qo ?_)));obtain rfl := Option.some.inj hR;exact kz rfl rfl rfl ((List.length_map ..).trans ((qny br7).trans ln3))
theorem qxs {g : List (Nat × List Value)} (a0 : List S151) {R : List Int} (hb0 : a0.length ≤ 1000) (hs0 : SortOk a0) (hR : s168 a0 = some R) : ConN (EG g) 168 [G.sl 3 (List.map S151.c a0)] 3 1 (List.map cInt R) :=
 hs0.elim (fun h => n168 a0 h hR) (fun h => qxr a0 hb0 h hR)
theorem qxt {g : List (Nat × List Value)} (a0 : List S151) {R : List Int} (hb0 : a0.length ≤ 1000) (hs0 : SortOk a0) (hR : s168 a0 = some R) : Con (EG g) 168 [G.sl 3 (List.map S151.c a0)] (G.sl 1 (List.map cInt R)) :=
 ConN.con (by decide) (qxs a0 hb0 hs0 hR)
end Go.Sim
set_option maxRecDepth 10000
namespace Go.Sim
open Go.Proofs
theorem qxu {g : List (Nat × List Value)} (a0 : S23) (a1 : List S151) (a2 : List S151) {R : List S154}  (hb1 : a1.length ≤ 1000) (hb2 : a2.length ≤ 1000) (hs1 : SortOk a1) (hs2 : SortOk a2) (hR : s115 a0 a1 a2 = some R) : ConN (EG g) 115 [G.agg [G.int a0.Before, G.int a0.After, G.int a0.Notice, G.int a0.Share, G.sl 1 (List.map cStr a0.Causes), G.int a0.Off, G.int a0.Run], G.sl 3 (List.map S151.c a1), G.sl 3 (List.map S151.c a2)] 155 2 (List.map S154.c R) := by
 unfold s115 at hR;refine kl Tryz.func115 rfl rfl fun w0 M0 => ?_;refine zd (f := S151.c) (l := a1) 1 rfl fun hla1 => ?_;refine zd (f := S151.c) (l := a2) 2 rfl fun hla2 => ?_;refine qb (qa [.p, .w] (su (zl rfl rfl) rfl (sw (zt 6 155 2 rfl rfl rfl) rfl (qc (qb (qa [.w, .p] ?_))))));refine sw (qdm 14 rfl rfl) rfl (su (qcz rfl rfl) rfl (qc (qb ?_)));obtain ⟨r1, br1, hR⟩ := qk hR;refine qa [.p, .p, .p] (sm rfl rfl (su (qg rfl K168 rfl (qxt a2 iA iA br1) (qe rfl qm)) rfl (sa rfl rfl (qc ?_))));have hl1 := qry br1;refine qb (qa [.w] (sw (zt 9 155 2 rfl rfl rfl) rfl (qc (qb (qb ?_)))));obtain ⟨r2, br2, hR⟩ := qk hR;refine qa [.p, .p, .p, .p] (sm rfl rfl (su (qg rfl K168 rfl (qxt a1 iA iA br2) (qe rfl qm)) rfl (su (qv (f := cInt) (l := r2) rfl Tryz.underlying82 rfl) rfl (sm rfl rfl (qc ?_)))));have hl2 := qry br2;refine qi (qq (γ := Nat × (List Int) × (List S154) × (List (Int × Bool))) (fun g => ([(1, .g (G.sl 3 (List.map S151.c a1))), (2, .g (G.sl 3 (List.map S151.c a2))), (3, .g (G.ref [G.int a0.Before, G.int a0.After, G.int a0.Notice, G.int a0.Share, G.sl 1 (List.map cStr a0.Causes), G.int a0.Off, G.int a0.Run])), (7, .omap 14), (8, .g (G.sl 1 (List.map cInt r1))), (9, .osl 9 2 0 (List.length g.2.2.1)), (18, .g (G.sl 1 (List.map cInt r2))), (19, .g (G.int (List.length r2 : Int))), (20, .g (G.int ((g.1 : Nat) : Int)))], [(9, .arr 155 2 (List.map S154.c g.2.2.1)), (14, mpB (K := Int) (V := Bool) (Value.int .i64) (fun v => G.bool v) g.2.2.2)])) (fun g => g.2.2.1.length ≤ g.1 ∧ r2.drop g.1 = g.2.1 ∧ s115_l1 a0 a1 a2 r1 g.2.1 g.1 g.2.2.1 g.2.2.2 = some R) (fun g => List.length g.2.1) ⟨rfl, (0, r2, [], []), ⟨rfl, rfl, rfl, rfl, rfl, rfl, rfl, rfl, rfl, trivial⟩, ⟨rfl, rfl, trivial⟩, rfl, ⟨iH, rfl, hR⟩, trivial⟩ ?_)
 ·rintro ⟨k6, t8, x3, x5⟩ ⟨iv1_0, hd, hR⟩;replace hd : r2.drop k6 = t8 := hd;replace hR : s115_l1 a0 a1 a2 r1 t8 k6 x3 x5 = some R := hR;replace iv1_0 : x3.length ≤ k6 := iv1_0;refine qb (qa [.p] (su (qu rfl rfl rfl) rfl (qc (zd (f := cInt) (l := r2) 18 rfl fun hlz1 => ?_))));refine qb (qj _ rfl (fun h1 => ?_) (fun h1 => ?_))
  ·replace h1 : (decide (((k6 : Nat) : Int) < (List.length r2 : Int))) = true := h1;obtain ⟨y7, t8, rfl, hx1, hd⟩ := ze hd (decT h1);replace h1 := decT h1;rw [s115_l1] at hR;(try dsimp only at hR);refine ql (ja (γ := (List S154) × (List (Int × Bool))) (fun g => ([(1, .g (G.sl 3 (List.map S151.c a1))), (2, .g (G.sl 3 (List.map S151.c a2))), (3, .g (G.ref [G.int a0.Before, G.int a0.After, G.int a0.Notice, G.int a0.Share, G.sl 1 (List.map cStr a0.Causes), G.int a0.Off, G.int a0.Run])), (7, .omap 14), (8, .g (G.sl 1 (List.map cInt r1))), (9, .osl 9 2 0 (List.length g.1)), (18, .g (G.sl 1 (List.map cInt r2))), (19, .g (G.int (List.length r2 : Int))), (20, .g (G.int ((k6 : Nat) : Int)))], [(9, .arr 155 2 (List.map S154.c g.1)), (14, mpB (K := Int) (V := Bool) (Value.int .i64) (fun v => G.bool v) g.2)])) (fun g => g.1.length ≤ k6 + 1 ∧ s115_j1 (fun k_ z0_ z1_ => s115_l1 a0 a1 a2 r1 t8 k_ z0_ z1_) k6 g.1 g.2 = some R) ?_ ?_)
   ·refine qi (qb (qa [.p, .p, .p] (su (zh (f := cInt) (l := r2) (a := y7) rfl Tryz.underlying82 ty3 rfl rfl (Int.natCast_nonneg _) hx1) rfl (su (qf rfl ty3 rfl) rfl (sa rfl rfl (qc ?_))))));refine qb (qa [.p, .p, .p] (sm rfl rfl (su (qv (f := cInt) (l := r1) rfl Tryz.underlying82 rfl) rfl (sm rfl rfl (qc (qi ?_))))));refine qq (γ := Nat × (List Int)) (fun g => ([(1, .g (G.sl 3 (List.map S151.c a1))), (2, .g (G.sl 3 (List.map S151.c a2))), (3, .g (G.ref [G.int a0.Before, G.int a0.After, G.int a0.Notice, G.int a0.Share, G.sl 1 (List.map cStr a0.Causes), G.int a0.Off, G.int a0.Run])), (7, .omap 14), (8, .g (G.sl 1 (List.map cInt r1))), (9, .osl 9 2 0 (List.length x3)), (11, .g (G.int y7)), (18, .g (G.sl 1 (List.map cInt r2))), (19, .g (G.int (List.length r2 : Int))), (20, .g (G.int ((k6 : Nat) : Int))), (24, .g (G.sl 1 (List.map cInt r1))), (25, .g (G.int (List.length r1 : Int))), (26, .g (G.int ((g.1 : Nat) : Int)))], [(9, .arr 155 2 (List.map S154.c x3)), (14, mpB (K := Int) (V := Bool) (Value.int .i64) (fun v => G.bool v) x5)])) (fun g => r1.drop g.1 = g.2 ∧ s115_l2 (fun k_ z0_ z1_ => s115_l1 a0 a1 a2 r1 t8 k_ z0_ z1_) a0 a1 a2 x3 x5 k6 y7 g.2 g.1 = some R) (fun g => List.length g.2) ⟨rfl, (0, r1), ⟨rfl, rfl, rfl, rfl, rfl, rfl, rfl, rfl, rfl, rfl, rfl, rfl, rfl, trivial⟩, ⟨rfl, rfl, trivial⟩, rfl, ⟨rfl, hR⟩, trivial⟩ ?_
    ·rintro ⟨k12, t14⟩ ⟨hd, hR⟩;replace hd : r1.drop k12 = t14 := hd;replace hR : s115_l2 (fun k_ z0_ z1_ => s115_l1 a0 a1 a2 r1 t8 k_ z0_ z1_) a0 a1 a2 x3 x5 k6 y7 t14 k12 = some R := hR;refine qb (qa [.p] (su (qu rfl rfl rfl) rfl (qc (zd (f := cInt) (l := r1) 8 rfl fun hlz2 => ?_))));refine qb (qj _ rfl (fun h3 => ?_) (fun h3 => ?_))
     ·replace h3 : (decide (((k12 : Nat) : Int) < (List.length r1 : Int))) = true := h3;obtain ⟨y13, t14, rfl, hx2, hd⟩ := ze hd (decT h3);replace h3 := decT h3;rw [s115_l2] at hR;(try dsimp only at hR);refine ql (qb (qi (qb (qa [.p, .p, .p] (su (zh (f := cInt) (l := r1) (a := y13) rfl Tryz.underlying82 ty3 rfl rfl (Int.natCast_nonneg _) hx2) rfl (su (qf rfl ty3 rfl) rfl ?_))))));refine sa rfl rfl (qc (qb ?_));obtain ⟨y15, by15, hR⟩ := qk hR;obtain ⟨y16, by16, hR⟩ := qk hR;refine zu [.p, .p, .r, .p, .p, .p, .p, .p, .p, .p, .p, .p, .p, .p, .p, .p] (by kernel_rfl) (su (qam rfl rfl) rfl (sm rfl rfl (sr (qa4 (kf := Value.int .i64) (vf := (fun v => G.bool v)) (m := x5) (k := y13) (z := false) rfl Tryz.underlying220 Tryz.underlying3 zr4 (fun _ _ => rfl) rfl rfl rfl) rfl (su (kh rfl rfl) rfl (sm rfl rfl (sg rfl rfl (fun h => qt rfl ty24 rfl rfl rfl) rfl ?_))))));refine sg rfl rfl (fun h => qh rfl rfl) rfl (sg rfl rfl (fun h => qh rfl rfl) rfl (sg rfl rfl (fun h => zh (f := S151.c) (l := a1) (a := y15) rfl Tryz.underlying25 vp (gd h rfl) (gd h rfl) (z5 (jp by15 h)) (qz (jp by15 h))) rfl (sg rfl rfl (fun h => qt rfl vp (gd h rfl) rfl rfl) rfl (sg rfl rfl (fun h => qh rfl rfl) rfl (sg rfl rfl (fun h => qh rfl rfl) rfl (sg rfl rfl (fun h => zh (f := S151.c) (l := a2) (a := y16) rfl Tryz.underlying25 vp (gd h rfl) (gd h rfl) (z5 (jp by16 h)) (qz (jp by16 h))) rfl ?_))))));refine sg rfl rfl (fun h => qt rfl vp (gd h rfl) rfl rfl) rfl (sg rfl rfl (fun h => qg rfl K142 rfl (c142 a0 y15 y16) (qe (gd h rfl) (qe (gd h rfl) (qe (gd h rfl) qm)))) rfl (su (zf rfl rfl rfl rfl) rfl (qc (qj _ rfl (fun h5 => ?_) (fun h5 => ?_)))))
      ·replace h5 : ((!(mgetD x5 y13 false)) && (s142 a0 y15 y16)) = true := h5;replace hR := zj hR h5;(try simp only [bB] at h5);refine qb (qa [.p, .p, .w] (su (qam rfl rfl) rfl (sm rfl rfl (jf rfl rfl (qev (kf := Value.int .i64) (vf := (fun v => G.bool v)) (m := x5) (k := y13) (v := true) (ins := false) rfl Tryz.underlying220 Tryz.underlying3 rfl rfl rfl rfl) (qc (qb ?_))))));refine qa [.p, .p, .p, .p, .p, .k, .p] (su (qp rfl rfl) rfl (sm rfl rfl (sm rfl rfl (su (je rfl z155 rfl qy1 (zr rfl (zr rfl kw)) rfl) rfl (su (qr rfl Tryz.underlying79 qq6 z155 rfl (qy rfl jc) rfl (by exact lens rfl) (by decide)) rfl (st_k rfl rfl (jd (f := S154.c) (out := x3) (new := [(S154.mk y7 y13)]) rfl qy2 rfl rfl (km rfl (ky (by decide) (by simp [S154.c]))) (vu rfl) (by simp; omega)) rfl ?_))))));refine su (qx rfl rfl) rfl (qc (qw ?_));exact ⟨rfl, (x3 ++ [(S154.mk y7 y13)], mset x5 y13 true), ⟨rfl, rfl, rfl, rfl, rfl, rfl, rfl, rfl, rfl, trivial⟩, ⟨rfl, rfl, trivial⟩, rfl, ⟨iC, hR⟩, trivial⟩
      ·replace h5 : ((!(mgetD x5 y13 false)) && (s142 a0 y15 y16)) = false := h5;replace hR := zk hR h5;(try simp only [bB] at h5);refine ql (qa [.p, .p] (su (zc rfl rfl rfl iE) rfl (sm rfl rfl (qc ?_))));exact ⟨rfl, (k12 + 1, t14), ⟨rfl, rfl, rfl, rfl, rfl, rfl, rfl, rfl, rfl, rfl, rfl, rfl, rfl, trivial⟩, ⟨rfl, rfl, trivial⟩, rfl, ⟨hd, hR⟩, by simp⟩
     ·replace h3 : (decide (((k12 : Nat) : Int) < (List.length r1 : Int))) = false := h3;obtain rfl := zm hd (decF h3);rw [s115_l2] at hR;refine qw ?_;exact ⟨rfl, (x3, x5), ⟨rfl, rfl, rfl, rfl, rfl, rfl, rfl, rfl, rfl, trivial⟩, ⟨rfl, rfl, trivial⟩, rfl, ⟨iC, hR⟩, trivial⟩
   ·rintro ⟨x9, x10⟩ ⟨jv1_0, hR⟩;replace jv1_0 : x9.length ≤ k6 + 1 := jv1_0;replace hR : s115_j1 (fun k_ z0_ z1_ => s115_l1 a0 a1 a2 r1 t8 k_ z0_ z1_) k6 x9 x10 = some R := hR;unfold s115_j1 at hR;refine qa [.p, .p] (su (zc rfl rfl rfl iE) rfl (sm rfl rfl (qc ?_)));exact ⟨rfl, (k6 + 1, t8, x9, x10), ⟨rfl, rfl, rfl, rfl, rfl, rfl, rfl, rfl, rfl, trivial⟩, ⟨rfl, rfl, trivial⟩, rfl, ⟨iB, hd, hR⟩, by simp⟩
  ·replace h1 : (decide (((k6 : Nat) : Int) < (List.length r2 : Int))) = false := h1;obtain rfl := zm hd (decF h1);rw [s115_l1] at hR;refine qw ?_;refine qb (qa [.p, .p] (su (qp rfl rfl) rfl (su (qx rfl rfl) rfl (qc (qo ?_)))));obtain rfl := Option.some.inj hR;exact kz rfl rfl rfl ((List.length_map ..).trans rfl)
end Go.Sim
set_option maxRecDepth 10000
namespace Go.Sim
open Go.Proofs
theorem qxv (a0 : S23) (a1 : List S151) (a2 : List S104) {R : List Int}  (hb1 : a1.length ≤ 1000) (hb2 : a2.length ≤ 12) (hs1 : SortOk a1) (hR : s124 a0 a1 a2 = some R) : ConN (EG glT) 124 [G.agg [G.int a0.Before, G.int a0.After, G.int a0.Notice, G.int a0.Share, G.sl 1 (List.map cStr a0.Causes), G.int a0.Off, G.int a0.Run], G.sl 3 (List.map S151.c a1), G.sl 8 (List.map S104.c a2)] 3 1 (List.map cInt R) := by
 unfold s124 at hR;refine kl Tryz.func124 rfl rfl fun w0 M0 => ?_;refine zd (f := S151.c) (l := a1) 1 rfl fun hla1 => ?_;refine zd (f := S104.c) (l := a2) 2 rfl fun hla2 => ?_;refine qb (qa [.p, .w] (su (zl rfl rfl) rfl (sw (zt 6 3 1 rfl rfl rfl) rfl (qc (qb (qa [.p, .p, .w, .p] ?_))))));refine sm rfl rfl (su (qv (f := S151.c) (l := a1) rfl Tryz.underlying25 rfl) rfl (sw (qdd (f := cInt) (z := 0) 16 rfl mk82 rfl rfl rfl (by first | exact Int.le_refl _ | omega) (by first | decide | omega) rfl rfl rfl) rfl (su (qx rfl rfl) rfl (qc (qb (qa [.w] ?_))))));refine sw (zt 8 152 3 rfl rfl rfl) rfl (qc (qb (qa [.w] (sw (zt 9 3 1 rfl rfl rfl) rfl (qc (qb ?_))))));refine qb (qa [.p, .p, .p] (sm rfl rfl (su (qv (f := S151.c) (l := a1) rfl Tryz.underlying25 rfl) rfl (sm rfl rfl (qc (qi ?_))))));refine qq (γ := Nat × (List S151) × (List S151) × (List Int) × (List Int)) (fun g => ([(2, .g (G.sl 8 (List.map S104.c a2))), (3, .g (G.ref [G.int a0.Before, G.int a0.After, G.int a0.Notice, G.int a0.Share, G.sl 1 (List.map cStr a0.Causes), G.int a0.Off, G.int a0.Run])), (7, .osl 16 1 0 (List.length a1)), (8, .osl 8 3 0 (List.length g.2.2.1)), (9, .osl 9 1 0 (List.length g.2.2.2.1)), (17, .g (G.sl 3 (List.map S151.c a1))), (18, .g (G.int (List.length a1 : Int))), (19, .g (G.int ((g.1 : Nat) : Int)))], [(8, .arr 152 3 (List.map S151.c g.2.2.1)), (9, .arr 3 1 (List.map cInt g.2.2.2.1)), (16, .arr 3 1 (List.map cInt g.2.2.2.2))])) (fun g => g.2.2.1.length ≤ g.1 ∧ g.2.2.2.1.length ≤ g.1 ∧ g.1 ≤ a1.length ∧ g.2.2.1.Sublist (List.take g.1 a1) ∧ List.length g.2.2.2.2 = List.length a1 ∧ a1.drop g.1 = g.2.1 ∧ s124_l1 a0 a2 g.2.1 g.1 g.2.2.1 g.2.2.2.1 g.2.2.2.2 = some R) (fun g => List.length g.2.1) ⟨rfl, (0, a1, [], [], List.replicate (List.length a1) 0), ⟨rfl, rfl, rfl, rfl, rfl, rfl, rfl, rfl, trivial⟩, ⟨rfl, rfl, rfl, trivial⟩, rfl, ⟨iH, iH, iH, (List.nil_sublist _), List.length_replicate, rfl, hR⟩, trivial⟩ ?_
 ·rintro ⟨k6, t8, x1, x2, x4⟩ ⟨iv1_0, iv1_1, iv1_2, iv1_3, ln5, hd, hR⟩;replace hd : a1.drop k6 = t8 := hd;replace hR : s124_l1 a0 a2 t8 k6 x1 x2 x4 = some R := hR;replace iv1_0 : x1.length ≤ k6 := iv1_0;replace iv1_1 : x2.length ≤ k6 := iv1_1;replace iv1_2 : k6 ≤ a1.length := iv1_2;replace iv1_3 : x1.Sublist (List.take k6 a1) := iv1_3;replace ln5 : List.length x4 = List.length a1 := ln5;refine qb (qa [.p] (su (qu rfl rfl rfl) rfl (qc (zd (f := S151.c) (l := a1) 17 rfl fun hlz1 => ?_))));refine qb (qj _ rfl (fun h1 => ?_) (fun h1 => ?_))
  ·replace h1 : (decide (((k6 : Nat) : Int) < (List.length a1 : Int))) = true := h1;obtain ⟨y7, t8, rfl, hx1, hd⟩ := ze hd (decT h1);replace h1 := decT h1;rw [s124_l1] at hR;(try dsimp only at hR);refine ql (ja (γ := (List S151) × (List Int) × (List Int)) (fun g => ([(2, .g (G.sl 8 (List.map S104.c a2))), (3, .g (G.ref [G.int a0.Before, G.int a0.After, G.int a0.Notice, G.int a0.Share, G.sl 1 (List.map cStr a0.Causes), G.int a0.Off, G.int a0.Run])), (7, .osl 16 1 0 (List.length a1)), (8, .osl 8 3 0 (List.length g.1)), (9, .osl 9 1 0 (List.length g.2.1)), (17, .g (G.sl 3 (List.map S151.c a1))), (18, .g (G.int (List.length a1 : Int))), (19, .g (G.int ((k6 : Nat) : Int)))], [(8, .arr 152 3 (List.map S151.c g.1)), (9, .arr 3 1 (List.map cInt g.2.1)), (16, .arr 3 1 (List.map cInt g.2.2))])) (fun g => g.1.length ≤ k6 + 1 ∧ g.2.1.length ≤ k6 + 1 ∧ g.1.Sublist (List.take (k6 + 1) a1) ∧ List.length g.2.2 = List.length a1 ∧ s124_j1 (fun k_ z0_ z1_ z2_ => s124_l1 a0 a2 t8 k_ z0_ z1_ z2_) k6 g.1 g.2.1 g.2.2 = some R) ?_ ?_)
   ·refine qi (qb (qa [.p, .p, .p, .w, .p, .w] (sm rfl rfl (su (zh (f := S151.c) (l := a1) (a := y7) rfl Tryz.underlying25 vp rfl rfl (Int.natCast_nonneg _) hx1) rfl (su (qt rfl vp rfl rfl rfl) rfl (sw (zq 11 rfl z152 rfl rfl) rfl ?_))))));refine sa rfl rfl (jf rfl rfl (za (tv := .g (G.agg [G.str y7.Name, G.int y7.Moment, G.str y7.Kind])) rfl vp rfl rfl rfl rfl rfl) (qc (ja (γ := (List Int)) (fun g => ([(2, .g (G.sl 8 (List.map S104.c a2))), (3, .g (G.ref [G.int a0.Before, G.int a0.After, G.int a0.Notice, G.int a0.Share, G.sl 1 (List.map cStr a0.Causes), G.int a0.Off, G.int a0.Run])), (7, .osl 16 1 0 (List.length a1)), (8, .osl 8 3 0 (List.length x1)), (9, .osl 9 1 0 (List.length x2)), (10, .g (G.int ((k6 : Nat) : Int))), (11, .ptr 11 0), (17, .g (G.sl 3 (List.map S151.c a1))), (18, .g (G.int (List.length a1 : Int))), (19, .g (G.int ((k6 : Nat) : Int)))], [(8, .arr 152 3 (List.map S151.c x1)), (9, .arr 3 1 (List.map cInt x2)), (11, .box [.g (G.str y7.Name), .g (G.int y7.Moment), .g (G.str y7.Kind)]), (16, .arr 3 1 (List.map cInt g))])) (fun g => List.length g = List.length a1 ∧ s124_j2 (fun k_ z0_ z1_ z2_ => s124_l1 a0 a2 t8 k_ z0_ z1_ z2_) x1 x2 k6 y7 g = some R) ?_ ?_)))
    ·refine qi (qb (qa [.p, .r, .p, .p, .p] (su (qt rfl ty24 rfl rfl rfl) rfl (sr (zx rfl vp rfl rfl rfl rfl) rfl (sm rfl rfl (su (qg rfl K177 rfl (c177 a0 y7 a2) (qe rfl (qe rfl (qe rfl qm)))) rfl ?_))))));refine sa rfl rfl (qc (qj _ rfl (fun h5 => ?_) (fun h5 => ?_)))
     ·replace h5 : ((s177 a0 y7 a2)) = true := h5;replace hR := zj hR h5;(try simp only [bB] at h5);refine qb ?_;obtain ⟨y25, by25, hR⟩ := qk hR;refine qa [.p, .p, .p, .w] (su (qp rfl rfl) rfl (sm rfl rfl (su (jl rfl Tryz.underlying82 ty3 rfl rfl (z5 by25) (Nat.lt_of_lt_of_eq (jk (qz by25)) ln5)) rfl (jf rfl rfl (vx (f := cInt) (l := x4) (a' := 0) rfl ty3 rfl rfl rfl (Nat.lt_of_lt_of_eq (Nat.lt_of_lt_of_eq (jk (qz by25)) ln5) (Eq.symm ln5)) rfl (fun _ => rfl)) (qc (qw ?_))))));exact ⟨rfl, (x1, x2, List.set x4 (Int.toNat ((k6 : Nat) : Int)) 0), ⟨rfl, rfl, rfl, rfl, rfl, rfl, rfl, rfl, trivial⟩, ⟨rfl, rfl, rfl, trivial⟩, rfl, ⟨iC, iC, (by first | exact qkk iv1_3 | exact qkl iv1_3 hx1), ((List.length_set ..).trans ln5), hR⟩, trivial⟩
     ·replace h5 : ((s177 a0 y7 a2)) = false := h5;replace hR := zk hR h5;(try simp only [bB] at h5);refine qb (qa [.p, .r, .p, .p, .p] (su (qt rfl ty24 rfl rfl rfl) rfl (sr (zx rfl vp rfl rfl rfl rfl) rfl (sm rfl rfl (su (qg rfl K178 rfl (c178 a0 y7 a2) (qe rfl (qe rfl (qe rfl qm)))) rfl (sa rfl rfl ?_))))));refine qc (qj _ rfl (fun h6 => ?_) (fun h6 => ?_))
      ·replace hR := zj hR h6;obtain ⟨y26, by26, hR⟩ := qk hR;refine qa [.p, .p, .p, .w] (su (qp rfl rfl) rfl (sm rfl rfl (su (jl rfl Tryz.underlying82 ty3 rfl rfl (z5 by26) (Nat.lt_of_lt_of_eq (jk (qz by26)) ln5)) rfl (jf rfl rfl (vx (f := cInt) (l := x4) (a' := 2) rfl ty3 rfl rfl rfl (Nat.lt_of_lt_of_eq (Nat.lt_of_lt_of_eq (jk (qz by26)) ln5) (Eq.symm ln5)) rfl (fun _ => rfl)) (qc ?_)))));exact ⟨rfl, List.set x4 (Int.toNat ((k6 : Nat) : Int)) 2, ⟨rfl, rfl, rfl, rfl, rfl, rfl, rfl, rfl, rfl, rfl, trivial⟩, ⟨rfl, rfl, rfl, rfl, trivial⟩, rfl, ⟨((List.length_set ..).trans ln5), hR⟩, trivial⟩
      ·replace hR := zk hR h6;obtain ⟨y27, by27, hR⟩ := qk hR;refine qa [.p, .p, .p, .w] (su (qp rfl rfl) rfl (sm rfl rfl (su (jl rfl Tryz.underlying82 ty3 rfl rfl (z5 by27) (Nat.lt_of_lt_of_eq (jk (qz by27)) ln5)) rfl (jf rfl rfl (vx (f := cInt) (l := x4) (a' := 3) rfl ty3 rfl rfl rfl (Nat.lt_of_lt_of_eq (Nat.lt_of_lt_of_eq (jk (qz by27)) ln5) (Eq.symm ln5)) rfl (fun _ => rfl)) (qc ?_)))));exact ⟨rfl, List.set x4 (Int.toNat ((k6 : Nat) : Int)) 3, ⟨rfl, rfl, rfl, rfl, rfl, rfl, rfl, rfl, rfl, rfl, trivial⟩, ⟨rfl, rfl, rfl, rfl, trivial⟩, rfl, ⟨((List.length_set ..).trans ln5), hR⟩, trivial⟩
    ·rintro x23 ⟨ln24, hR⟩;replace ln24 : List.length x23 = List.length a1 := ln24;replace hR : s124_j2 (fun k_ z0_ z1_ z2_ => s124_l1 a0 a2 t8 k_ z0_ z1_ z2_) x1 x2 k6 y7 x23 = some R := hR;unfold s124_j2 at hR;refine qa [.p, .r, .p, .k, .p, .p, .p, .k, .p, .p] (su (qp rfl rfl) rfl (sr (zx rfl vp rfl rfl rfl rfl) rfl (su (qr rfl Tryz.underlying25 vp z152 rfl (qy rfl jc) rfl (by simp [S151.c]) (by decide)) rfl (st_k rfl rfl (jd (f := S151.c) (out := x1) (new := [y7]) rfl qwy rfl rfl (km rfl (ky (by decide) (by simp [S151.c]))) (vu rfl) (by simp; omega)) rfl (su (qp rfl rfl) rfl (sm rfl rfl ?_))))));refine su (qr rfl Tryz.underlying82 ty3 z3 rfl (qy rfl jc) rfl (by simp []) (by decide)) rfl (st_k rfl rfl (jd (f := cInt) (out := x2) (new := [((k6 : Nat) : Int)]) rfl qfq rfl rfl (km rfl (ky (by decide) (by simp []))) (vu rfl) (by simp; omega)) rfl (su (qx rfl rfl) rfl (su (qx rfl rfl) rfl (qc ?_))));exact ⟨rfl, (x1 ++ [y7], x2 ++ [((k6 : Nat) : Int)], x23), ⟨rfl, rfl, rfl, rfl, rfl, rfl, rfl, rfl, trivial⟩, ⟨rfl, rfl, rfl, trivial⟩, rfl, ⟨iC, iC, (by first | exact qkk iv1_3 | exact qkl iv1_3 hx1), ln24, hR⟩, trivial⟩
   ·rintro ⟨x19, x20, x21⟩ ⟨jv2_0, jv2_1, jv2_2, ln22, hR⟩;replace jv2_0 : x19.length ≤ k6 + 1 := jv2_0;replace jv2_1 : x20.length ≤ k6 + 1 := jv2_1;replace jv2_2 : x19.Sublist (List.take (k6 + 1) a1) := jv2_2;replace ln22 : List.length x21 = List.length a1 := ln22;replace hR : s124_j1 (fun k_ z0_ z1_ z2_ => s124_l1 a0 a2 t8 k_ z0_ z1_ z2_) k6 x19 x20 x21 = some R := hR;unfold s124_j1 at hR;refine qa [.p, .p] (su (zc rfl rfl rfl iE) rfl (sm rfl rfl (qc ?_)));exact ⟨rfl, (k6 + 1, t8, x19, x20, x21), ⟨rfl, rfl, rfl, rfl, rfl, rfl, rfl, rfl, trivial⟩, ⟨rfl, rfl, rfl, trivial⟩, rfl, ⟨iB, iB, iB, (by assumption), ln22, hd, hR⟩, by simp⟩
  ·replace h1 : (decide (((k6 : Nat) : Int) < (List.length a1 : Int))) = false := h1;obtain rfl := zm hd (decF h1);rw [s124_l1] at hR;refine qw ?_;refine qb (qb ?_);obtain ⟨r9, br9, hR⟩ := qk hR;obtain ⟨r10, br10, hR⟩ := qk hR;have hl9 := qvv br9;refine zu [.p, .p, .p, .p, .r, .p, .p] (by kernel_rfl) (su (qt rfl ty24 rfl rfl rfl) rfl (su (qp rfl rfl) rfl (sm rfl rfl (su (qg rfl K121 rfl (c121 a2 iA br9) (qe rfl qm)) rfl (sr (qca rfl K115 rfl (qxu a0 x1 r9 iA iA (ql6 iv1_3 hs1) (.inl (by omega)) br10) (by decide) (qcb fun _ => xd (xd (qc7))) (qbq rfl (qfr rfl rfl (qbq rfl qfs)))) rfl (su (qv (f := S154.c) (l := r10) rfl Tryz.underlying79 rfl) rfl ?_))))));refine sm rfl rfl (qc (qi (qq (γ := Nat × (List S154) × (List Int)) (fun g => ([(7, .osl 16 1 0 (List.length a1)), (9, .osl 9 1 0 (List.length x2)), (56, .g (G.sl 2 (List.map S154.c r10))), (57, .g (G.int (List.length r10 : Int))), (58, .g (G.int ((g.1 : Nat) : Int)))], [(9, .arr 3 1 (List.map cInt x2)), (16, .arr 3 1 (List.map cInt g.2.2))])) (fun g => List.length g.2.2 = List.length a1 ∧ r10.drop g.1 = g.2.1 ∧ s124_l2 x2 g.2.1 g.1 g.2.2 = some R) (fun g => List.length g.2.1) ⟨rfl, (0, r10, x4), ⟨rfl, rfl, rfl, rfl, rfl, trivial⟩, ⟨rfl, rfl, trivial⟩, rfl, ⟨ln5, rfl, hR⟩, trivial⟩ ?_)))
   ·rintro ⟨k14, t16, x12⟩ ⟨ln13, hd, hR⟩;replace hd : r10.drop k14 = t16 := hd;replace hR : s124_l2 x2 t16 k14 x12 = some R := hR;replace ln13 : List.length x12 = List.length a1 := ln13;refine qb (qa [.p] (su (qu rfl rfl rfl) rfl (qc (zd (f := S154.c) (l := r10) 56 rfl fun hlz2 => ?_))));refine qb (qj _ rfl (fun h3 => ?_) (fun h3 => ?_))
    ·replace h3 : (decide (((k14 : Nat) : Int) < (List.length r10 : Int))) = true := h3;obtain ⟨y15, t16, rfl, hx2, hd⟩ := ze hd (decT h3);replace h3 := decT h3;rw [s124_l2] at hR;(try dsimp only at hR);refine ql (qb (qi (qb (qa [.p, .p, .w, .w] (su (zh (f := S154.c) (l := r10) (a := y15) rfl Tryz.underlying79 qq6 rfl rfl (Int.natCast_nonneg _) hx2) rfl (su (qt rfl qq6 rfl rfl rfl) rfl ?_))))));refine sw (zq 13 rfl z155 rfl rfl) rfl (jf rfl rfl (za (tv := .g (G.agg [G.int y15.Slot, G.int y15.Record])) rfl qq6 rfl rfl rfl rfl rfl) (qc ?_));obtain ⟨y17, by17, hR⟩ := qk hR;obtain ⟨y18, by18, hR⟩ := qk hR;refine qa [.p, .p, .p, .r, .p, .r, .p, .w] (su (qp rfl rfl) rfl (su (qp rfl rfl) rfl (su (zg rfl quv rfl) rfl (sr (z4 rfl ty3 rfl rfl rfl) rfl (su (jl rfl Tryz.underlying82 ty3 rfl rfl (z5 by17) (Nat.lt_of_lt_of_eq (jk (qz by17)) rfl)) rfl (sr (vi (f := cInt) (l := x2) (a := y17) rfl ty3 rfl rfl (qz by17) rfl) rfl ?_))))));refine su (jl rfl Tryz.underlying82 ty3 rfl rfl (z5 by18) (Nat.lt_of_lt_of_eq (jk (qz by18)) ln13)) rfl (jf rfl rfl (vx (f := cInt) (l := x12) (a' := 1) rfl ty3 rfl rfl rfl (Nat.lt_of_lt_of_eq (Nat.lt_of_lt_of_eq (jk (qz by18)) ln13) (Eq.symm ln13)) rfl (fun _ => rfl)) (qc (qa [.p, .p] (su (zc rfl rfl rfl iE) rfl (sm rfl rfl (qc ?_))))));exact ⟨rfl, (k14 + 1, t16, List.set x12 (Int.toNat y17) 1), ⟨rfl, rfl, rfl, rfl, rfl, trivial⟩, ⟨rfl, rfl, trivial⟩, rfl, ⟨((List.length_set ..).trans ln13), hd, hR⟩, by simp⟩
    ·replace h3 : (decide (((k14 : Nat) : Int) < (List.length r10 : Int))) = false := h3;obtain rfl := zm hd (decF h3);rw [s124_l2] at hR;refine qw ?_;refine qb (qa [.p, .p] (su (qp rfl rfl) rfl (su (qx rfl rfl) rfl (qc (qo ?_)))));obtain rfl := Option.some.inj hR;exact kz rfl rfl rfl ((List.length_map ..).trans ln13)
theorem qy3 (a0 : S23) (a1 : List S151) (a2 : List S104) {R : List Int}  (hb1 : a1.length ≤ 1000) (hb2 : a2.length ≤ 12) (hs1 : SortOk a1) (hR : s124 a0 a1 a2 = some R) : Con (EG glT) 124 [G.agg [G.int a0.Before, G.int a0.After, G.int a0.Notice, G.int a0.Share, G.sl 1 (List.map cStr a0.Causes), G.int a0.Off, G.int a0.Run], G.sl 3 (List.map S151.c a1), G.sl 8 (List.map S104.c a2)] (G.sl 1 (List.map cInt R)) :=
 ConN.con (by decide) (qxv a0 a1 a2 hb1 hb2 hs1 hR)
end Go.Sim
set_option maxRecDepth 10000
namespace Go.Sim
open Go.Proofs
noncomputable def s5 (a0 : S23) (a1 : S55) : Bool :=
 (bif (!s16) || (!(s17 (s18 a0))) then s16 else (bif decide ((s35 [(s24 (s18 a0)), (s36 a1)]) ≠ 0) then (((!((s33 a0 a1).1)) && (decide ((s33 a0 a1).2 = (s35 [(s24 (s18 a0)), (s36 a1)])))) && (decide ((s34 a0 a1).1 = 0))) && (decide ((s34 a0 a1).2 = (s35 [(s24 (s18 a0)), (s36 a1)]))) else ((decide (IntKind.i64.wrap (((s33 a0 a1).2) + ((s34 a0 a1).2)) = 0)) && (((s33 a0 a1).1) == (s37 (s18 a0) a1))) && (decide ((s34 a0 a1).1 = (s38 (s18 a0) a1)))))
end Go.Sim
set_option maxRecDepth 10000
namespace Go.Sim
open Go.Proofs
def s64_j1 (rec1 : Nat → (List S131) → Option ((List S131) × Int)) (k3 : Nat) (x6 : List S131) : Option ((List S131) × Int) :=
 rec1 (k3 + 1) x6
def s64_l2 (rec1 : Nat → (List S131) → Option ((List S131) × Int)) (a0 : S23) (a3 : S67) (x1 : List S131) (k3 : Nat) (y4 : S115) : List Int → Nat → Int → Int → Option ((List S131) × Int)
 | [], k11, x9, x10 => (bif !(s106 a0 (S55.mk x9 x10)) then s64_j1 rec1 k3 x1 else bindO (s108 (S45.mk y4.Period.fFrom y4.Period.fTo y4.Period.Days) a3) fun r14 => (bif decide (r14.2 ≠ 0) then some ([], r14.2) else s64_j1 rec1 k3 (x1 ++ [(S131.mk y4.Name r14.1)])))
 | y12 :: t13, k11, x9, x10 => s64_l2 rec1 a0 a3 x1 k3 y4 t13 (k11 + 1) ((s126 (S55.mk x9 x10) y12).Flown) ((s126 (S55.mk x9 x10) y12).Due)
def s64_l1 (a0 : S23) (a2 : List S104) (a3 : S67) : List S115 → Nat → (List S131) → Option ((List S131) × Int)
 | [], k3, x1 => some (x1, 0)
 | y4 :: t5, k3, x1 => bindO (s124 a0 (s103 y4.Name y4.Kind (S45.mk y4.Period.fFrom y4.Period.fTo y4.Period.Days) y4.Minute) a2) fun r7 => s64_l2 (fun k_ z0_ => s64_l1 a0 a2 a3 t5 k_ z0_) a0 a3 x1 k3 y4 r7 0 0 0
def s64 (a0 : S23) (a1 : List S115) (a2 : List S104) (a3 : S67) : Option ((List S131) × Int) :=
 (bif decide ((s84 [(s23 a0), (s134 a1), (s27 a2), (s107 a3)]) ≠ 0) then some ([], (s84 [(s23 a0), (s134 a1), (s27 a2), (s107 a3)])) else s64_l1 a0 a2 a3 a1 0 [])
theorem c64 (a0 : S23) (a1 : List S115) (a2 : List S104) (a3 : S67) {R : (List S131) × Int}  (hv : ¬ s84 [s23 a0, s134 a1, s27 a2, s107 a3] ≠ 0 → (∀ q ∈ a1, RqOk q) ∧ a1.length ≤ 64 ∧ a2.length ≤ 12) (hR : s64 a0 a1 a2 a3 = some R) : Con (EG glT) 64 [G.agg [G.int a0.Before, G.int a0.After, G.int a0.Notice, G.int a0.Share, G.sl 1 (List.map cStr a0.Causes), G.int a0.Off, G.int a0.Run], G.sl 13 (List.map S115.c a1), G.sl 8 (List.map S104.c a2), G.agg [G.int a3.Year, G.str a3.Kind]] (G.tup [G.sl 2 (List.map S131.c R.1), G.int R.2]) := by
 unfold s64 at hR;refine qn Tryz.func64 rfl rfl fun w0 M0 => ?_;refine zd (f := S115.c) (l := a1) 1 rfl fun hla1 => ?_;refine zd (f := S104.c) (l := a2) 2 rfl fun hla2 => ?_;refine qb (qa [.p, .p, .p, .p] (su (zl rfl rfl) rfl (su (zl rfl rfl) rfl (sa rfl rfl (sa rfl rfl (qc ?_))))));refine qb (qb (zu [.p, .p, .p, .p, .p, .p, .p, .p, .p, .p, .p] (by kernel_rfl) (su (qt rfl ty24 rfl rfl rfl) rfl (su (qg rfl K23 rfl (c23 a0) (qe rfl qm)) rfl (sm rfl rfl (su (qg rfl K134 rfl (c134 a1) (qe rfl qm)) rfl ?_))))));refine sm rfl rfl (su (qg rfl K27 rfl (c27 a2) (qe rfl qm)) rfl (su (qt rfl ty68 rfl rfl rfl) rfl (su (qg rfl K107 rfl (c107 a3) (qe rfl qm)) rfl (su (qr rfl Tryz.underlying170 ty37 z37 rfl (qy rfl (qy rfl (qy rfl (qy rfl jc)))) rfl (by simp []) (by decide)) rfl (su (qg rfl K84 rfl (c84 [(s23 a0), (s134 a1), (s27 a2), (s107 a3)]) (qe rfl qm)) rfl (sa rfl rfl ?_))))));refine qc (qb (qa [.p, .p] (sm rfl rfl (su (jg rfl rfl rfl) rfl (qc (qj _ rfl (fun h1 => ?_) (fun h1 => ?_)))))))
 ·replace h1 : (decide ((s84 [(s23 a0), (s134 a1), (s27 a2), (s107 a3)]) ≠ 0)) = true := h1;replace hR := zj hR h1;(try simp only [bB] at h1);refine qb (qa [.p, .p, .p] (sm rfl rfl (sa rfl rfl (sa rfl rfl (qc (qo ?_))))));obtain rfl := Option.some.inj hR;exact resN rfl ⟨w7 rfl (qbx _), rv_g rfl, trivial⟩ (by simp)
 ·replace h1 : (decide ((s84 [(s23 a0), (s134 a1), (s27 a2), (s107 a3)]) ≠ 0)) = false := h1;replace hR := zk hR h1;(try simp only [bB] at h1);obtain ⟨hq, hl1, hb2⟩ := hv h1;refine ql (qb (qa [.w] (sw (zt 11 132 2 rfl rfl rfl) rfl (qc (qb (qb ?_))))));refine qa [.p, .p, .p] (sm rfl rfl (su (qv (f := S115.c) (l := a1) rfl Tryz.underlying112 rfl) rfl (sm rfl rfl (qc (qi (qq (γ := Nat × (List S115) × (List S131)) (fun g => ([(2, .g (G.sl 8 (List.map S104.c a2))), (4, .g (G.ref [G.int a0.Before, G.int a0.After, G.int a0.Notice, G.int a0.Share, G.sl 1 (List.map cStr a0.Causes), G.int a0.Off, G.int a0.Run])), (7, .g (G.ref [G.int a3.Year, G.str a3.Kind])), (11, .osl 11 2 0 (List.length g.2.2)), (32, .g (G.sl 13 (List.map S115.c a1))), (33, .g (G.int (List.length a1 : Int))), (34, .g (G.int ((g.1 : Nat) : Int)))], [(11, .arr 132 2 (List.map S131.c g.2.2))])) (fun g => g.2.2.length ≤ g.1 ∧ g.1 ≤ a1.length ∧ a1.drop g.1 = g.2.1 ∧ s64_l1 a0 a2 a3 g.2.1 g.1 g.2.2 = some R) (fun g => List.length g.2.1) ⟨rfl, (0, a1, []), ⟨rfl, rfl, rfl, rfl, rfl, rfl, rfl, trivial⟩, ⟨rfl, trivial⟩, rfl, ⟨iH, iH, rfl, hR⟩, trivial⟩ ?_))))))
  ·rintro ⟨k3, t5, x1⟩ ⟨iv1_0, iv1_1, hd, hR⟩;replace hd : a1.drop k3 = t5 := hd;replace hR : s64_l1 a0 a2 a3 t5 k3 x1 = some R := hR;replace iv1_0 : x1.length ≤ k3 := iv1_0;replace iv1_1 : k3 ≤ a1.length := iv1_1;refine qb (qa [.p] (su (qu rfl rfl rfl) rfl (qc (zd (f := S115.c) (l := a1) 32 rfl fun hlz1 => ?_))));refine qb (qj _ rfl (fun h2 => ?_) (fun h2 => ?_))
   ·replace h2 : (decide (((k3 : Nat) : Int) < (List.length a1 : Int))) = true := h2;obtain ⟨y4, t5, rfl, hx1, hd⟩ := ze hd (decT h2);replace h2 := decT h2;rw [s64_l1] at hR;(try dsimp only at hR);refine ql (ja (γ := (List S131)) (fun g => ([(2, .g (G.sl 8 (List.map S104.c a2))), (4, .g (G.ref [G.int a0.Before, G.int a0.After, G.int a0.Notice, G.int a0.Share, G.sl 1 (List.map cStr a0.Causes), G.int a0.Off, G.int a0.Run])), (7, .g (G.ref [G.int a3.Year, G.str a3.Kind])), (11, .osl 11 2 0 (List.length g)), (32, .g (G.sl 13 (List.map S115.c a1))), (33, .g (G.int (List.length a1 : Int))), (34, .g (G.int ((k3 : Nat) : Int)))], [(11, .arr 132 2 (List.map S131.c g))])) (fun g => g.length ≤ k3 + 1 ∧ s64_j1 (fun k_ z0_ => s64_l1 a0 a2 a3 t5 k_ z0_) k3 g = some R) ?_ ?_)
    ·refine qi (qb (qa [.p, .p, .w, .w] (su (zh (f := S115.c) (l := a1) (a := y4) rfl Tryz.underlying112 wc rfl rfl (Int.natCast_nonneg _) hx1) rfl (su (qt rfl wc rfl rfl rfl) rfl (sw (zq 13 rfl z116 rfl rfl) rfl (jf rfl rfl (za (tv := .g (G.agg [G.str y4.Name, G.str y4.Carrier, G.str y4.Kind, G.str y4.Terminal, G.str y4.Partner, G.str y4.Link, G.int y4.Period.fFrom, G.int y4.Period.fTo, G.int y4.Period.Days, G.int y4.Minute, G.int y4.Seats, G.int y4.Size, G.int y4.Noise])) rfl wc rfl rfl rfl rfl rfl) ?_))))));refine qc (qb (qa [.w] (sw (zq 14 rfl z56 rfl rfl) rfl (qc (qb (qb ?_))))));have hq7 := hq _ (List.mem_of_getElem? hx1);obtain ⟨r7, br7, hR⟩ := qk hR;refine zu [.p, .p, .r, .p, .r, .p, .r, .p, .r, .p, .p, .p, .p, .p] (by kernel_rfl) (su (qt rfl ty24 rfl rfl rfl) rfl (su (zg rfl xk rfl) rfl (sr (z4 rfl ty9 rfl rfl rfl) rfl (su (zg rfl qd2 rfl) rfl (sr (z4 rfl ty9 rfl rfl rfl) rfl (su (zg rfl qaf rfl) rfl ?_))))));refine sr (zx rfl ty46 rfl rfl rfl rfl) rfl (su (zg rfl qf8 rfl) rfl (sr (z4 rfl ty3 rfl rfl rfl) rfl (su (qg rfl K103 rfl (qyx y4.Name y4.Kind (S45.mk y4.Period.fFrom y4.Period.fTo y4.Period.Days) y4.Minute hq7.per hq7.m0 (by have := hq7.m1; omega)) (qe rfl (qe rfl (qe rfl (qe rfl qm))))) rfl (sm rfl rfl (su (qg rfl K124 rfl (qy3 a0 (s103 y4.Name y4.Kind (S45.mk y4.Period.fFrom y4.Period.fTo y4.Period.Days) y4.Minute) a2 (qyz hq7.len) (by omega) (.inr (qyy _ _ _ _)) br7) (qe rfl (qe rfl (qe rfl qm)))) rfl (su (qv (f := cInt) (l := r7) rfl Tryz.underlying82 rfl) rfl ?_))))));refine sm rfl rfl (qc (qi (qq (γ := Nat × (List Int) × Int × Int) (fun g => ([(2, .g (G.sl 8 (List.map S104.c a2))), (4, .g (G.ref [G.int a0.Before, G.int a0.After, G.int a0.Notice, G.int a0.Share, G.sl 1 (List.map cStr a0.Causes), G.int a0.Off, G.int a0.Run])), (7, .g (G.ref [G.int a3.Year, G.str a3.Kind])), (11, .osl 11 2 0 (List.length x1)), (13, .ptr 13 0), (14, .ptr 14 0), (32, .g (G.sl 13 (List.map S115.c a1))), (33, .g (G.int (List.length a1 : Int))), (34, .g (G.int ((k3 : Nat) : Int))), (49, .g (G.sl 1 (List.map cInt r7))), (50, .g (G.int (List.length r7 : Int))), (51, .g (G.int ((g.1 : Nat) : Int)))], [(11, .arr 132 2 (List.map S131.c x1)), (13, .box [.g (G.str y4.Name), .g (G.str y4.Carrier), .g (G.str y4.Kind), .g (G.str y4.Terminal), .g (G.str y4.Partner), .g (G.str y4.Link), .g (G.int y4.Period.fFrom), .g (G.int y4.Period.fTo), .g (G.int y4.Period.Days), .g (G.int y4.Minute), .g (G.int y4.Seats), .g (G.int y4.Size), .g (G.int y4.Noise)]), (14, .box [.g (G.int g.2.2.1), .g (G.int g.2.2.2)])])) (fun g => r7.drop g.1 = g.2.1 ∧ s64_l2 (fun k_ z0_ => s64_l1 a0 a2 a3 t5 k_ z0_) a0 a3 x1 k3 y4 g.2.1 g.1 g.2.2.1 g.2.2.2 = some R) (fun g => List.length g.2.1) ⟨rfl, (0, r7, 0, 0), ⟨rfl, rfl, rfl, rfl, rfl, rfl, rfl, rfl, rfl, rfl, rfl, rfl, trivial⟩, ⟨rfl, rfl, rfl, trivial⟩, rfl, ⟨rfl, hR⟩, trivial⟩ ?_)))
     ·rintro ⟨k11, t13, x9, x10⟩ ⟨hd2, hR⟩;replace hd2 : r7.drop k11 = t13 := hd2;replace hR : s64_l2 (fun k_ z0_ => s64_l1 a0 a2 a3 t5 k_ z0_) a0 a3 x1 k3 y4 t13 k11 x9 x10 = some R := hR;refine qb (qa [.p] (su (qu rfl rfl rfl) rfl (qc (zd (f := cInt) (l := r7) 49 rfl fun hlz2 => ?_))));refine qb (qj _ rfl (fun h4 => ?_) (fun h4 => ?_))
      ·replace h4 : (decide (((k11 : Nat) : Int) < (List.length r7 : Int))) = true := h4;obtain ⟨y12, t13, rfl, hx2, hd2⟩ := ze hd2 (decT h4);replace h4 := decT h4;rw [s64_l2] at hR;(try dsimp only at hR);refine ql (qb (qi (qb (qa [.p, .p, .p] (su (zh (f := cInt) (l := r7) (a := y12) rfl Tryz.underlying82 ty3 rfl rfl (Int.natCast_nonneg _) hx2) rfl (su (qf rfl ty3 rfl) rfl ?_))))));refine sa rfl rfl (qc (qa [.p, .w] (sm rfl rfl (sw (jy 0 14 rfl K126 rfl (c126 (S55.mk x9 x10) y12) (zp rfl rfl (zp rfl rfl xx)) rfl rfl rfl) rfl (qc (qa [.p, .p] ?_))))));refine su (zc rfl rfl rfl iE) rfl (sm rfl rfl (qc ?_));exact ⟨rfl, (k11 + 1, t13, (s126 (S55.mk x9 x10) y12).Flown, (s126 (S55.mk x9 x10) y12).Due), ⟨rfl, rfl, rfl, rfl, rfl, rfl, rfl, rfl, rfl, rfl, rfl, rfl, trivial⟩, ⟨rfl, rfl, rfl, trivial⟩, rfl, ⟨hd2, hR⟩, by simp⟩
      ·replace h4 : (decide (((k11 : Nat) : Int) < (List.length r7 : Int))) = false := h4;obtain rfl := zm hd2 (decF h4);rw [s64_l2] at hR;refine qw ?_;refine qb (qb (qa [.p, .r, .p, .p] (su (qt rfl ty24 rfl rfl rfl) rfl (sr (zx rfl ty56 rfl rfl rfl rfl) rfl (su (qg rfl K106 rfl (c106 a0 (S55.mk x9 x10)) (qe rfl (qe rfl qm))) rfl (su (kh rfl rfl) rfl ?_))))));refine qc (qj _ rfl (fun h6 => ?_) (fun h6 => ?_))
       ·replace h6 : (!(s106 a0 (S55.mk x9 x10))) = true := h6;replace hR := zj hR h6;(try simp only [bB] at h6);refine qw ?_;exact ⟨rfl, x1, ⟨rfl, rfl, rfl, rfl, rfl, rfl, rfl, trivial⟩, ⟨rfl, trivial⟩, rfl, ⟨iC, hR⟩, trivial⟩
       ·replace h6 : (!(s106 a0 (S55.mk x9 x10))) = false := h6;replace hR := zk hR h6;(try simp only [bB] at h6);refine ql (qb ?_);obtain ⟨r14, br14, hR⟩ := qk hR;refine qa [.p, .r, .p, .p, .p, .p, .p, .p, .p] (su (zg rfl qaf rfl) rfl (sr (zx rfl ty46 rfl rfl rfl rfl) rfl (su (qt rfl ty68 rfl rfl rfl) rfl (su (qg rfl K108 rfl (c108 (S45.mk y4.Period.fFrom y4.Period.fTo y4.Period.Days) a3 hq7.per br14) (qe rfl (qe rfl qm))) rfl (sm rfl rfl (su (zo rfl rfl rfl) rfl ?_))))));refine su (zo rfl rfl rfl) rfl (sa rfl rfl (sa rfl rfl (qc (qb (qb (qa [.p, .p] ?_))))));refine sm rfl rfl (su (jg rfl rfl rfl) rfl (qc (qj _ rfl (fun h7 => ?_) (fun h7 => ?_))))
        ·replace h7 : (decide (r14.2 ≠ 0)) = true := h7;replace hR := zj hR h7;(try simp only [bB] at h7);refine qb (qa [.p, .p, .p] (sm rfl rfl (sa rfl rfl (sa rfl rfl (qc (qo ?_))))));obtain rfl := Option.some.inj hR;exact resN rfl ⟨w7 rfl (qbx _), rv_g rfl, trivial⟩ (by simp)
        ·replace h7 : (decide (r14.2 ≠ 0)) = false := h7;replace hR := zk hR h7;(try simp only [bB] at h7);refine ql (qa [.p, .p, .r, .p, .p, .p, .k, .p] (su (qp rfl rfl) rfl (su (zg rfl xk rfl) rfl (sr (z4 rfl ty9 rfl rfl rfl) rfl (sm rfl rfl (su (je rfl z132 rfl qy4 (zr rfl (zr rfl kw)) rfl) rfl ?_))))));refine su (qr rfl Tryz.underlying117 qur z132 rfl (qy rfl jc) rfl (by exact lens rfl) (by decide)) rfl (st_k rfl rfl (jd (f := S131.c) (out := x1) (new := [(S131.mk y4.Name r14.1)]) rfl qxw rfl rfl (km rfl (ky (by decide) (by simp [S131.c, S45.c]))) (vu rfl) (by simp; omega)) rfl (su (qx rfl rfl) rfl (qc ?_)));exact ⟨rfl, x1 ++ [(S131.mk y4.Name r14.1)], ⟨rfl, rfl, rfl, rfl, rfl, rfl, rfl, trivial⟩, ⟨rfl, trivial⟩, rfl, ⟨iC, hR⟩, trivial⟩
    ·rintro x6 ⟨jv1_0, hR⟩;replace jv1_0 : x6.length ≤ k3 + 1 := jv1_0;replace hR : s64_j1 (fun k_ z0_ => s64_l1 a0 a2 a3 t5 k_ z0_) k3 x6 = some R := hR;unfold s64_j1 at hR;refine qa [.p, .p] (su (zc rfl rfl rfl iE) rfl (sm rfl rfl (qc ?_)));exact ⟨rfl, (k3 + 1, t5, x6), ⟨rfl, rfl, rfl, rfl, rfl, rfl, rfl, trivial⟩, ⟨rfl, trivial⟩, rfl, ⟨iB, iB, hd, hR⟩, by simp⟩
   ·replace h2 : (decide (((k3 : Nat) : Int) < (List.length a1 : Int))) = false := h2;obtain rfl := zm hd (decF h2);rw [s64_l1] at hR;refine qw ?_;refine qb (qa [.p, .p, .p] (su (qp rfl rfl) rfl (su (qx rfl rfl) rfl (sa rfl rfl (qc (qo ?_))))));obtain rfl := Option.some.inj hR;exact resN rfl ⟨wh rfl rfl, rv_g rfl, trivial⟩ (by simp)
theorem quw {l : List S104} (h : s27 l = 0) : l.length ≤ 512 := by
 unfold s27 at h
 by_cases h1 : 512 < l.length
 ·rw [decide_eq_true (by omega)] at h; cases h
 ·omega
theorem qux {l : List S104} {n : Int} (h : s21 (s22 l) n = true) : (l.length : Int) ≤ n ∨ 512 < l.length := by
 rw [qkp] at h;unfold s21 at h
 by_cases h1 : (n < (l.length : Int)) ∧ ((l.length : Int) ≤ 512)
 ·rw [decide_eq_true h1.1, decide_eq_true h1.2] at h; cases h
 ·omega
theorem qo6 (l : List S104) : s28 (s22 l) = s27 l := (qqa qti l).symm
theorem qse : ∀ x : List UInt8, Op.bytesLess x x = false
 | [] => rfl
 | a :: x => by simp [Op.bytesLess, qse x]
theorem qxx : ∀ x y z : List UInt8, Op.bytesLess x y = true → Op.bytesLess y z = true → Op.bytesLess x z = true
 | _, _, [], _, h => by cases ‹List UInt8› <;> simp [Op.bytesLess] at h
 | _, [], _ :: _, h, _ => by cases ‹List UInt8› <;> simp [Op.bytesLess] at h
 | [], _ :: _, _ :: _, _, _ => rfl
 | a :: x, b :: y, c :: z, h, k => by
  simp only [Op.bytesLess, Bool.or_eq_true, decide_eq_true_eq, Bool.and_eq_true, beq_iff_eq] at h k ⊢
  rcases h with h | ⟨rfl, h⟩
  ·rcases k with k | ⟨rfl, k⟩
   ·exact .inl (UInt8.lt_trans h k)
   ·exact .inl h
  ·rcases k with k | ⟨rfl, k⟩
   ·exact .inl k
   ·exact .inr ⟨rfl, qxx x y z h k⟩
theorem qsf : ∀ x y : List UInt8, Op.bytesLess x y = false → Op.bytesLess y x = false → x = y
 | [], [], _, _ => rfl
 | [], _ :: _, h, _ => by simp [Op.bytesLess] at h
 | _ :: _, [], _, h => by simp [Op.bytesLess] at h
 | a :: x, b :: y, h, k => by
  simp only [Op.bytesLess, Bool.or_eq_false_iff, decide_eq_false_iff_not, Bool.and_eq_false_iff, beq_eq_false_iff_ne] at h k;have e : a = b := UInt8.le_antisymm (UInt8.not_lt.1 k.1) (UInt8.not_lt.1 h.1);subst e;rw [qsf x y (h.2.resolve_left fun g => g rfl) (k.2.resolve_left fun g => g rfl)]
theorem qd3 (a : ByteArray) : strLt a a = false := qse _
theorem quy {a b c : ByteArray} (h : strLt a b = true) (k : strLt b c = true) : strLt a c = true := qxx _ _ _ h k
theorem qlg {a b : ByteArray} (h : strLt a b = false) (k : strLt b a = false) : a = b := by
 have := qsf _ _ h k;have e := toList_inj (s := a) (s' := b);rw [this] at e
 simpa using e.symm
theorem qq7 {a b : ByteArray} (h : strLt a b = true) (k : strLt b a = true) : False := by
 have := quy h k;rw [qd3] at this; cases this
theorem xr (a b : S151) : s127 a b = true ↔ a.Moment < b.Moment ∨ (a.Moment = b.Moment ∧ (strLt a.Name b.Name = true ∨ (a.Name = b.Name ∧ (strLt a.Kind b.Kind = true ∨ a.Kind = b.Kind)))) := by
 unfold s127
 by_cases h : a.Moment = b.Moment
 ·rw [decide_eq_false (by simpa using h), cond_false]
  by_cases g : a.Name = b.Name
  ·simp [h, g, qd3]
  ·simp [h, g]
 ·rw [decide_eq_true h, cond_true]
  simp [h]
theorem qlh {a b : S151} (h : s127 a b = false) : s127 b a = true := by
 have h' : ¬ s127 a b = true := by rw [h]; decide
 rw [xr] at h' ⊢
 by_cases hm : a.Moment = b.Moment
 ·by_cases hn : a.Name = b.Name
  ·by_cases hk : a.Kind = b.Kind
   ·exact .inr ⟨hm.symm, .inr ⟨hn.symm, .inr hk.symm⟩⟩
   ·refine .inr ⟨hm.symm, .inr ⟨hn.symm, .inl ?_⟩⟩
    cases h1 : strLt b.Kind a.Kind
    ·cases h2 : strLt a.Kind b.Kind
     ·exact absurd (qlg h2 h1) hk
     ·exact absurd (.inr ⟨hm, .inr ⟨hn, .inl h2⟩⟩) h'
    ·rfl
  ·refine .inr ⟨hm.symm, .inl ?_⟩
   cases h1 : strLt b.Name a.Name
   ·cases h2 : strLt a.Name b.Name
    ·exact absurd (qlg h2 h1) hn
    ·exact absurd (.inr ⟨hm, .inl h2⟩) h'
   ·rfl
 ·left
  have : ¬ a.Moment < b.Moment := fun g => h' (.inl g)
  omega
theorem qo7 (a b c : S151) (h : s127 a b = true) (k : s127 b c = true) : s127 a c = true := by
 rw [xr] at h k ⊢
 rcases h with h | ⟨h, h2⟩
 ·rcases k with k | ⟨k, _⟩
  ·left; omega
  ·left; omega
 ·rcases k with k | ⟨k, k2⟩
  ·left; omega
  ·refine .inr ⟨h.trans k, ?_⟩
   rcases h2 with h2 | ⟨h2, h3⟩
   ·rcases k2 with k2 | ⟨k2, _⟩
    ·exact .inl (quy h2 k2)
    ·exact .inl (k2 ▸ h2)
   ·rcases k2 with k2 | ⟨k2, k3⟩
    ·exact .inl (h2 ▸ k2)
    ·refine .inr ⟨h2.trans k2, ?_⟩
     rcases h3 with h3 | h3
     ·rcases k3 with k3 | k3
      ·exact .inl (quy h3 k3)
      ·exact .inl (k3 ▸ h3)
     ·rcases k3 with k3 | k3
      ·exact .inl (h3 ▸ k3)
      ·exact .inr (h3.trans k3)
theorem quz {a b : S151} (h : s127 a b = true) (k : s127 b a = true) : a = b := by
 rw [xr] at h k
 have hm : a.Moment = b.Moment := by omega
 have h := (h.resolve_left (by omega)).2;have k := (k.resolve_left (by omega)).2
 have hn : a.Name = b.Name := by
  rcases h with h | h
  ·rcases k with k | k
   ·exact (qq7 h k).elim
   ·exact k.1.symm
  ·exact h.1
 have hk : a.Kind = b.Kind := by
  rcases h with h | ⟨_, h | h⟩
  ·rw [hn, qd3] at h; cases h
  ·rcases k with k | ⟨_, k | k⟩
   ·rw [hn, qd3] at k; cases k
   ·exact (qq7 h k).elim
   ·exact k.symm
  ·exact h
 cases a; cases b
 simp only at hm hn hk;subst hm hn hk
 rfl
theorem qo8 (a b : ByteArray) : s133 a b = bif strLt a b then -1 else bif decide (a = b) then 0 else 1 := by
 have h : ∀ x, s183 x = false := fun x => by unfold s183; simp
 unfold s133;rw [h, h]
 cases h1 : strLt a b
 ·by_cases h2 : a = b <;> simp [h2]
 ·rfl
theorem qu0 (a b : S151) : decide (s175 a b < 0) = !(s127 b a) := by
 have h0 : ∀ x, s202 x = false := fun x => by unfold s202; simp
 have hm : s167 a.Moment b.Moment = bif decide (a.Moment < b.Moment) then -1 else bif decide (b.Moment < a.Moment) then 1 else 0 := by
  unfold s167;rw [h0, h0]
  simp
 unfold s175 s176;rw [hm, qo8, qo8]
 by_cases hlt : a.Moment < b.Moment
 ·have : s127 b a = false := by
   cases hc : s127 b a
   ·rfl
   ·rw [xr] at hc; omega
  rw [this]
  simp [s176_l1, hlt]
 ·by_cases hgt : b.Moment < a.Moment
  ·have : s127 b a = true := by rw [xr]; exact .inl hgt
   rw [this]
   simp [s176_l1, hlt, hgt]
  ·have he : b.Moment = a.Moment := by omega
   simp only [decide_eq_false hlt, decide_eq_false hgt, cond_false]
   cases h1 : strLt a.Name b.Name
   ·by_cases hn : a.Name = b.Name
    ·cases h2 : strLt a.Kind b.Kind
     ·have : s127 b a = true := by
       rw [xr];refine .inr ⟨he, .inr ⟨hn.symm, ?_⟩⟩
       cases h3 : strLt b.Kind a.Kind
       ·exact .inr (qlg h3 h2)
       ·exact .inl rfl
      rw [this]
      by_cases hk : a.Kind = b.Kind <;> simp [s176_l1, hn, hk]
     ·have : s127 b a = false := by
       cases hc : s127 b a
       ·rfl
       ·rw [xr] at hc;have hc := (hc.resolve_left (by omega)).2
        rcases hc with hc | ⟨_, hc | hc⟩
        ·rw [hn, qd3] at hc; cases hc
        ·exact (qq7 h2 hc).elim
        ·rw [hc, qd3] at h2; cases h2
      rw [this]
      simp [s176_l1, hn]
    ·have : s127 b a = true := by
      rw [xr];refine .inr ⟨he, .inl ?_⟩
      cases h3 : strLt b.Name a.Name
      ·exact absurd (qlg h1 h3) hn
      ·rfl
     rw [this]
     simp [s176_l1, hn]
   ·have : s127 b a = false := by
     cases hc : s127 b a
     ·rfl
     ·rw [xr] at hc;have hc := (hc.resolve_left (by omega)).2
      rcases hc with hc | ⟨hc, _⟩
      ·exact (qq7 h1 hc).elim
      ·rw [hc, qd3] at h1; cases h1
    rw [this]
    simp [s176_l1]
def flyL (l : List S104) : List S151 := isort (fun a b => !(s127 b a)) ((l.filter s172).map s173)
theorem qo9 (l : List S104) : (flyL l).Perm ((l.filter s172).map s173) := qek _ _
theorem qjt (l : List S104) : (flyL l).Pairwise (fun a b => s127 a b = true) := by
 refine qcj qo7 ?_;refine List.pairwise_of_forall fun y x => ?_;refine ⟨fun h => qlh (by simpa using h), fun h => by simpa using h⟩
theorem qu1 (l : List S104) : s121 l = some (flyL l) := by
 unfold s121;rw [qng, qnf, qtv (lt := fun a b => !(s127 b a)) (fun y _ x _ => ⟨_, rfl, qu0 x y⟩)]
 rfl
theorem qpa (rec1 : Nat → List S151 → Option (List S151)) (k3 : Nat) (y : S104) : ∀ (B C : List S151) (k : Nat), B.length < k → (∀ c ∈ C, s127 c (s173 y) = true) →
  ∃ C' D, C ++ B = C' ++ D ∧ (∀ c ∈ C', s127 c (s173 y) = true) ∧ (∀ d D', D = d :: D' → s127 d (s173 y) = false) ∧ s59_l2 rec1 (C ++ B) k3 y k (C.length : Int) = rec1 (k3 + 1) (C' ++ s173 y :: D)
 | [], C, 0, h, _ => by simp at h
 | [], C, k + 1, _, hC => by
  refine ⟨C, [], rfl, hC, (fun d D' h => by cases h), ?_⟩;rw [s59_l2]
  have e : decide ((C.length : Int) < ((C ++ ([] : List S151)).length : Int)) = false := by simp
  simp only [e, cond_false, bindO, Bool.false_and, s59_j1]
  simp [s173]
 | b :: B, C, 0, h, _ => by simp at h
 | b :: B, C, k + 1, h, hC => by
  have e : decide ((C.length : Int) < ((C ++ b :: B).length : Int)) = true := by simp; omega
  rw [s59_l2];simp only [e, cond_true, qdb, bindO, Bool.true_and, s59_j1];show ∃ C' D, C ++ b :: B = C' ++ D ∧ (∀ c ∈ C', s127 c (s173 y) = true) ∧ (∀ d D', D = d :: D' → s127 d (s173 y) = false) ∧ (bif s127 b (s173 y) then s59_l2 rec1 (C ++ b :: B) k3 y k ((C.length : Int) + 1) else rec1 (k3 + 1) ((([] ++ List.take (Int.toNat (C.length : Int)) (C ++ b :: B)) ++ [s173 y]) ++ List.drop (Int.toNat (C.length : Int)) (C ++ b :: B))) = rec1 (k3 + 1) (C' ++ s173 y :: D)
  cases hm : s127 b (s173 y)
  ·refine ⟨C, b :: B, rfl, hC, ?_, ?_⟩
   ·intro d D' h; cases h; exact hm
   ·rw [cond_false]
    simp
  ·obtain ⟨C', D, h1, h2, h3, h4⟩ := qpa rec1 k3 y B (C ++ [b]) k (by simp at h; omega) (fun c hc => by
    rcases List.mem_append.1 hc with hc | hc
    ·exact hC c hc
    ·rw [List.mem_singleton.1 hc]; exact hm)
   refine ⟨C', D, by rw [← h1]; simp, h2, h3, ?_⟩;rw [cond_true, ← h4]
   simp
theorem qju {C D : List S151} {y : S151} (hs : (C ++ D).Pairwise (fun a b => s127 a b = true)) (hC : ∀ c ∈ C, s127 c y = true) (hD : ∀ d D', D = d :: D' → s127 d y = false) :
  (C ++ y :: D).Pairwise (fun a b => s127 a b = true) := by
 obtain ⟨h1, h2, h3⟩ := List.pairwise_append.1 hs;refine List.pairwise_append.2 ⟨h1, List.pairwise_cons.2 ⟨fun d hd => ?_, h2⟩, fun c hc z hz => ?_⟩
 ·cases D with
  | nil => cases hd
  | cons d0 D' =>
   have h4 := qlh (hD d0 D' rfl)
   rcases List.mem_cons.1 hd with rfl | hd
   ·exact h4
   ·exact qo7 _ _ _ h4 ((List.pairwise_cons.1 h2).1 d hd)
 ·rcases List.mem_cons.1 hz with rfl | hz
  ·exact hC c hc
  ·exact h3 c hc z hz
theorem qf9 : ∀ (rest : List S104) (k : Nat) (P : List S151), P.Pairwise (fun a b => s127 a b = true) → ∃ Q, s59_l1 rest k P = some Q ∧ Q.Perm (P ++ (rest.filter s172).map s173) ∧ Q.Pairwise (fun a b => s127 a b = true)
 | [], k, P, hs => ⟨P, by rw [s59_l1], by simp, hs⟩
 | y :: rest, k, P, hs => by
  rw [s59_l1]
  cases hf : decide (y.Kind = (⟨#[102, 108, 121]⟩ : ByteArray))
  ·obtain ⟨Q, q1, q2, q3⟩ := qf9 rest (k + 1) P hs;refine ⟨Q, ?_, ?_, q3⟩
   ·rw [Bool.not_false, cond_true, s59_j1, q1]
   ·rw [List.filter_cons, if_neg (by show ¬ s172 y = true; unfold s172; rw [hf]; decide)]; exact q2
  ·obtain ⟨C', D, h1, h2, h3, h4⟩ := qpa (fun k_ z0_ => s59_l1 rest k_ z0_) k y P [] (((List.length P : Int) - 0).toNat + 1) (by simp) (fun c hc => by cases hc);simp only [List.nil_append] at h1 h4;have h5 := qju (by rw [← h1]; exact hs) h2 h3;obtain ⟨Q, q1, q2, q3⟩ := qf9 rest (k + 1) _ h5;refine ⟨Q, ?_, ?_, q3⟩
   ·rw [Bool.not_true, cond_false]
    have : s59_l2 (fun k_ z0_ => s59_l1 rest k_ z0_) P k y (((List.length P : Int) - 0).toNat + 1) 0 = s59_l1 rest (k + 1) (C' ++ s173 y :: D) := by simpa using h4
    rw [this, q1]
   ·rw [List.filter_cons, if_pos (by show s172 y = true; unfold s172; rw [hf]), List.map_cons];refine q2.trans ?_
    have g : (C' ++ s173 y :: D).Perm (s173 y :: P) := by
     rw [h1]; exact List.perm_middle
    exact (g.append_right _).trans List.perm_middle.symm
theorem qxy (l : List S104) : s59 l = some (flyL l) := by
 obtain ⟨Q, h1, h2, h3⟩ := qf9 l 0 [] List.Pairwise.nil;unfold s59;rw [h1]
 congr 1
 refine qaa (h2.trans (qo9 l).symm) h3 (qjt l) fun x _ y _ h k => quz h k
theorem qpb {K V : Type} [DecidableEq K] (m : List (K × V)) (k j : K) (v : V) : mget (mset m k v) j = if k = j then some v else mget m j := by
 induction m with
 | nil => by_cases h : k = j <;> simp [mset, mget, h]
 | cons p m ih =>
  obtain ⟨a, b⟩ := p
  by_cases ha : a = k
  ·subst ha
   by_cases h : a = j <;> simp [mset, mget, h]
  ·by_cases h : a = j
   ·subst h;have hk : ¬ k = a := fun h => ha h.symm
    simp [mset, mget, ha, hk]
   ·simp [mset, mget, ha, h, ih]
theorem qmf {K V : Type} [DecidableEq K] (m : List (K × V)) (k j : K) (v z : V) : mgetD (mset m k v) j z = if k = j then v else mgetD m j z := by
 unfold mgetD;rw [qpb]
 by_cases h : k = j <;> simp [h]
theorem qpc (T : List Int) (j : Int) : s80 T j = decide (j ∈ T) := by
 have key : ∀ (T : List Int) (k : Nat), s80_l1 j T k = decide (j ∈ T) := by
  intro T
  induction T with
  | nil => intro k; simp [s80_l1]
  | cons y T ih =>
   intro k;rw [s80_l1, ih]
   by_cases h : y = j
   ·subst h; simp
   ·have h' : ¬ j = y := fun e => h e.symm
    simp [h, h']
 exact key T 0
theorem qu2 (a0 : S23) (a b : S151) : s142 a0 a b = s145 a0 a b := by
 unfold s142 s145
 have e1 : decide (b.Name = a.Name) = decide (a.Name = b.Name) := by rw [decide_eq_decide]; exact eq_comm
 have e2 : decide (b.Kind = a.Kind) = decide (a.Kind = b.Kind) := by rw [decide_eq_decide]; exact eq_comm
 rw [e1, e2]
 simp [eqAnd]
def okI (a0 : S23) (u v : List S151) (i k : Int) : Bool := match u[i.toNat]?, v[k.toNat]? with
 | some a, some b => s142 a0 a b
 | _, _ => false
theorem qsg {a0 : S23} {u v : List S151} {i k : Int} {a b : S151} (h : u[i.toNat]? = some a) (h' : v[k.toNat]? = some b) : okI a0 u v i k = s142 a0 a b := by unfold okI; rw [h, h']
theorem qib (rec1 : Nat → List S154 → List (Int × Bool) → Option (List S154)) (a0 : S23) (u v : List S151) (x : List S154) (m : List (Int × Bool)) (k6 : Nat) (i : Int) (hi : i ∈ idxs u.length) : ∀ (l : List Int) (k : Nat), (∀ j ∈ l, j ∈ idxs v.length) →
  s115_l2 rec1 a0 u v x m k6 i l k = match l.find? (fun j => !(mgetD m j false) && okI a0 u v i j) with
   | some j => rec1 (k6 + 1) (x ++ [⟨i, j⟩]) (mset m j true)
   | none => rec1 (k6 + 1) x m
 | [], k, _ => by rw [s115_l2]; rfl
 | j :: l, k, h => by
  obtain ⟨a, ha, ha'⟩ := xj hi;obtain ⟨b, hb, hb'⟩ := xj (h j List.mem_cons_self);have ih := qib rec1 a0 u v x m k6 i hi l (k + 1) (fun z hz => h z (List.mem_cons_of_mem _ hz));rw [s115_l2, List.find?_cons, qsg ha' hb', ha, hb, ih]
  cases hm : mgetD m j false
  ·simp only [Bool.not_false, cond_true, bindO, Bool.true_and]
   cases hs : s142 a0 a b
   ·rfl
   ·rfl
  ·simp only [Bool.not_true, cond_false, bindO, Bool.false_and]
def Best (v : List S151) (P : Int → Bool) (b : Int) (k : Nat) : Prop :=
 (b = -1 ∧ ∀ j ∈ idxs k, P j = false) ∨ (b ∈ idxs k ∧ P b = true ∧ ∀ j ∈ idxs k, P j = true → j ≠ b → RelM v b j)
theorem vy {k : Nat} {j : Int} (h : j ∈ idxs (k + 1)) : j ∈ idxs k ∨ j = (k : Int) := by
 rw [qas] at h
 rcases List.mem_append.1 h with h | h
 ·exact .inl h
 ·exact .inr (List.mem_singleton.1 h)
theorem qbc {k : Nat} {j : Int} (h : j ∈ idxs k) : j ∈ idxs (k + 1) := by
 rw [qas]; exact List.mem_append_left _ h
theorem qag (k : Nat) : (k : Int) ∈ idxs (k + 1) := wj.2 ⟨by omega, by omega⟩
theorem qpd {v : List S151} {P : Int → Bool} {b : Int} (h : Best v P b v.length) : (ordI v).find? P = if 0 ≤ b then some b else none := by
 rcases h with ⟨rfl, h⟩ | ⟨hb, hp, h⟩
 ·rw [if_neg (by omega), List.find?_eq_none];intro x hx hpx;rw [h x (w9.1 hx)] at hpx
  cases hpx
 ·rw [if_pos (wj.1 hb).1]
  cases hf : (ordI v).find? P with
  | none => exact absurd hp (List.find?_eq_none.1 hf b (w9.2 hb))
  | some x =>
   obtain ⟨hpx, l1, l2, he, hn⟩ := List.find?_eq_some_iff_append.1 hf
   by_cases hx : x = b
   ·rw [hx]
   ·have hxm : x ∈ ordI v := by rw [he]; simp
    have h1 := h x (w9.1 hxm) hpx hx
    have hbm : b ∈ l1 ++ x :: l2 := by rw [← he]; exact w9.2 hb
    have hs := qda v;rw [he] at hs
    rcases List.mem_append.1 hbm with h2 | h2
    ·have := hn b h2;rw [hp] at this; cases this
    ·rcases List.mem_cons.1 h2 with h2 | h2
     ·exact absurd h2.symm hx
     ·have := (List.pairwise_cons.1 (List.pairwise_append.1 hs).2.1).1 b h2;exact (RelM.as h1 this).elim
theorem qic (rec1 : Nat → List S154 → List Int → Option (List S154)) (a0 : S23) (u v : List S151) (x : List S154) (T : List Int) (k5 : Nat) (i : Int) (hi : i ∈ idxs u.length) : ∀ (l : List S151) (k : Nat) (b : Int), v.drop k = l → k + l.length = v.length →
  Best v (fun j => !(s80 T j) && okI a0 u v i j) b k →
  ∃ b', Best v (fun j => !(s80 T j) && okI a0 u v i j) b' v.length ∧ s120_l2 rec1 a0 u v x T k5 i l k b = bif decide (0 ≤ b') then rec1 (k5 + 1) (x ++ [⟨i, b'⟩]) (T ++ [b']) else rec1 (k5 + 1) x T
 | [], k, b, hd, hk, hb => by
  refine ⟨b, by rw [← hk]; exact hb, ?_⟩;rw [s120_l2]; rfl
 | y :: l, k, b, hd, hk, hb => by
  obtain ⟨a, ha, ha'⟩ := xj hi
  have hy : v[k]? = some y := by
   have : (v.drop k)[0]? = some y := by rw [hd]; rfl
   simpa using this
  have hd' : v.drop (k + 1) = l := by
   have : v.drop (k + 1) = (v.drop k).drop 1 := by rw [List.drop_drop]
   rw [this, hd]; rfl
  have hok : okI a0 u v i (k : Int) = s145 a0 a y := by rw [qsg ha' (b := y) (by simpa using hy), qu2]
  have hmk : momI v (k : Int) = y.Moment := qa9 (by simpa using hy)
  have hkl : k + 1 + l.length = v.length := by simp at hk; omega
  have go : ∀ b1, Best v (fun j => !(s80 T j) && okI a0 u v i j) b1 (k + 1) → s120_l2 rec1 a0 u v x T k5 i (y :: l) k b = s120_l2 rec1 a0 u v x T k5 i l (k + 1) b1 → ∃ b', Best v (fun j => !(s80 T j) && okI a0 u v i j) b' v.length ∧ s120_l2 rec1 a0 u v x T k5 i (y :: l) k b = bif decide (0 ≤ b') then rec1 (k5 + 1) (x ++ [⟨i, b'⟩]) (T ++ [b']) else rec1 (k5 + 1) x T := by
   intro b1 h1 h2;obtain ⟨b', h3, h4⟩ := qic rec1 a0 u v x T k5 i hi l (k + 1) b1 hd' hkl h1;exact ⟨b', h3, h2.trans h4⟩
  cases hP : s145 a0 a y && !(s80 T (k : Int))
  ·-- this record is out
   have hPk : (!(s80 T (k : Int)) && okI a0 u v i (k : Int)) = false := by rw [hok, Bool.and_comm]; exact hP
   refine go b ?_ (by rw [s120_l2, ha]; simp only [hP, Bool.false_and, cond_false, bindO]; rfl)
   rcases hb with ⟨rfl, h⟩ | ⟨h1, h2, h3⟩
   ·refine .inl ⟨rfl, fun j hj => ?_⟩
    rcases vy hj with hj | rfl
    ·exact h j hj
    ·exact hPk
   ·refine .inr ⟨qbc h1, h2, fun j hj hp hne => ?_⟩
    rcases vy hj with hj | rfl
    ·exact h3 j hj hp hne
    ·exact absurd hp (by simp only [hPk]; decide)
  ·have hPk : (!(s80 T (k : Int)) && okI a0 u v i (k : Int)) = true := by rw [hok, Bool.and_comm]; exact hP
   rcases hb with ⟨rfl, h⟩ | ⟨h1, h2, h3⟩
   ·refine go (k : Int) ?_ ?_
    ·refine .inr ⟨qag k, hPk, fun j hj hp hne => ?_⟩
     rcases vy hj with hj | rfl
     ·rw [h j hj] at hp; cases hp
     ·exact absurd rfl hne
    ·rw [s120_l2, ha]; simp only [hP, Bool.true_and, bindO]; rfl
   ·obtain ⟨hb0, hbk⟩ := wj.1 h1
    have hbv : b.toNat < v.length := by omega
    obtain ⟨z, hz, hz'⟩ := xj (l := v) (wj.2 ⟨hb0, hbv⟩);have hneg : decide (b < 0) = false := decide_eq_false (by omega);have hmb : momI v b = z.Moment := qa9 hz'
    by_cases hlt : y.Moment < z.Moment
    ·refine go (k : Int) ?_ ?_
     ·refine .inr ⟨qag k, hPk, fun j hj hp hne => ?_⟩;have hkb : RelM v (k : Int) b := .inl (by omega)
      rcases vy hj with hj | rfl
      ·by_cases hjb : j = b
       ·rw [hjb]; exact hkb
       ·exact RelM.tr _ _ _ hkb (h3 j hj hp hjb)
      ·exact absurd rfl hne
     ·rw [s120_l2, ha]; simp only [hP, hneg, hz, Bool.true_and, Bool.not_false, cond_true, bindO, Bool.false_or, decide_eq_true hlt]; rfl
    ·refine go b ?_ ?_
     ·refine .inr ⟨qbc h1, h2, fun j hj hp hne => ?_⟩
      rcases vy hj with hj | rfl
      ·exact h3 j hj hp hne
      ·by_cases he : y.Moment = z.Moment
       ·exact .inr ⟨by omega, by omega⟩
       ·exact .inl (by omega)
     ·rw [s120_l2, ha]; simp only [hP, hneg, hz, Bool.true_and, Bool.not_false, cond_true, bindO, Bool.false_or, decide_eq_false hlt, cond_false]; rfl
theorem qch (a0 : S23) (u v : List S151) : ∀ (rest : List Int) (k k' : Nat) (x : List S154) (m : List (Int × Bool)) (T : List Int), (∀ i ∈ rest, i ∈ idxs u.length) → (∀ j, mgetD m j false = s80 T j) →
  ∃ M, s115_l1 a0 u v (ordI v) rest k x m = some (x ++ M) ∧ s120_l1 a0 u v rest k' x T = some (x ++ M) ∧ (M.map S154.Slot).Sublist rest ∧ ∀ e ∈ M, e.Record ∈ idxs v.length
 | [], k, k', x, m, T, _, _ => ⟨[], by simp [s115_l1], by simp [s120_l1], by simp, by simp⟩
 | i :: rest, k, k', x, m, T, hr, hm => by
  have hi := hr i List.mem_cons_self;have hr' : ∀ j ∈ rest, j ∈ idxs u.length := fun j hj => hr j (List.mem_cons_of_mem _ hj);obtain ⟨b, hb, h1⟩ := qic (fun k_ z0_ z1_ => s120_l1 a0 u v rest k_ z0_ z1_) a0 u v x T k' i hi v 0 (-1) rfl (by simp) (.inl ⟨rfl, fun j hj => by simp [idxs] at hj⟩);have h2 := qib (fun k_ z0_ z1_ => s115_l1 a0 u v (ordI v) rest k_ z0_ z1_) a0 u v x m k i hi (ordI v) 0 (fun j hj => w9.1 hj);have hf := qpd hb
  have hfun : (fun j => !(mgetD m j false) && okI a0 u v i j) = fun j => !(s80 T j) && okI a0 u v i j := funext fun j => by rw [hm]
  rw [hfun, hf] at h2;rw [s115_l1, s120_l1, h1, h2]
  by_cases h0 : 0 ≤ b
  ·rw [if_pos h0, decide_eq_true h0, cond_true]
   obtain ⟨M, g1, g2, g3, g4⟩ := qch a0 u v rest (k + 1) (k' + 1) (x ++ [⟨i, b⟩]) (mset m b true) (T ++ [b]) hr' (fun j => by
    rw [qmf, hm, qpc, qpc]
    by_cases hj : b = j
    ·subst hj; simp
    ·have : ¬ j = b := fun e => hj e.symm
     simp [hj, this])
   refine ⟨⟨i, b⟩ :: M, by simpa using g1, by simpa using g2, by simpa using g3, ?_⟩;intro e he
   rcases List.mem_cons.1 he with rfl | he
   ·rcases hb with ⟨rfl, _⟩ | ⟨hb, _, _⟩
    ·omega
    ·exact hb
   ·exact g4 e he
  ·rw [if_neg h0, decide_eq_false h0, cond_false];obtain ⟨M, g1, g2, g3, g4⟩ := qch a0 u v rest (k + 1) (k' + 1) x m T hr' hm;exact ⟨M, g1, g2, g3.cons _, g4⟩
theorem qq8 (a0 : S23) (u v : List S151) : ∃ M, s115 a0 u v = some M ∧ s120 a0 u v = some M ∧ (M.map S154.Slot).Nodup ∧ (∀ e ∈ M, e.Slot ∈ idxs u.length) ∧ ∀ e ∈ M, e.Record ∈ idxs v.length := by
 obtain ⟨M, h1, h2, h3, h4⟩ := qch a0 u v (ordI u) 0 0 [] [] [] (fun i hi => w9.1 hi) (fun j => by simp [mgetD, mget, qpc]);refine ⟨M, ?_, ?_, (ql4 u).sublist h3, fun e he => w9.1 (h3.subset (List.mem_map_of_mem he)), h4⟩
 ·unfold s115;rw [qno, qno]
  simpa [bindO] using h1
 ·unfold s120;rw [qte]
  simpa [bindO] using h2
theorem qli (f : S104 → Bool) (l : List S104) : s206 l f = l.any f := by
 have key : ∀ (l : List S104) (k : Nat), decide (0 ≤ s242_l1 f l k) = l.any f := by
  intro l
  induction l with
  | nil => intro k; rfl
  | cons y l ih =>
   intro k;rw [s242_l1, List.any_cons]
   cases h : f y
   ·rw [cond_false, ih]; simp
   ·rw [cond_true]; simp
 unfold s206 s242; exact key l 0
theorem qu3 (a : S23) (s : S151) (l : List S104) : s177 a s l = s128 a s l := by
 unfold s177 s128;rw [qli]
 have key : ∀ (l : List S104) (k : Nat), l.any (fun x0 => s207 x0 s (IntKind.i64.wrap (Int.tdiv s.Moment 1440)) a) = s128_l1 a s l k := by
  intro l
  induction l with
  | nil => intro k; rfl
  | cons y l ih =>
   intro k;rw [List.any_cons, s128_l1, ← ih (k + 1)]
   have : s207 y s (IntKind.i64.wrap (Int.tdiv s.Moment 1440)) a = (((decide (y.Kind = (⟨#[98, 97, 99, 107]⟩))) && (s179 y s)) && (decide (IntKind.i64.wrap (y.Told + a.Notice) ≤ IntKind.i64.wrap (Int.tdiv s.Moment 1440)))) := by
    unfold s207 s179 s208
    by_cases h : y.Kind = (⟨#[98, 97, 99, 107]⟩ : ByteArray)
    ·have h2 : ¬ (⟨#[98, 97, 99, 107]⟩ : ByteArray) = ⟨#[119, 101, 97, 116, 104, 101, 114]⟩ := by decide
     rw [h]
     simp [h2, Bool.and_assoc]
    ·simp [h]
   rw [this]
   cases (((decide (y.Kind = (⟨#[98, 97, 99, 107]⟩))) && (s179 y s)) && (decide (IntKind.i64.wrap (y.Told + a.Notice) ≤ IntKind.i64.wrap (Int.tdiv s.Moment 1440)))) <;> simp
 exact key l 0
theorem qmg (a : S23) (s : S151) (l : List S104) : s178 a s l = s129 a s l := by
 unfold s178 s129;rw [qli]
 have key : ∀ (l : List S104) (k : Nat), l.any (fun x0 => s209 x0 (IntKind.i64.wrap (Int.tdiv s.Moment 1440)) s a) = s129_l1 a s l k := by
  intro l
  induction l with
  | nil => intro k; rfl
  | cons y l ih =>
   intro k;rw [List.any_cons, s129_l1, ← ih (k + 1)]
   have : s209 y (IntKind.i64.wrap (Int.tdiv s.Moment 1440)) s a = ((s179 y s) && ((decide (y.Kind = (⟨#[119, 101, 97, 116, 104, 101, 114]⟩))) || ((decide (y.Kind = (⟨#[99, 97, 110, 99, 101, 108]⟩))) && (s92 a.Causes y.Cause)))) := by
    unfold s209 s179 s208;rw [qjg]
    by_cases h : y.Kind = (⟨#[119, 101, 97, 116, 104, 101, 114]⟩ : ByteArray)
    ·simp [h]
    ·by_cases h2 : y.Name = s.Name
     ·simp [h, h2]
     ·simp [h, h2]
   rw [this]
   cases ((s179 y s) && ((decide (y.Kind = (⟨#[119, 101, 97, 116, 104, 101, 114]⟩))) || ((decide (y.Kind = (⟨#[99, 97, 110, 99, 101, 108]⟩))) && (s92 a.Causes y.Cause)))) <;> simp
 exact key l 0
def stW (c : Int) : ByteArray := (statL[c.toNat]?).getD ⟨#[]⟩
def isC (c : Int) : Prop := c = 0 ∨ c = 1 ∨ c = 2 ∨ c = 3
theorem qe4 (at_ : List Int) (n : Nat) (hat : ∀ p ∈ at_, p ∈ idxs n) : ∀ (l : List S154) (k k' : Nat) (cs : List Int), cs.length = n → (∀ c ∈ cs, isC c) → (∀ e ∈ l, e.Slot ∈ idxs at_.length) →
  ∃ r, s124_l2 at_ l k cs = some r ∧ s61_l2 at_ l k' (cs.map stW) = some (r.map stW) ∧ r.length = n ∧ ∀ c ∈ r, isC c
 | [], k, k', cs, hn, hc, _ => ⟨cs, rfl, rfl, hn, hc⟩
 | e :: l, k, k', cs, hn, hc, hl => by
  obtain ⟨p, hp, hp'⟩ := xj (hl e List.mem_cons_self);have hpn := hat p (List.mem_of_getElem? hp');obtain ⟨c, h1, _⟩ := xj (l := cs) (by rw [hn]; exact hpn);obtain ⟨w, h2, _⟩ := xj (l := cs.map stW) (by rw [List.length_map, hn]; exact hpn);rw [s124_l2, s61_l2, hp];simp only [bindO, h1, h2]
  have e1 : List.set (cs.map stW) p.toNat (⟨#[102, 108, 111, 119, 110]⟩) = (List.set cs p.toNat 1).map stW := by
   rw [List.map_set]; rfl
  rw [e1];refine qe4 at_ n hat l (k + 1) (k' + 1) _ (by rw [List.length_set]; exact hn) (fun c hc' => ?_) fun z hz => hl z (List.mem_cons_of_mem _ hz)
  rcases List.mem_or_eq_of_mem_set hc' with h | h
  ·exact hc c h
  ·exact .inr (.inl h)
theorem qah (a0 : S23) (a2 : List S104) (n : Nat) : ∀ (l : List S151) (k k' : Nat) (due : List S151) (at_ cs : List Int), k = cs.length → k + l.length = n → (∀ c ∈ cs, isC c) → due.length = at_.length → (∀ p ∈ at_, p ∈ idxs k) →
  ∃ r, s124_l1 a0 a2 l k due at_ (cs ++ List.replicate l.length 0) = some r ∧ s61_l1 a0 a2 l k due at_ (cs.map stW) = some (r.map stW) ∧ r.length = n ∧ ∀ c ∈ r, isC c
 | [], k, k', due, at_, cs, hk, hn, hc, hd, hp => by
  obtain ⟨M, h1, h2, _, h4, _⟩ := qq8 a0 due (flyL a2)
  have hk0 : k = n := by simpa using hn
  obtain ⟨r, g1, g2, g3, g4⟩ := qe4 at_ n (by rw [← hk0]; exact hp) M 0 0 cs (by omega) hc (by rw [← hd]; exact h4);refine ⟨r, ?_, ?_, g3, g4⟩
  ·rw [s124_l1, qu1];simp only [bindO, h1]
   simpa using g1
  ·rw [s61_l1, qxy];simp only [bindO, h2];exact g2
 | y :: l, k, k', due, at_, cs, hk, hn, hc, hd, hp => by
  have hix : ∀ v : Int, List.set (cs ++ List.replicate (y :: l).length (0 : Int)) (Int.toNat ((k : Nat) : Int)) v = (cs ++ [v]) ++ List.replicate l.length 0 := fun v => by
   rw [List.length_cons, List.replicate_succ, qab (by rw [hk]; simp)]
   simp
  have hi : ixO (cs ++ List.replicate (y :: l).length (0 : Int)) ((k : Nat) : Int) = some 0 := by
   rw [List.length_cons, List.replicate_succ]; exact wl (by rw [hk])
  have hn' : k + 1 + l.length = n := by simp at hn; omega
  have hcs : ∀ v, isC v → ∀ c ∈ cs ++ [v], isC c := fun v hv c h => by
   rcases List.mem_append.1 h with h | h
   ·exact hc c h
   ·rw [List.mem_singleton.1 h]; exact hv
  have hp1 : ∀ p ∈ at_, p ∈ idxs (k + 1) := fun p h => qbc (hp p h)
  have hp2 : ∀ p ∈ at_ ++ [((k : Nat) : Int)], p ∈ idxs (k + 1) := fun p h => by
   rcases List.mem_append.1 h with h | h
   ·exact hp1 p h
   ·rw [List.mem_singleton.1 h]; exact qag k
  rw [s124_l1, s61_l1, qu3, qmg, hi];simp only [bindO, hix, s124_j1, s124_j2, s61_j1]
  cases s128 a0 y a2
  ·simp only [cond_false]
   cases s129 a0 y a2
   ·simp only [cond_false];have := qah a0 a2 n l (k + 1) (k' + 1) (due ++ [y]) (at_ ++ [((k : Nat) : Int)]) (cs ++ [3]) (by simp [hk]) hn' (hcs 3 (.inr (.inr (.inr rfl)))) (by simp [hd]) hp2
    simpa [stW, statL] using this
   ·simp only [cond_true];have := qah a0 a2 n l (k + 1) (k' + 1) (due ++ [y]) (at_ ++ [((k : Nat) : Int)]) (cs ++ [2]) (by simp [hk]) hn' (hcs 2 (.inr (.inr (.inl rfl)))) (by simp [hd]) hp2
    simpa [stW, statL] using this
  ·simp only [cond_true];have := qah a0 a2 n l (k + 1) (k' + 1) due at_ (cs ++ [0]) (by simp [hk]) hn' (hcs 0 (.inl rfl)) hd hp1
   simpa [stW, statL] using this
theorem qpe (a0 : S23) (a1 : List S151) (a2 : List S104) : ∃ r, s124 a0 a1 a2 = some r ∧ s61 a0 a1 a2 = some (r.map stW) ∧ r.length = a1.length ∧ ∀ c ∈ r, isC c := by
 have := qah a0 a2 a1.length a1 0 0 [] [] [] rfl (by simp) (by simp) rfl (by simp)
 simpa [s124, s61] using this
theorem qd4 (cs : List Int) : ∀ (l : List S151) (k k' : Nat) (rest : List Int) (x y : Int), cs.drop k = rest → rest.length = l.length → (∀ c ∈ rest, isC c) →
  ∃ r, s58_l1 rest k' x y = some (r, 0) ∧ s130_l1 (cs.map stW) ⟨#[]⟩ (-1) l k x y = some r
 | [], k, k', rest, x, y, hd, hl, hc => by
  cases rest with
  | nil => exact ⟨_, rfl, rfl⟩
  | cons c rest => simp at hl
 | s :: l, k, k', rest, x, y, hd, hl, hc => by
  cases rest with
  | nil => simp at hl
  | cons c rest =>
   have hck : cs[k]? = some c := by
    have : (cs.drop k)[0]? = some c := by rw [hd]; rfl
    simpa using this
   have hix : ixO (cs.map stW) ((k : Nat) : Int) = some (stW c) := qjd (by rw [List.getElem?_map, hck]; rfl)
   have hd' : cs.drop (k + 1) = rest := by
    have : cs.drop (k + 1) = (cs.drop k).drop 1 := by rw [List.drop_drop]
    rw [this, hd]; rfl
   have hneg : decide ((0 : Int) ≤ -1) = false := by decide
   have ih : ∀ x y, ∃ r, s58_l1 rest (k' + 1) x y = some (r, 0) ∧ s130_l1 (cs.map stW) ⟨#[]⟩ (-1) l (k + 1) x y = some r := fun x y =>
    qd4 cs l (k + 1) (k' + 1) rest x y hd' (by simpa using hl) fun z hz => hc z (List.mem_cons_of_mem _ hz)
   rw [s58_l1, s130_l1];simp only [decide_true, Bool.not_true, Bool.false_and, hneg, Bool.or_false, Bool.not_false, cond_true, hix, bindO, Bool.false_or, s130_j1]
   rcases hc c List.mem_cons_self with rfl | rfl | rfl | rfl
   ·exact ih _ _
   ·exact ih _ _
   ·exact ih _ _
   ·exact ih _ _
theorem qpf (cs : List Int) (l : List S151) (hl : cs.length = l.length) (hc : ∀ c ∈ cs, isC c) : ∃ r, s58_l1 cs 0 0 0 = some (r, 0) ∧ s130 l (cs.map stW) ⟨#[]⟩ (-1) = some r :=
 qd4 cs l 0 0 cs 0 0 rfl hl hc
theorem qid (s : S67) : s107 s = s41 s := by
 unfold s107 s41 s41_j1 s155 s90 s154
 by_cases h1 : (decide (s.Year < 2000) || decide (2272 < s.Year)) = true
 ·rw [h1]
  simp [s152, s152_l1]
 ·have h1 : (decide (s.Year < 2000) || decide (2272 < s.Year)) = false := by simpa using h1
  rw [h1]
  cases h2 : (!decide (s.Kind = (⟨#[83]⟩ : ByteArray))) <;> cases h3 : (!decide (s.Kind = (⟨#[87]⟩ : ByteArray))) <;> simp [s152, s152_l1]
theorem qsh {s : S67} (h : s107 s = 0) : okS s := by
 have h' := h;rw [qid] at h';unfold s107 at h;obtain ⟨h1, h2⟩ := qna _ _ h;have h3 := qs7 _ 13 (by decide) h2;have h4 : s90 s.Year 2000 2272 = 0 := h1;have h5 := qq0 h4;refine ⟨h5.1, h5.2, ?_⟩
 by_cases hk : s.Kind = kS
 ·exact .inl hk
 ·right
  rw [decide_eq_false hk] at h3
  simpa using h3
theorem qpg {α : Type} {l : List α} {i : Nat} {x : α} (h : l[i]? = some x) : ixO l (i : Int) = some x := by
 unfold ixO; rw [decide_eq_true (by omega), cond_true]; simpa using h
theorem qq9 (l : List S45) : s43 l l = some true := by
 have key : ∀ (r : List S45) (k : Nat), l.drop k = r → s43_l1 l r k = some true := by
  intro r
  induction r with
  | nil => intro k _; rfl
  | cons y r ih =>
   intro k hd
   have hy : l[k]? = some y := by
    have : (l.drop k)[0]? = some y := by rw [hd]; rfl
    simpa using this
   rw [s43_l1, qpg hy];simp only [bindO, eqAnd, decide_true, Bool.and_true, Bool.not_true, cond_false];refine ih (k + 1) ?_
   have : l.drop (k + 1) = (l.drop k).drop 1 := by rw [List.drop_drop]
   rw [this, hd]; rfl
 unfold s43;rw [decide_eq_false (by simp), cond_false];exact key l 0 rfl
def wk (d : Int) : Int := (d + 5) / 7
def wd (d : Int) : Int := (d + 5) % 7
theorem qd5 {d : Int} (h : 0 ≤ d ∧ d ≤ 99999) : s163 d = wk d := by
 unfold s163 wk;rw [wrap_i64 (n := d + 5) ⟨by omega, by omega⟩, Int.tdiv_eq_ediv_of_nonneg (by omega), wrap_i64 ⟨by omega, by omega⟩]
theorem qai {d : Int} (h : 0 ≤ d ∧ d ≤ 99999) : s196 d = wk d := qd5 h
theorem qu4 {d : Int} (h : 0 ≤ d ∧ d ≤ 99999) : s188 d = wd d := qh9 h.1 (by omega)
theorem qu5 {d : Int} (h : 0 ≤ d ∧ d ≤ 99999) : s180 d = wd d := qbu h.1 (by omega)
def bitD (d w : Int) : Int := if wk d = w then (2 ^ (wd d).toNat : Nat) else 0
def mkS : List Int → Int → Int
 | [], _ => 0
 | d :: l, w => bitD d w + mkS l w
theorem qga (w : Int) : ∀ (l r : List Int), mkS (l ++ r) w = mkS l w + mkS r w
 | [], r => by simp [mkS]
 | d :: l, r => by rw [List.cons_append, mkS, mkS, qga w l r]; omega
theorem qph (d w : Int) : 0 ≤ bitD d w ∧ bitD d w ≤ 64 := by
 unfold bitD
 have h : (wd d).toNat < 7 := by unfold wd; omega
 split
 ·have h7 : (wd d).toNat = 0 ∨ (wd d).toNat = 1 ∨ (wd d).toNat = 2 ∨ (wd d).toNat = 3 ∨ (wd d).toNat = 4 ∨ (wd d).toNat = 5 ∨ (wd d).toNat = 6 := by omega
  rcases h7 with e | e | e | e | e | e | e <;> rw [e] <;> decide
 ·decide
theorem qjv (w : Int) : ∀ l : List Int, 0 ≤ mkS l w ∧ mkS l w ≤ 64 * (l.length : Int)
 | [] => by simp [mkS]
 | d :: l => by
  have h1 := qph d w;have h2 := qjv w l;rw [mkS, List.length_cons]; omega
theorem qlj (w : Int) : ∀ l : List Int, (∀ d ∈ l, wk d ≠ w) → mkS l w = 0
 | [], _ => rfl
 | d :: l, h => by
  rw [mkS, qlj w l fun z hz => h z (List.mem_cons_of_mem _ hz)];unfold bitD;rw [if_neg (h d List.mem_cons_self)]; rfl
theorem qsi : ∀ (n : Nat) (P : List Int) (y : Int), P.length = n → P.Pairwise (· < ·) → (∀ d ∈ P, d < y) → mkS P (wk y) < (2 ^ (wd y).toNat : Nat)
 | 0, P, y, hn, _, _ => by
  rw [List.length_eq_zero_iff.1 hn];exact Int.ofNat_lt.2 (Nat.two_pow_pos _)
 | n + 1, P, y, hn, hs, hy => by
  have hne : P ≠ [] := by intro e; rw [e] at hn; cases hn
  have e := (List.dropLast_concat_getLast hne).symm;generalize P.dropLast = Q at e;generalize P.getLast hne = z at e;subst e;obtain ⟨s1, _, s3⟩ := List.pairwise_append.1 hs;have hz : z < y := hy z (by simp);have hQ : ∀ d ∈ Q, d < z := fun d hd => s3 d hd z (by simp);rw [qga]
  by_cases hw : wk z = wk y
  ·have ih := qsi n Q z (by simpa using hn) s1 hQ;rw [hw] at ih
   have hb : mkS [z] (wk y) = (2 ^ (wd z).toNat : Nat) := by simp [mkS, bitD, hw]
   have hd : (wd z).toNat + 1 ≤ (wd y).toNat := by unfold wk at hw; unfold wd; omega
   have hp := Nat.pow_le_pow_right (show 0 < 2 by decide) hd;rw [Nat.pow_succ] at hp;rw [hb]; omega
  ·have h0 : mkS Q (wk y) = 0 := qlj _ _ fun d hd => by
    have := hQ d hd;unfold wk at *; omega
   have h1 : mkS [z] (wk y) = 0 := by simp [mkS, bitD, hw]
   have := Nat.two_pow_pos (wd y).toNat;rw [h0, h1]; omega
theorem qxz : ∀ n < 7, ∀ k < 2 ^ n, orI ((k : Nat) : Int) (shlI 1 ((n : Nat) : Int)) = ((k + 2 ^ n : Nat) : Int) := by decide +kernel
theorem qmh {K V : Type} [DecidableEq K] (m : List (K × V)) (k j : K) (v : V) : mget (mset m k v) j = if k = j then some v else mget m j := by
 induction m with
 | nil => by_cases h : k = j <;> simp [mset, mget, h]
 | cons p m ih =>
  obtain ⟨a, b⟩ := p
  by_cases ha : a = k
  ·subst ha
   by_cases h : a = j <;> simp [mset, mget, h]
  ·by_cases h : a = j
   ·subst h;have hk : ¬ k = a := fun h => ha h.symm
    simp [mset, mget, ha, hk]
   ·simp [mset, mget, ha, h, ih]
theorem qjw {K V : Type} [DecidableEq K] (m : List (K × V)) (k j : K) (v z : V) : mgetD (mset m k v) j z = if k = j then v else mgetD m j z := by
 unfold mgetD;rw [qmh]
 by_cases h : k = j <;> simp [h]
theorem qie (a0 : List Int) (ha : a0.Pairwise (· < ·)) (hr : ∀ d ∈ a0, 0 ≤ d ∧ d ≤ 99999) : ∀ (l P : List Int) (k : Nat) (m : List (Int × Int)), P ++ l = a0 → (∀ w, mgetD m w 0 = mkS P w) →
  ∃ m' k', s160_l2 a0 l k m = s160_l2 a0 [] k' m' ∧ ∀ w, mgetD m' w 0 = mkS a0 w
 | [], P, k, m, hP, hm => ⟨m, k, rfl, by rw [← hP, List.append_nil]; exact hm⟩
 | y :: l, P, k, m, hP, hm => by
  have hy := hr y (by rw [← hP]; simp);rw [← hP] at ha;obtain ⟨p1, _, p3⟩ := List.pairwise_append.1 ha;have hlt := qsi P.length P y rfl p1 fun d hd => p3 d hd y List.mem_cons_self;have hnn := (qjv (wk y) P).1
  have hw7 : (wd y).toNat < 7 := by unfold wd; omega
  have hwd : wd y = (((wd y).toNat : Nat) : Int) := by unfold wd; omega
  have hS : mkS P (wk y) = (((mkS P (wk y)).toNat : Nat) : Int) := by omega
  have hor : orI (mgetD m (wk y) 0) (shlI 1 (wd y)) = mkS (P ++ [y]) (wk y) := by
   rw [hm, qga, hS, hwd, qxz _ hw7 _ (by omega)];simp only [mkS, bitD, if_true]
   push_cast
   omega
  conv => enter [1, m', 1, k', 1, 1]; rw [s160_l2, qai hy, qu4 hy, hor]
  refine qie a0 (by rw [← hP]; exact ha) hr l (P ++ [y]) (k + 1) _ (by rw [← hP]; simp) fun w => ?_;rw [qjw]
  by_cases h : wk y = w
  ·rw [if_pos h, h]
  ·rw [if_neg h, hm, qga]
   simp [mkS, bitD, h]
theorem qpi (rec1 : Nat → Int → Int) (x1 : Int) (k3 : Nat) : ∀ (n : Nat) (x7 x8 : Int), 0 ≤ x7 → x7 * 2 ^ n ≤ 1000000 → s164_l2 rec1 x1 k3 n x7 x8 = rec1 (k3 + 1) (IntKind.i64.wrap (x1 + x7 * 2 ^ n))
 | 0, x7, x8, _, _ => by rw [s164_l2, s164_j1]; simp
 | n + 1, x7, x8, h0, h1 => by
  have hp : (2 : Int) ^ (n + 1) = 2 ^ n * 2 := Int.pow_succ 2 n
  have hq : (1 : Int) ≤ 2 ^ n := by
   have := Nat.two_pow_pos n
   have h2 : ((2 ^ n : Nat) : Int) = (2 : Int) ^ n := by push_cast; rfl
   omega
  have e : 2 * x7 * 2 ^ n = x7 * 2 ^ (n + 1) := by rw [hp]; rw [Int.mul_comm 2 x7, Int.mul_assoc, Int.mul_comm 2 (2 ^ n)]
  have hle : 2 * x7 ≤ 2 * x7 * 2 ^ n := by
   have := Int.mul_le_mul_of_nonneg_left hq (show 0 ≤ 2 * x7 by omega)
   omega
  rw [s164_l2, wrap_i64 ⟨by omega, by omega⟩, qpi rec1 x1 k3 n (2 * x7) (x8 + 1) (by omega) (by omega), e]
theorem qif (w : Int) : ∀ (l : List Int) (k : Nat) (x : Int), (∀ d ∈ l, 0 ≤ d ∧ d ≤ 99999) → 0 ≤ x → x + 64 * (l.length : Int) ≤ 100000 → s164_l1 w l k x = x + mkS l w
 | [], k, x, _, _, _ => by rw [s164_l1]; simp [mkS]
 | y :: l, k, x, h, h0, h1 => by
  have hy := h y List.mem_cons_self;have hb := qph y w;rw [List.length_cons] at h1;have ih := fun x h0 h1 => qif w l (k + 1) x (fun z hz => h z (List.mem_cons_of_mem _ hz)) h0 h1;rw [s164_l1, qd5 hy, qu5 hy, mkS]
  by_cases hw : wk y = w
  ·rw [decide_eq_true hw, cond_true]
   have e : bitD y w = (2 : Int) ^ (wd y).toNat := by unfold bitD; rw [if_pos hw]; push_cast; rfl
   rw [e] at hb ⊢
   have e0 : (wd y - 0).toNat = (wd y).toNat := by simp
   rw [e0, qpi _ x k (wd y).toNat 1 0 (by omega) (by omega), Int.one_mul, wrap_i64 ⟨by omega, by omega⟩, ih _ (by omega) (by omega)]
   omega
  ·rw [decide_eq_false hw, cond_false, s164_j1, ih x h0 (by omega)];unfold bitD;rw [if_neg hw]; omega
theorem qpj {l : List Int} (w : Int) (h : ∀ d ∈ l, 0 ≤ d ∧ d ≤ 99999) (hl : l.length ≤ 401) : s164 l w = mkS l w := by
 unfold s164;rw [qif w l 0 0 h (by omega) (by omega)]; omega
theorem runs (a0 : List Int) (m : List (Int × Int)) (hr : ∀ d ∈ a0, 0 ≤ d ∧ d ≤ 99999) (hlen : a0.length ≤ 401) (hm : ∀ w, mgetD m w 0 = mkS a0 w) :
  ∀ (l : List Int) (i : Nat) (x10 : List S45) (y13 y14 x20 x2 : Int) (k12 k21 : Nat), x10.length ≤ i → a0.drop (i + 1) = l → a0[i]? = some x20 → 0 ≤ y13 ∧ y13 ≤ 99999 → x2 = wk x20 - wk y13 + 1 → 1 ≤ x2 ∧ x2 ≤ 57 → l.length < k12 → l.length < k21 → i + 1 + l.length = a0.length →
  s160_l4 (fun z0_ z1_ => s160_l3 a0 m k12 z0_ z1_) a0 m x10 y13 y14 k21 (((i + 1 : Nat)) : Int) (wk x20) x20 = (bindO (s112_l1 a0 l (i + 1) (x10 ++ [⟨y14, x20, mkS a0 (wk y13)⟩]) x2) fun r => some (r, 0))
 | [], i, x10, y13, y14, x20, x2, k12, k21, h10, hd, hx, hy, h2, h2r, hk, hk2, hn => by
  obtain ⟨k12, rfl⟩ : ∃ k, k12 = k + 1 := ⟨k12 - 1, by omega⟩;obtain ⟨k21, rfl⟩ : ∃ k, k21 = k + 1 := ⟨k21 - 1, by simp at hk2; omega⟩
  have hn : i + 1 = a0.length := by simpa using hn
  have e : decide ((((i + 1 : Nat)) : Int) < (List.length a0 : Int)) = false := decide_eq_false (by omega);rw [s160_l4, e, cond_false, s160_j1, s160_l3, e, cond_false, s112_l1, s197, qai hy, hm]
  rfl
 | y :: l, i, x10, y13, y14, x20, x2, k12, k21, h10, hd, hx, hy, h2, h2r, hk, hk2, hn => by
  obtain ⟨k12, rfl⟩ : ∃ k, k12 = k + 1 := ⟨k12 - 1, by omega⟩;obtain ⟨k21, rfl⟩ : ∃ k, k21 = k + 1 := ⟨k21 - 1, by omega⟩;rw [List.length_cons] at hk hk2 hn
  have hyi : a0[i + 1]? = some y := by
   have : (a0.drop (i + 1))[0]? = some y := by rw [hd]; rfl
   simpa using this
  have hdn : a0.drop (i + 1 + 1) = l := by
   have : a0.drop (i + 1 + 1) = (a0.drop (i + 1)).drop 1 := by rw [List.drop_drop]
   rw [this, hd]; rfl
  have hyr := hr y (List.mem_of_getElem? hyi);have hxr := hr x20 (List.mem_of_getElem? hx)
  have hw0 : 0 ≤ wk y ∧ wk y ≤ 20000 := by unfold wk; omega
  have hw1 : 0 ≤ wk x20 ∧ wk x20 ≤ 20000 := by unfold wk; omega
  have hw2 : 0 ≤ wk y13 ∧ wk y13 ≤ 20000 := by unfold wk; omega
  have e : decide ((((i + 1 : Nat)) : Int) < (List.length a0 : Int)) = true := decide_eq_true (by omega);have e0 : decide ((0 : Int) < (((i + 1 : Nat)) : Int)) = true := decide_eq_true (by omega)
  have ep : ixO a0 (IntKind.i64.wrap ((((i + 1 : Nat)) : Int) - 1)) = some x20 := by
   rw [wrap_i64 ⟨by omega, by omega⟩]
   have : (((i + 1 : Nat)) : Int) - 1 = ((i : Nat) : Int) := by omega
   rw [this]; exact qpg hx
  have ei : ixO a0 (((i + 1 : Nat)) : Int) = some y := qpg hyi
  have ew : IntKind.i64.wrap ((((i + 1 : Nat)) : Int) + 1) = (((i + 1 + 1 : Nat)) : Int) := by rw [wrap_i64 ⟨by omega, by omega⟩]; omega
  have hset : ∀ (q v : S45), ixO (x10 ++ [q]) (IntKind.i64.wrap ((List.length (x10 ++ [q]) : Int) - 1)) = some q ∧ List.set (x10 ++ [q]) (Int.toNat (IntKind.i64.wrap ((List.length (x10 ++ [q]) : Int) - 1))) v = x10 ++ [v] := fun q v => by
   have hl : (List.length (x10 ++ [q]) : Int) - 1 = (x10.length : Int) := by simp
   rw [hl];have hw : IntKind.i64.wrap (x10.length : Int) = (x10.length : Int) := wrap_i64 ⟨by omega, by omega⟩;rw [hw];exact ⟨qdb, qab (by simp)⟩
  have hlow := qjv (wk y) a0;rw [s160_l4, e, cond_true, ei];simp only [bindO];rw [qai hyr, qai hy, hm, hm, s112_l1, e0, cond_true, ep];simp only [bindO, Bool.true_and];rw [qd5 hxr, qd5 hyr]
  by_cases hA : wk y = wk x20
  ·rw [decide_eq_true hA, cond_true, s160_j2, ei];simp only [bindO];rw [ew, decide_eq_true hA.symm, cond_true, (hset _ default).1]
   simp only
   rw [s112_j1, (hset _ _).2, ← hA];exact runs a0 m hr hlen hm l (i + 1) x10 y13 y14 y x2 (k12 + 1) k21 (by omega) hdn hyi hy (by rw [hA]; exact h2) h2r (by omega) (by omega) (by omega)
  ·have hA' : ¬ wk x20 = wk y := fun e => hA e.symm
   have els : s160_j1 (fun z0_ z1_ => s160_l3 a0 m (k12 + 1) z0_ z1_) m x10 y13 y14 (((i + 1 : Nat)) : Int) x20 = (bindO (s112_l1 a0 l (i + 1 + 1) ((x10 ++ [⟨y14, x20, mkS a0 (wk y13)⟩]) ++ [⟨y, y, mkS a0 (wk y)⟩]) 1) fun r => some (r, 0)) := by
    rw [s160_j1, qai hy, hm, s160_l3, e, cond_true, ei];simp only [bindO];rw [qai hyr]
    have hf : (((List.length a0 : Int) - (((i + 1 : Nat)) : Int)).toNat + 1) = l.length + 1 + 1 := by omega
    rw [hf, s160_l4, e, cond_true, ei];simp only [bindO];rw [qai hyr, decide_eq_true rfl, cond_true, s160_j2, ei];simp only [bindO];rw [ew];exact runs a0 m hr hlen hm l (i + 1) _ y y y 1 k12 (l.length + 1) (by simp; omega) hdn hyi hyr (by omega) (by omega) (by omega) (by omega) (by omega)
   rw [decide_eq_false hA, cond_false, decide_eq_false hA', cond_false, wrap_i64 (n := wk x20 + 1) ⟨by omega, by omega⟩, wrap_i64 (n := wk y - wk y13) ⟨by omega, by omega⟩, wrap_i64 (n := wk y - 1) ⟨by omega, by omega⟩, qpj _ hr hlen]
   by_cases hB : wk y = wk x20 + 1
   ·rw [decide_eq_true hB, decide_eq_true (by omega : wk x20 = wk y - 1)];simp only [Bool.true_and, cond_true];rw [(hset _ default).1]
    simp only
    by_cases hC : mkS a0 (wk y) = mkS a0 (wk y13)
    ·rw [decide_eq_true hC, decide_eq_true hC.symm, Bool.true_and, Bool.true_and]
     by_cases hD : x2 < 57
     ·rw [decide_eq_true hD, decide_eq_true (by omega : wk y - wk y13 < 57), cond_true, cond_true, s160_j2, ei];simp only [bindO];rw [ew, s112_j1, (hset _ _).2, wrap_i64 (n := x2 + 1) ⟨by omega, by omega⟩];exact runs a0 m hr hlen hm l (i + 1) x10 y13 y14 y (x2 + 1) (k12 + 1) k21 (by omega) hdn hyi hy (by omega) (by omega) (by omega) (by omega) (by omega)
     ·rw [decide_eq_false hD, decide_eq_false (by omega : ¬ wk y - wk y13 < 57), cond_false, cond_false, s112_j1];exact els
    ·have hC' : ¬ mkS a0 (wk y13) = mkS a0 (wk y) := fun e => hC e.symm;rw [decide_eq_false hC, decide_eq_false hC'];simp only [Bool.false_and, cond_false];rw [s112_j1];exact els
   ·rw [decide_eq_false hB, decide_eq_false (by omega : ¬ wk x20 = wk y - 1), Bool.false_and, Bool.false_and, cond_false];simp only [Bool.false_and, cond_false];rw [s112_j1];exact els
theorem qig (a0 : List Int) (ha : a0.Pairwise (· < ·)) (hr : ∀ d ∈ a0, 0 ≤ d ∧ d ≤ 99999) (hlen : a0.length ≤ 401) : ∀ (l : List Int) (k : Nat), a0.drop k = l → k + l.length = a0.length → s160_l1 a0 l k = s160_l2 a0 a0 0 []
 | [], k, _, _ => by rw [s160_l1]
 | y :: l, k, hd, hn => by
  rw [List.length_cons] at hn
  have hyk : a0[k]? = some y := by
   have : (a0.drop k)[0]? = some y := by rw [hd]; rfl
   simpa using this
  have hdn : a0.drop (k + 1) = l := by
   have : a0.drop (k + 1) = (a0.drop k).drop 1 := by rw [List.drop_drop]
   rw [this, hd]; rfl
  have hy := hr y (List.mem_of_getElem? hyk)
  have h153 : s153 y = 0 := by
   unfold s153 s155 s154;rw [decide_eq_false (by omega : ¬ y < 0), decide_eq_false (by omega : ¬ 99999 < y)]
   rfl
  have ih := qig a0 ha hr hlen l (k + 1) hdn (by omega);rw [s160_l1, h153]
  cases k with
  | zero => exact ih
  | succ j =>
   have hj : j < a0.length := by omega
   have e0 : decide ((0 : Int) < (((j + 1 : Nat)) : Int)) = true := decide_eq_true (by omega)
   have ep : ixO a0 (max 0 (IntKind.i64.wrap ((((j + 1 : Nat)) : Int) - 1))) = some a0[j] := by
    rw [wrap_i64 ⟨by omega, by omega⟩]
    have : max 0 ((((j + 1 : Nat)) : Int) - 1) = ((j : Nat) : Int) := by omega
    rw [this]; exact qpg (List.getElem?_eq_getElem hj)
   have hj1 : j + 1 < a0.length := by omega
   have hyj : a0[j + 1] = y := by rw [List.getElem?_eq_getElem hj1] at hyk; exact Option.some.inj hyk
   have hlt : a0[j] < y := by rw [← hyj]; exact List.pairwise_iff_getElem.1 ha j (j + 1) hj hj1 (by omega)
   rw [e0, cond_true, ep];simp only [bindO];rw [decide_eq_false (by omega : ¬ y ≤ a0[j])];have e : s152 [0, s154 (true && false) 11] = 0 := rfl;rw [e, decide_eq_false (by decide), cond_false];exact ih
theorem qlk (a0 : List Int) (hlen : a0.length ≤ 401) : ∀ (l : List Int) (i : Nat) (x10 : List S45) (q : S45) (x2 : Int), x10.length ≤ i → i + 1 + l.length = a0.length → ∃ R, s112_l1 a0 l (i + 1) (x10 ++ [q]) x2 = some R
 | [], i, x10, q, x2, _, _ => ⟨_, by rw [s112_l1]⟩
 | y :: l, i, x10, q, x2, h10, hn => by
  rw [List.length_cons] at hn
  have hi : i < a0.length := by omega
  have e0 : decide ((0 : Int) < (((i + 1 : Nat)) : Int)) = true := decide_eq_true (by omega)
  have ep : ixO a0 (IntKind.i64.wrap ((((i + 1 : Nat)) : Int) - 1)) = some a0[i] := by
   rw [wrap_i64 ⟨by omega, by omega⟩]
   have : (((i + 1 : Nat)) : Int) - 1 = ((i : Nat) : Int) := by omega
   rw [this]; exact qpg (List.getElem?_eq_getElem hi)
  have hset : ∀ v : S45, ixO (x10 ++ [q]) (IntKind.i64.wrap ((List.length (x10 ++ [q]) : Int) - 1)) = some q ∧ List.set (x10 ++ [q]) (Int.toNat (IntKind.i64.wrap ((List.length (x10 ++ [q]) : Int) - 1))) v = x10 ++ [v] := fun v => by
   have hl : (List.length (x10 ++ [q]) : Int) - 1 = (x10.length : Int) := by simp
   have hw : IntKind.i64.wrap (x10.length : Int) = (x10.length : Int) := wrap_i64 ⟨by omega, by omega⟩;rw [hl, hw];exact ⟨qdb, qab (by simp)⟩
  have ih := fun x10 q x2 h => qlk a0 hlen l (i + 1) x10 q x2 h (by omega);rw [s112_l1, e0, cond_true, ep];simp only [bindO, Bool.true_and, (hset default).1, s112_j1, (hset _).2]
  cases decide (s163 a0[i] = s163 y)
  ·rw [cond_false]
   cases decide (s163 a0[i] = IntKind.i64.wrap (s163 y - 1))
   ·simp only [cond_false, Bool.false_and];exact ih _ _ _ (by simp; omega)
   ·simp only [cond_true, Bool.true_and]
    cases (decide (q.Days = s164 a0 (s163 y)) && decide (x2 < 57))
    ·rw [cond_false]; exact ih _ _ _ (by simp; omega)
    ·rw [cond_true]; exact ih _ _ _ (by omega)
  ·rw [cond_true]; exact ih _ _ _ (by omega)
theorem qx0 : JoinOk := by
 intro a0 ha hr hlen;obtain ⟨m, k', h1, h2⟩ := qie a0 ha hr a0 [] 0 [] rfl (fun w => rfl)
 have h0 : s160 a0 = s160_l3 a0 m (a0.length + 1) [] 0 := by
  unfold s160;rw [decide_eq_false (by omega), cond_false, qig a0 ha hr hlen a0 0 rfl (by simp), h1, s160_l2]
  have : (((List.length a0 : Int) - 0).toNat + 1) = a0.length + 1 := by omega
  rw [this]
 rw [h0];unfold s112
 cases a0 with
 | nil => exact ⟨[], by rw [s160_l3]; rfl, by rw [s112_l1]⟩
 | cons y l =>
  have hy := hr y List.mem_cons_self;have e : decide ((0 : Int) < (List.length (y :: l) : Int)) = true := decide_eq_true (by simp only [List.length_cons]; omega);have ei : ixO (y :: l) 0 = some y := rfl
  have hf : (((List.length (y :: l) : Int) - 0).toNat + 1) = l.length + 1 + 1 := by simp
  have key := runs (y :: l) m hr hlen h2 l 0 [] y y y 1 (y :: l).length (l.length + 1) (by simp) rfl rfl hy (by omega) (by omega) (by simp) (by omega) (by simp; omega);obtain ⟨R, hR⟩ := qlk (y :: l) hlen l 0 [] ⟨y, y, mkS (y :: l) (wk y)⟩ 1 (by simp) (by simp; omega);rw [hR] at key;refine ⟨R, ?_, ?_⟩
  ·rw [s160_l3, e, cond_true, ei];simp only [bindO];rw [qai hy, hf, s160_l4, e, cond_true, ei];simp only [bindO];rw [qai hy, decide_eq_true rfl, cond_true, s160_j2, ei];simp only [bindO];rw [wrap_i64 (n := (0 : Int) + 1) ⟨by omega, by omega⟩];exact key
  ·rw [s112_l1];have z : decide ((0 : Int) < (((0 : Nat)) : Int)) = false := rfl;rw [z];simp only [cond_false, Bool.false_and, bindO, s112_j1];rw [qd5 hy, qpj _ hr hlen];exact hR
def RqS (q : S115) : Prop := ¬ (60 < IntKind.i64.wrap (q.Period.fTo - q.Period.fFrom)) ∨ ¬ s40 q.Period = 0
theorem qu6 {l : List S115} {k : Nat} {y : S115} (h : ∀ q ∈ List.take k l, RqS q) (hx : l[k]? = some y) (hy : RqS y) : ∀ q ∈ List.take (k + 1) l, RqS q := by
 rw [List.take_add_one, hx];intro q hq
 rcases List.mem_append.1 hq with hq | hq
 ·exact h q hq
 ·have : q = y := by simpa using hq
  subst this; exact hy
theorem qsj {l : List S115} {k : Nat} (h : ∀ q ∈ List.take k l, RqS q) (hk : l.length ≤ k) : ∀ q ∈ l, RqS q := by rwa [List.take_of_length_le hk] at h
theorem qu7 {l : List S115} (h : s134 l = 0) : l.length ≤ 64 ∧ ∀ q ∈ l, s102 q.Period = 0 ∧ 0 ≤ q.Minute ∧ q.Minute ≤ 1439 := by
 unfold s134 at h
 by_cases hl : (64 : Int) < (l.length : Int)
 ·rw [decide_eq_true hl] at h; cases h
 ·rw [decide_eq_false hl, cond_false] at h;refine ⟨by omega, ?_⟩
  have key : ∀ (t : List S115) (k : Nat), s134_l1 l t k = 0 → ∀ q ∈ t, s102 q.Period = 0 ∧ 0 ≤ q.Minute ∧ q.Minute ≤ 1439 := by
   intro t
   induction t with
   | nil => intro k _ q hq; cases hq
   | cons y t ih =>
    intro k h q hq;rw [s134_l1] at h;generalize hz : [s87 y.Name, _, _, _, _] = z at h
    by_cases h0 : s84 z = 0
    ·rw [decide_eq_false (by simpa using h0), cond_false] at h
     rcases List.mem_cons.1 hq with rfl | hq
     ·have g1 := qbw h0 (s102 q.Period) (by rw [← hz]; simp);have g2 := qkv (qbw h0 (s85 q.Minute 0 1439) (by rw [← hz]; simp));exact ⟨g1, g2⟩
     ·exact ih _ h q hq
    ·rw [decide_eq_true h0, cond_true] at h;exact absurd h h0
  exact key l 0 h
theorem qu8 {q : S115} (h : s102 q.Period = 0 ∧ 0 ≤ q.Minute ∧ q.Minute ≤ 1439) (hs : RqS q) : RqOk q := by
 refine ⟨h.1, h.2.1, h.2.2, ?_⟩;obtain ⟨q1, q2, q3, q4, _, _⟩ := period_ok _ h.1
 have hp : s40 q.Period = 0 := by rw [← qhz]; exact h.1
 have h60 : ¬ (60 < q.Period.fTo - q.Period.fFrom) := by
  rcases hs with hs | hs
  ·rwa [wrap_i64 (n := q.Period.fTo - q.Period.fFrom) ⟨by omega, by omega⟩] at hs
  ·exact absurd hp hs
 have := qbo q.Period.Days (q.Period.fTo + 1 - q.Period.fFrom).toNat q.Period.fFrom;unfold dayP
 omega
theorem qd6 {a0 : S23} {l : List S115} {a2 : List S104} {a3 : S67} (hsn : s21 (s22 a2) 10 = true) (hq : ∀ q ∈ l, RqS q) : ¬ s84 [s23 a0, s134 l, s27 a2, s107 a3] ≠ 0 → (∀ q ∈ l, RqOk q) ∧ l.length ≤ 64 ∧ a2.length ≤ 12 := by
 intro h;have h := qbw (Decidable.not_not.1 h);have g1 := qu7 (h (s134 l) (by simp));have g2 := quw (h (s27 a2) (by simp));have g3 := qux hsn;exact ⟨fun q hm => qu8 (g1.2 q hm) (hq q hm), g1.1, by omega⟩
theorem qra (f : S115 → Bool) (l : List S115) : s184 l f = l.any f := by
 have key : ∀ (l : List S115) (k : Nat), decide (0 ≤ s220_l1 f l k) = l.any f := by
  intro l
  induction l with
  | nil => intro k; rfl
  | cons y l ih =>
   intro k;rw [s220_l1, List.any_cons]
   cases h : f y
   ·rw [cond_false, ih]; simp
   ·rw [cond_true]; simp
 unfold s184 s220; exact key l 0
def fin65 (rec1 : Nat → Option Int) (k : Nat) (y : S115) (e : Int) : Option Int :=
 bif decide (s89 [e, s30 y.Name y.Kind y.Period y.Minute] ≠ 0) then some (s89 [e, s30 y.Name y.Kind y.Period y.Minute]) else rec1 (k + 1)
theorem qll (rec1 : Nat → Option Int) (l : List S115) (k : Nat) (y : S115) (f : Nat) (e x : Int) (he : e ≠ 0) : s65_l2 rec1 l k y (f + 1) e x = fin65 rec1 k y e := by
 rw [s65_l2, decide_eq_false he, Bool.and_false, cond_false]; rfl
theorem qsk (rec1 : Nat → Option Int) (l : List S115) (k : Nat) (y : S115) (hk : k ≤ l.length) (hl : l.length ≤ 64) : ∀ (n j f : Nat), j + n = k → n < f → s65_l2 rec1 l k y f 0 (j : Int) = fin65 rec1 k y (bif ((l.drop j).take n).any (fun q => decide (q.Name = y.Name)) then 9 else 0)
 | 0, j, 0, _, h => by omega
 | 0, j, f + 1, hj, _ => by
  rw [s65_l2, decide_eq_false (by omega), Bool.false_and, cond_false]; rfl
 | n + 1, j, 0, _, h => by omega
 | n + 1, j, f + 1, hj, hf => by
  have hjl : j < l.length := by omega
  have hx : ixO l (j : Int) = some l[j] := qjd (List.getElem?_eq_getElem hjl)
  have hd : (l.drop j).take (n + 1) = l[j] :: (l.drop (j + 1)).take n := by rw [List.drop_eq_getElem_cons hjl]; rfl
  have hw : (j : Int) + 1 = ((j + 1 : Nat) : Int) := by omega
  rw [s65_l2, decide_eq_true (by omega), decide_eq_true rfl, hx, hd, List.any_cons];simp only [Bool.and_self, cond_true, bindO, s65_j1, hw]
  by_cases hn : l[j].Name = y.Name
  ·rw [decide_eq_true hn, cond_true, Bool.true_or, cond_true];obtain ⟨f', rfl⟩ : ∃ f', f = f' + 1 := ⟨f - 1, by omega⟩;exact qll rec1 l k y f' 9 _ (by decide)
  ·rw [decide_eq_false hn, cond_false, Bool.false_or];exact qsk rec1 l k y hk hl n (j + 1) f (by omega) (by omega)
theorem qu9 (e : Int) (z : List Int) : s89 [e, s89 z] = s89 (e :: z) := by
 rw [xq, xq e z, xq, wn]
 by_cases h : s89 z = 0
 ·rw [h]; rfl
 ·rw [decide_eq_true h]; rfl
theorem qd7 (l : List S115) : s65 l = some (s134 l) := by
 unfold s65 s134
 by_cases hl : (64 : Int) < (l.length : Int)
 ·rw [decide_eq_true hl]; rfl
 ·rw [decide_eq_false hl, cond_false, cond_false]
  have key : ∀ (t : List S115) (k : Nat), l.drop k = t → s65_l1 l t k = some (s134_l1 l t k) := by
   intro t
   induction t with
   | nil => intro k _; rfl
   | cons y t ih =>
    intro k hd
    have hkl : k < l.length := by
     rcases Nat.lt_or_ge k l.length with h | h
     ·exact h
     ·rw [List.drop_eq_nil_of_le h] at hd; cases hd
    have hd' : l.drop (k + 1) = t := by
     have : l.drop (k + 1) = (l.drop k).drop 1 := by rw [List.drop_drop]
     rw [this, hd]; rfl
    have e : ∀ b : Bool, fin65 (fun k_ => s65_l1 l t k_) k y (bif decide (s95 y.Name ≠ 0) then s95 y.Name else bif b then 9 else 0) =
      some (bif decide (s84 [s87 y.Name, s86 b 9, s101 y.Kind, s102 y.Period, s85 y.Minute 0 1439] ≠ 0) then s84 [s87 y.Name, s86 b 9, s101 y.Kind, s102 y.Period, s85 y.Minute 0 1439] else s134_l1 l t (k + 1)) := fun b => by
     have e2 : s84 [s87 y.Name, s86 b 9, s101 y.Kind, s102 y.Period, s85 y.Minute 0 1439] = s89 [bif decide (s95 y.Name ≠ 0) then s95 y.Name else bif b then 9 else 0, s30 y.Name y.Kind y.Period y.Minute] := by
      unfold s30;rw [qu9, qba, qjf, qko, qhz, qnv];unfold s86;simp only [xq, wn]
      by_cases h1 : s95 y.Name = 0
      ·rw [h1]
       cases b <;> simp
      ·rw [decide_eq_true h1]
       simp [h1]
     unfold fin65;rw [e2];simp only [ih (k + 1) hd']
     cases decide (s89 [bif decide (s95 y.Name ≠ 0) then s95 y.Name else bif b then 9 else 0, s30 y.Name y.Kind y.Period y.Minute] ≠ 0) <;> rfl
    have e3 : s134_l1 l (y :: t) k = (bif decide (s84 [s87 y.Name, s86 (l.take k |>.any fun q => decide (q.Name = y.Name)) 9, s101 y.Kind, s102 y.Period, s85 y.Minute 0 1439] ≠ 0) then s84 [s87 y.Name, s86 (l.take k |>.any fun q => decide (q.Name = y.Name)) 9, s101 y.Kind, s102 y.Period, s85 y.Minute 0 1439] else s134_l1 l t (k + 1)) := by
     rw [s134_l1, qra]; rfl
    rw [e3, ← e, s65_l1]
    by_cases h1 : s95 y.Name = 0
    ·rw [h1, decide_eq_false (by simp), cond_false];have := qsk (fun k_ => s65_l1 l t k_) l k y (by omega) (by omega) k 0 ((((k : Nat) : Int) - 0).toNat + 1) (by omega) (by omega);rw [List.drop_zero] at this;exact this
    ·rw [decide_eq_true h1, cond_true];exact qll _ l k y _ _ _ h1
  exact key l 0 rfl
theorem qsl (a0 : S23) (l : List S115) (a2 : List S104) (a3 : S67) : s35 [s24 (s18 a0), s134 l, s28 (s22 a2), s41 a3] = s84 [s23 a0, s134 l, s27 a2, s107 a3] := by
 unfold s35;rw [qba, qth, qo6, qid]
theorem qgb {a0 : S23} {l : List S115} {a2 : List S104} {a3 : S67} {r : Int} (hsn : s21 (s22 a2) 10 = true) (hq : ∀ q ∈ l, RqS q) (hr : s65 l = some r) (h : s35 [s24 (s18 a0), r, s28 (s22 a2), s41 a3] = 0) : (∀ q ∈ l, RqOk q) ∧ l.length ≤ 64 ∧ (s22 a2).length ≤ 12 ∧ 2000 ≤ a3.Year ∧ a3.Year ≤ 2272 := by
 rw [qd7] at hr
 cases hr
 rw [qsl] at h;obtain ⟨g1, g2, g3⟩ := qd6 (a0 := a0) (a3 := a3) hsn hq (by simpa using h);have hs := qsh (qbw h (s107 a3) (by simp));rw [qkp];exact ⟨g1, g2, g3, hs.1, hs.2.1⟩
theorem qy5 {a0 : S23} {a1 : List S115} {a2 : List S104} {a3 : S67} {r : List S131 × Int} (h : s64 a0 a1 a2 a3 = some r) : r.1.length ≤ a1.length := by
 have in2 : ∀ (rec1 : Nat → List S131 → Option (List S131 × Int)) (n : Nat), (∀ k x r, rec1 k x = some r → r.1.length ≤ x.length + n) → ∀ (cs : List Int) (x1 : List S131) (k : Nat) (y : S115) (k' : Nat) (u v : Int) (r : List S131 × Int), s64_l2 rec1 a0 a3 x1 k y cs k' u v = some r → r.1.length ≤ x1.length + (n + 1) := by
  intro rec1 n hrec cs
  induction cs with
  | nil =>
   intro x1 k y k' u v r h;rw [s64_l2] at h;simp only [s64_j1] at h
   cases hc : s106 a0 (S55.mk u v)
   ·rw [hc, Bool.not_false, cond_true] at h;have := hrec _ _ _ h; omega
   ·rw [hc, Bool.not_true, cond_false] at h;obtain ⟨z, _, h⟩ := qk h
    cases hz : decide (z.2 ≠ 0)
    ·rw [hz, cond_false] at h;have := hrec _ _ _ h
     simp at this; omega
    ·rw [hz, cond_true] at h
     cases h
     exact Nat.zero_le _
  | cons c cs ih =>
   intro x1 k y k' u v r h;rw [s64_l2] at h;exact ih _ _ _ _ _ _ _ h
 have key : ∀ (t : List S115) (k : Nat) (x : List S131) (r : List S131 × Int), s64_l1 a0 a2 a3 t k x = some r → r.1.length ≤ x.length + t.length := by
  intro t
  induction t with
  | nil => intro k x r h; rw [s64_l1] at h; cases h; simp
  | cons y t ih =>
   intro k x r h;rw [s64_l1] at h;obtain ⟨z, _, h⟩ := qk h;exact in2 _ t.length (fun k x r h => ih k x r h) _ _ _ _ _ _ _ _ h
 unfold s64 at h
 cases hc : decide (s84 [s23 a0, s134 a1, s27 a2, s107 a3] ≠ 0)
 ·rw [hc, cond_false] at h;have := key _ _ _ _ h
  simpa using this
 ·rw [hc, cond_true] at h
  cases h
  exact Nat.zero_le _
end Go.Sim
set_option maxRecDepth 10000
namespace Go.Sim
open Go.Proofs
def s11_j1 (r5 : (List S131) × Int) (x7 : Int) (x8 : List S131) : Option Bool :=
 bindO (s67 (s68 r5.1) x8) fun r9 => some (r9 && (decide (r5.2 = x7)))
def s11_l1 (a0 : S23) (a1 : S113) (a2 : List S104) : List S115 → Nat → Option Bool
 | [], k2 => bindO (s64 a0 a1.Requests a2 (S67.mk a1.Season.Year a1.Season.Kind)) fun r5 => bindO (s65 a1.Requests) fun r6 => (bif decide ((s35 [(s24 (s18 a0)), r6, (s28 (s22 a2)), (s41 (S67.mk a1.Season.Year a1.Season.Kind))]) = 0) then bindO (s66 (s18 a0) a1.Requests (s22 a2) (S67.mk a1.Season.Year a1.Season.Kind)) fun r10 => s11_j1 r5 r10.2 r10.1 else s11_j1 r5 (s35 [(s24 (s18 a0)), r6, (s28 (s22 a2)), (s41 (S67.mk a1.Season.Year a1.Season.Kind))]) [])
 | y3 :: t4, k2 => (bif ((decide (60 < (ByteArray.size y3.Name : Int))) || (decide (60 < (ByteArray.size y3.Kind : Int)))) || ((decide (60 < IntKind.i64.wrap (y3.Period.fTo - y3.Period.fFrom))) && (decide ((s40 (S45.mk y3.Period.fFrom y3.Period.fTo y3.Period.Days)) = 0))) then some true else s11_l1 a0 a1 a2 t4 (k2 + 1))
noncomputable def s11 (a0 : S23) (a1 : S113) (a2 : List S104) : Option Bool :=
 (bif (((((!s16) || (!(s17 (s18 a0)))) || ((decide (4 < (List.length a1.Requests : Int))) && (decide ((List.length a1.Requests : Int) ≤ 64)))) || (decide (66 < (List.length a1.Requests : Int)))) || (!(s21 (s22 a2) 10))) || (decide (60 < (ByteArray.size a1.Season.Kind : Int))) then some s16 else s11_l1 a0 a1 a2 a1.Requests 0)
set_option maxHeartbeats 4000000 in
theorem c11 (a0 : S23) (a1 : S113) (a2 : List S104) {R : Bool}  (hb0 : a2.length * 96 ≤ 140737488351232) (hR : s11 a0 a1 a2 = some R) : Con (EG glT) 11 [G.agg [G.int a0.Before, G.int a0.After, G.int a0.Notice, G.int a0.Share, G.sl 1 (List.map cStr a0.Causes), G.int a0.Off, G.int a0.Run], G.agg [G.sl 13 (List.map S115.c a1.Requests), G.int a1.Season.Year, G.str a1.Season.Kind], G.sl 8 (List.map S104.c a2)] (G.bool R) := by
 unfold s11 at hR;refine qn Tryz.func11 rfl rfl fun w0 M0 => ?_;refine zd (f := S104.c) (l := a2) 2 rfl fun hla2 => ?_;refine qb (qa [.p, .p, .p] (su (zl rfl rfl) rfl (su (zl rfl rfl) rfl (sa rfl rfl (qc (qb ?_))))));refine qb (qa [.p, .p, .p, .p, .p, .p, .p, .p, .p, .p, .p, .p, .p, .p, .p, .p, .p, .p, .p, .p, .p, .p, .p, .p, .p, .p, .p, .p, .p, .p, .p, .p, .p, .p, .p, .p, .p, .p, .p] (su (qg rfl K16 rfl (c16) qm) rfl (su (kh rfl rfl) rfl (sm rfl rfl (sg rfl rfl (fun h => qt rfl ty24 rfl rfl rfl) rfl (sg rfl rfl (fun h => qg rfl K18 rfl (c18 a0) (qe (gd h rfl) qm)) rfl ?_))))));refine sg rfl rfl (fun h => qg rfl K17 rfl (c17 (s18 a0)) (qe (gd h rfl) qm)) rfl (sg rfl rfl (fun h => kh rfl (gd h rfl)) rfl (su (jj rfl rfl rfl rfl) rfl (sm rfl rfl (sg rfl rfl (fun h => qd rfl qbd rfl) rfl (sg rfl rfl (fun h => qf rfl qjx (gd h rfl)) rfl (sg rfl rfl (fun h => qv (f := S115.c) (l := a1.Requests) rfl Tryz.underlying112 (gd h rfl)) rfl ?_))))));refine sg rfl rfl (fun h => z0 rfl (gd h rfl) rfl) rfl (sg rfl rfl (fun h => qh rfl (gd h rfl)) rfl (st_g rfl rfl rfl (zn _ _ _) (fun h => qd rfl qbd rfl) rfl (st_g rfl rfl rfl (zn _ _ _) (fun h => qf rfl qjx (gd h rfl)) rfl (st_g rfl rfl rfl (zn _ _ _) (fun h => qv (f := S115.c) (l := a1.Requests) rfl Tryz.underlying112 (gd h rfl)) rfl (st_g rfl rfl rfl (zn _ _ _) (fun h => j8 rfl (gd h rfl) rfl) rfl (sg rfl rfl (fun h => zf rfl (gd h rfl) rfl (gd2 h rfl)) rfl ?_))))));refine su (jj rfl rfl rfl rfl) rfl (sm rfl rfl (sg rfl rfl (fun h => qd rfl qbd rfl) rfl (sg rfl rfl (fun h => qf rfl qjx (gd h rfl)) rfl (sg rfl rfl (fun h => qv (f := S115.c) (l := a1.Requests) rfl Tryz.underlying112 (gd h rfl)) rfl (sg rfl rfl (fun h => z0 rfl (gd h rfl) rfl) rfl (su (jj rfl rfl rfl rfl) rfl ?_))))));refine sm rfl rfl (sg rfl rfl (fun h => qh rfl rfl) rfl (sg rfl rfl (fun h => qg rfl K22 rfl (c22 a2 iA) (qe (gd h rfl) qm)) rfl (sg rfl rfl (fun h => qg rfl K21 rfl (c21 (s22 a2) 10) (qe (gd h rfl) (qe rfl qm))) rfl (sg rfl rfl (fun h => kh rfl (gd h rfl)) rfl (su (jj rfl rfl rfl rfl) rfl (sm rfl rfl ?_))))));refine sg rfl rfl (fun h => qd rfl qgc rfl) rfl (sg rfl rfl (fun h => qd rfl qbt (gd h rfl)) rfl (sg rfl rfl (fun h => qf rfl ty9 (gd h rfl)) rfl (sg rfl rfl (fun h => vh rfl Tryz.underlying9 (gd h rfl)) rfl (sg rfl rfl (fun h => z0 rfl (gd h rfl) rfl) rfl (su (jj rfl rfl rfl rfl) rfl (qc ?_))))));refine qj _ rfl (fun h1 => ?_) (fun h1 => ?_)
 ·replace hR := zj hR h1;refine qb (qa [.p, .p] (su (qg rfl K16 rfl (c16) qm) rfl (sa rfl rfl (qc (qo ?_)))));exact qsp (zb rfl (rv_g rfl)) (congrArg (fun R_ => G.bool R_) (Option.some.inj hR))
 ·replace h1 : ((((((!s16) || (!(s17 (s18 a0)))) || ((decide (4 < (List.length a1.Requests : Int))) && (decide ((List.length a1.Requests : Int) ≤ 64)))) || (decide (66 < (List.length a1.Requests : Int)))) || (!(s21 (s22 a2) 10))) || (decide (60 < (ByteArray.size a1.Season.Kind : Int)))) = false := h1;replace hR := zk hR h1;(try simp only [bB] at h1);have hsn := h1.1.2;have hln := h1.1.1.2;refine ql (qb (qb (qa [.p, .p, .p, .p] (su (qd rfl qbd rfl) rfl (su (qf rfl qjx rfl) rfl (su (qv (f := S115.c) (l := a1.Requests) rfl Tryz.underlying112 rfl) rfl ?_))))));refine sm rfl rfl (qc (qi (qq (γ := Nat × (List S115)) (fun g => ([(2, .g (G.sl 8 (List.map S104.c a2))), (3, .g (G.ref [G.int a0.Before, G.int a0.After, G.int a0.Notice, G.int a0.Share, G.sl 1 (List.map cStr a0.Causes), G.int a0.Off, G.int a0.Run])), (4, .g (G.ref [G.sl 13 (List.map S115.c a1.Requests), G.int a1.Season.Year, G.str a1.Season.Kind])), (54, .g (G.sl 13 (List.map S115.c a1.Requests))), (55, .g (G.int (List.length a1.Requests : Int))), (56, .g (G.int ((g.1 : Nat) : Int)))], [])) (fun g => (∀ q ∈ List.take g.1 a1.Requests, RqS q) ∧ a1.Requests.drop g.1 = g.2 ∧ s11_l1 a0 a1 a2 g.2 g.1 = some R) (fun g => List.length g.2) ⟨rfl, (0, a1.Requests), ⟨rfl, rfl, rfl, rfl, rfl, rfl, trivial⟩, trivial, rfl, ⟨(fun _ h => absurd h (by simp)), rfl, hR⟩, trivial⟩ ?_)))
  ·rintro ⟨k2, u4⟩ ⟨iv1_0, hd, hR⟩;replace hd : a1.Requests.drop k2 = u4 := hd;replace hR : s11_l1 a0 a1 a2 u4 k2 = some R := hR;replace iv1_0 : (∀ q ∈ List.take k2 a1.Requests, RqS q) := iv1_0;refine qb (qa [.p] (su (qu rfl rfl rfl) rfl (qc (zd (f := S115.c) (l := a1.Requests) 54 rfl fun hlz1 => ?_))));refine qb (qj _ rfl (fun h2 => ?_) (fun h2 => ?_))
   ·replace h2 : (decide (((k2 : Nat) : Int) < (List.length a1.Requests : Int))) = true := h2;refine Exists.elim (ze hd (decT h2)) (fun y3 hq_ => ?_);refine Exists.elim hq_ (fun t4 hqq_ => ?_);have et4 := hqq_.1;have hx1 := hqq_.2.1;replace hd := hqq_.2.2;clear hqq_ hq_;rw [et4] at hR;replace h2 := decT h2;rw [s11_l1] at hR;(try dsimp only at hR);refine ql (qb (qi (qb (qa [.p, .p, .w, .w] (su (zh (f := S115.c) (l := a1.Requests) (a := y3) rfl Tryz.underlying112 wc rfl rfl (Int.natCast_nonneg _) hx1) rfl (su (qt rfl wc rfl rfl rfl) rfl ?_))))));refine sw (zq 8 rfl z116 rfl rfl) rfl (jf rfl rfl (za (tv := .g (G.agg [G.str y3.Name, G.str y3.Carrier, G.str y3.Kind, G.str y3.Terminal, G.str y3.Partner, G.str y3.Link, G.int y3.Period.fFrom, G.int y3.Period.fTo, G.int y3.Period.Days, G.int y3.Minute, G.int y3.Seats, G.int y3.Size, G.int y3.Noise])) rfl wc rfl rfl rfl rfl rfl) (qc (qb (qa [.p, .r, .p, .p, .p, .p, .r, .p, .p, .p, .p, .p, .p, .r, .p, .p, .r, .p, .p, .p, .p, .r, .p, .p, .p, .p] (su (zg rfl xk rfl) rfl (sr (z4 rfl ty9 rfl rfl rfl) rfl ?_))))));refine su (vh rfl Tryz.underlying9 rfl) rfl (su (z0 rfl rfl rfl) rfl (sm rfl rfl (sg rfl rfl (fun h => zg rfl qd2 rfl) rfl (xn rfl rfl rfl (kp _ _) (fun h => z4 rfl ty9 (gd h rfl) rfl rfl) rfl ?_))));refine sg rfl rfl (fun h => vh rfl Tryz.underlying9 (gd h rfl)) rfl (sg rfl rfl (fun h => z0 rfl (gd h rfl) rfl) rfl (su (jj rfl rfl rfl rfl) rfl (sm rfl rfl (sg rfl rfl (fun h => zg rfl qaf rfl) rfl (sg rfl rfl (fun h => zg rfl wy (gd h rfl)) rfl (xn rfl rfl rfl (kp _ _) (fun h => z4 rfl ty3 (gd h rfl) rfl rfl) rfl ?_))))));refine sg rfl rfl (fun h => zg rfl qaf rfl) rfl (sg rfl rfl (fun h => zg rfl qaq (gd h rfl)) rfl (xn rfl rfl rfl (kp _ _) (fun h => z4 rfl ty3 (gd h rfl) rfl rfl) rfl ?_));refine sg rfl rfl (fun h => jb rfl (gd h rfl) (gd h rfl)) rfl (sg rfl rfl (fun h => z0 rfl (gd h rfl) rfl) rfl (sg rfl rfl (fun h => qh rfl (gd h rfl)) rfl (st_g rfl rfl rfl (zn _ _ _) (fun h => zg rfl qaf rfl) rfl (xn rfl rfl rfl (zn _ _ _) (fun h => zx rfl ty46 (gd h rfl) rfl rfl rfl) rfl ?_))));refine st_g rfl rfl rfl (zn _ _ _) (fun h => qg rfl K40 rfl (c40 (S45.mk y3.Period.fFrom y3.Period.fTo y3.Period.Days)) (qe (gd h rfl) qm)) rfl (st_g rfl rfl rfl (zn _ _ _) (fun h => jh rfl (gd h rfl) rfl) rfl (sg rfl rfl (fun h => zf rfl (gd h rfl) rfl (gd2 h rfl)) rfl (su (jj rfl rfl rfl rfl) rfl (qc (qj _ rfl (fun h5 => ?_) (fun h5 => ?_))))))
    ·replace hR := zj hR h5;refine qb (qa [.p] (sa rfl rfl (qc (qo ?_))));exact qsp (zb rfl (rv_g rfl)) (congrArg (fun R_ => G.bool R_) (Option.some.inj hR))
    ·replace h5 : (((decide (60 < (ByteArray.size y3.Name : Int))) || (decide (60 < (ByteArray.size y3.Kind : Int)))) || ((decide (60 < IntKind.i64.wrap (y3.Period.fTo - y3.Period.fFrom))) && (decide ((s40 (S45.mk y3.Period.fFrom y3.Period.fTo y3.Period.Days)) = 0)))) = false := h5;replace hR := zk hR h5;(try simp only [bB] at h5);refine ql (qa [.p, .p] (su (zc rfl rfl rfl iE) rfl (sm rfl rfl (qc ?_))));exact ⟨rfl, (k2 + 1, t4), ⟨rfl, rfl, rfl, rfl, rfl, rfl, trivial⟩, trivial, rfl, ⟨(qu6 iv1_0 hx1 h5.2), hd, hR⟩, by simp [et4]⟩
   ·replace h2 : (decide (((k2 : Nat) : Int) < (List.length a1.Requests : Int))) = false := h2;have hn_ := zm hd (decF h2);rw [hn_] at hR;rw [s11_l1] at hR;refine qw ?_;refine qb ?_;refine Exists.elim (qk hR) (fun r5 hq_ => ?_);have br5 := hq_.1;replace hR := hq_.2;clear hq_;refine qa [.p, .p, .p, .p, .p, .p, .p, .p, .p, .p, .p, .p] (su (qt rfl ty24 rfl rfl rfl) rfl (su (qd rfl qbd rfl) rfl (su (qf rfl qjx rfl) rfl (sm rfl rfl (su (qd rfl qgc rfl) rfl (su (qt rfl ty68 rfl rfl rfl) rfl ?_))))));refine su (qg rfl K64 rfl (c64 a0 a1.Requests a2 (S67.mk a1.Season.Year a1.Season.Kind) (qd6 hsn (qsj iv1_0 (by have := decF h2; omega))) br5) (qe rfl (qe rfl (qe rfl (qe rfl qm))))) rfl (sm rfl rfl (su (zo rfl rfl rfl) rfl (su (zo rfl rfl rfl) rfl (sa rfl rfl (sa rfl rfl (qc ?_))))));have hl9 := qy5 br5;refine qb ?_;refine Exists.elim (qk hR) (fun r6 hq_ => ?_);have br6 := hq_.1;replace hR := hq_.2;clear hq_;refine zu [.p, .p, .p, .p, .p, .p, .p, .p, .p, .p, .p, .p, .p, .p, .p] (by kernel_rfl) (su (qt rfl ty24 rfl rfl rfl) rfl (su (qg rfl K18 rfl (c18 a0) (qe rfl qm)) rfl (su (qg rfl K24 rfl (c24 (s18 a0)) (qe rfl qm)) rfl (su (qd rfl qbd rfl) rfl (su (qf rfl qjx rfl) rfl (su (qg rfl K65 rfl (c65 a1.Requests br6) (qe rfl qm)) rfl ?_))))));refine sm rfl rfl (su (qg rfl K22 rfl (c22 a2 iA) (qe rfl qm)) rfl (su (qg rfl K28 rfl (c28 (s22 a2)) (qe rfl qm)) rfl (su (qd rfl qgc rfl) rfl (su (qt rfl ty68 rfl rfl rfl) rfl (su (qg rfl K41 rfl (c41 (S67.mk a1.Season.Year a1.Season.Kind)) (qe rfl qm)) rfl (su (qr rfl Tryz.underlying82 ty3 z3 rfl (qy rfl (qy rfl (qy rfl (qy rfl jc)))) rfl (by simp []) (by decide)) rfl ?_))))));refine su (qg rfl K35 rfl (c35 [(s24 (s18 a0)), r6, (s28 (s22 a2)), (s41 (S67.mk a1.Season.Year a1.Season.Kind))]) (qe rfl qm)) rfl (sa rfl rfl (qc (qb (qa [.p] (su (qqh 2 rfl rfl) rfl (qc ?_))))));refine ja (γ := Int × (List S131)) (fun g => ([(9, .g (G.sl 2 (List.map S131.c r5.1))), (10, .g (G.int r5.2)), (11, .g (G.int g.1)), (12, .g (G.sl 2 (List.map S131.c g.2)))], [])) (fun g => s11_j1 r5 g.1 g.2 = some R) ?_ ?_
    ·refine qb (qa [.p, .p] (sm rfl rfl (su (jh rfl rfl rfl) rfl (qc (qj _ rfl (fun h4 => ?_) (fun h4 => ?_))))))
     ·replace h4 : (decide ((s35 [(s24 (s18 a0)), r6, (s28 (s22 a2)), (s41 (S67.mk a1.Season.Year a1.Season.Kind))]) = 0)) = true := h4;replace hR := zj hR h4;(try simp only [bB] at h4);obtain ⟨hq, hl1, hb2, hy1, hy2⟩ := qgb hsn (qsj iv1_0 (by have := decF h2; omega)) br6 h4;refine Exists.elim (qk hR) (fun r10 hq_ => ?_);have br10 := hq_.1;replace hR := hq_.2;clear hq_;refine zu [.p, .p, .p, .p, .p, .p, .p, .p, .p, .p, .p, .p, .p, .p] (by kernel_rfl) (su (qt rfl ty24 rfl rfl rfl) rfl (su (qg rfl K18 rfl (c18 a0) (qe rfl qm)) rfl (su (qd rfl qbd rfl) rfl (su (qf rfl qjx rfl) rfl (sm rfl rfl (su (qg rfl K22 rfl (c22 a2 iA) (qe rfl qm)) rfl ?_))))));refine su (qd rfl qgc rfl) rfl (su (qt rfl ty68 rfl rfl rfl) rfl (su (qg rfl K66 rfl (c66 (s18 a0) a1.Requests (s22 a2) (S67.mk a1.Season.Year a1.Season.Kind) hq hl1 hb2 hy1 hy2 br10) (qe rfl (qe rfl (qe rfl (qe rfl qm))))) rfl (sm rfl rfl (su (zo rfl rfl rfl) rfl (su (zo rfl rfl rfl) rfl (sa rfl rfl ?_))))));refine sa rfl rfl (qc ?_);exact ⟨rfl, (r10.2, r10.1), ⟨rfl, rfl, rfl, rfl, trivial⟩, trivial, rfl, hR, trivial⟩
     ·replace hR := zk hR h4;refine ql ?_;exact ⟨rfl, ((s35 [(s24 (s18 a0)), r6, (s28 (s22 a2)), (s41 (S67.mk a1.Season.Year a1.Season.Kind))]), []), ⟨rfl, rfl, rfl, rfl, trivial⟩, trivial, rfl, hR, trivial⟩
    ·rintro ⟨x7, x8⟩ hR;replace hR : s11_j1 r5 x7 x8 = some R := hR;unfold s11_j1 at hR;refine qb ?_;refine Exists.elim (qk hR) (fun r9 hq_ => ?_);have br9 := hq_.1;replace hR := hq_.2;clear hq_;refine qa [.p, .p, .p, .p, .p, .p, .p, .p, .p, .p] (sm rfl rfl (su (qg rfl K68 rfl (c68 r5.1 iA) (qe rfl qm)) rfl (sm rfl rfl (su (qg rfl K67 rfl (c67 (s68 r5.1) x8 br9) (qe rfl (qe rfl qm))) rfl (sm rfl rfl (sg rfl rfl (fun h => qh rfl rfl) rfl ?_))))));refine sg rfl rfl (fun h => qh rfl rfl) rfl (sg rfl rfl (fun h => jh rfl (gd h rfl) (gd h rfl)) rfl (su (zf rfl rfl rfl rfl) rfl (sa rfl rfl (qc (qo ?_)))));exact qsp (zb rfl (rv_g rfl)) (congrArg (fun R_ => G.bool R_) (Option.some.inj hR))
theorem qpk (rec1 : Nat → List S131 → Option (List S131 × Int)) (a0 : S23) (a3 : S67) (x1 : List S131) (k : Nat) (y : S115) : ∀ (cs : List Int) (k' k'' : Nat) (u v : Int) (q : S55), s58_l1 cs k'' u v = some (q, 0) → s64_l2 rec1 a0 a3 x1 k y cs k' u v = s64_l2 rec1 a0 a3 x1 k y [] 0 q.Flown q.Due
 | [], k', k'', u, v, q, h => by
  rw [s58_l1] at h
  cases h
  rw [s64_l2, s64_l2]
 | c :: cs, k', k'', u, v, q, h => by
  rw [s58_l1] at h;rw [s64_l2];exact qpk rec1 a0 a3 x1 k y cs _ _ _ _ q h
theorem qih (a0 : S23) (a2 : List S104) {a3 : S67} (hs : okS a3) : ∀ (t : List S115) (k : Nat) (x : List S131), (∀ q ∈ t, RqOk q) → ∃ r, s64_l1 a0 a2 a3 t k x = some r ∧ s66_l1 a0 a2 a3 t k x = some r
 | [], k, x, _ => ⟨_, rfl, rfl⟩
 | y :: t, k, x, h => by
  have hy := h y List.mem_cons_self;have ih := fun k x => qih a0 a2 hs t k x fun q hq => h q (List.mem_cons_of_mem _ hq);obtain ⟨cs, g1, g2, g3, g4⟩ := qpe a0 (s103 y.Name y.Kind y.Period y.Minute) a2;obtain ⟨q, g5, g6⟩ := qpf cs (s103 y.Name y.Kind y.Period y.Minute) g3 g4;obtain ⟨r, g7, g8⟩ := quq qx0 hy.per hs
  have e62 : s62 a0 (s31 y.Name y.Kind y.Period y.Minute) a2 = some q := by
   rw [qsc _ _ _ hy.per hy.m0 (by have := hy.m1; omega)];unfold s62;rw [g2];simp only [bindO, g6]
  have e64 : s64_l1 a0 a2 a3 (y :: t) k x = s64_l2 (fun k_ z0_ => s64_l1 a0 a2 a3 t k_ z0_) a0 a3 x k y [] 0 q.Flown q.Due := by
   rw [s64_l1];show bindO (s124 a0 (s103 y.Name y.Kind y.Period y.Minute) a2) _ = _;rw [g1];simp only [bindO];exact qpk _ a0 a3 x k y cs 0 0 0 0 q g5
  have e66 : s66_l1 a0 a2 a3 (y :: t) k x = (bif !(s37 a0 q) then s66_l1 a0 a2 a3 t (k + 1) x else bif decide (r.2 ≠ 0) then some ([], r.2) else s66_l1 a0 a2 a3 t (k + 1) (x ++ [S131.mk y.Name r.1])) := by
   rw [s66_l1];show bindO (s62 a0 (s31 y.Name y.Kind y.Period y.Minute) a2) _ = _;rw [e62];simp only [bindO, s66_j1];rw [show S45.mk y.Period.fFrom y.Period.fTo y.Period.Days = y.Period from rfl, g8]
  have e64' : s64_l1 a0 a2 a3 (y :: t) k x = (bif !(s37 a0 q) then s64_l1 a0 a2 a3 t (k + 1) x else bif decide (r.2 ≠ 0) then some ([], r.2) else s64_l1 a0 a2 a3 t (k + 1) (x ++ [S131.mk y.Name r.1])) := by
   rw [e64, s64_l2];simp only [s64_j1];show (bif !(s37 a0 q) then _ else bindO (s108 y.Period a3) _) = _;rw [g7];simp only [bindO]
  rw [e64', e66]
  cases !(s37 a0 q)
  ·rw [cond_false, cond_false]
   cases decide (r.2 ≠ 0)
   ·exact ih _ _
   ·exact ⟨_, rfl, rfl⟩
  ·exact ih _ _
theorem qsm (l : List S131) : s68 l = l := by
 have key : ∀ (l : List S131) (k : Nat) (x : List S131), s68_l1 l k x = x ++ l := by
  intro l
  induction l with
  | nil => intro k x; simp [s68_l1]
  | cons y l ih => intro k x; rw [s68_l1, ih]; simp
 unfold s68; rw [key]; rfl
theorem qlm (l : List S131) : s67 l l = some true := by
 have key : ∀ (r : List S131) (k : Nat), l.drop k = r → s67_l1 l r k = some true := by
  intro r
  induction r with
  | nil => intro k _; rfl
  | cons y r ih =>
   intro k hd
   have hy : l[k]? = some y := by
    have : (l.drop k)[0]? = some y := by rw [hd]; rfl
    simpa using this
   rw [s67_l1, qjd hy];simp only [bindO, decide_true, Bool.not_true, Bool.not_false, cond_true, qq9, Bool.false_or, cond_false];refine ih (k + 1) ?_
   have : l.drop (k + 1) = (l.drop k).drop 1 := by rw [List.drop_drop]
   rw [this, hd]; rfl
 unfold s67;rw [decide_eq_false (by simp), cond_false];exact key l 0 rfl
theorem qva (a0 : S23) (a1 : S113) (a2 : List S104) (hsn : s21 (s22 a2) 10 = true) (hq : ∀ q ∈ a1.Requests, RqS q) (k : Nat) : s11_l1 a0 a1 a2 [] k = some true := by
 rw [s11_l1, qd7];have e : s35 [s24 (s18 a0), s134 a1.Requests, s28 (s22 a2), s41 (S67.mk a1.Season.Year a1.Season.Kind)] = s84 [s23 a0, s134 a1.Requests, s27 a2, s107 a1.Season] := qsl a0 _ a2 a1.Season;simp only [bindO, e]
 by_cases h : s84 [s23 a0, s134 a1.Requests, s27 a2, s107 a1.Season] = 0
 ·obtain ⟨g1, _, _⟩ := qd6 (a0 := a0) (a3 := a1.Season) hsn hq (by simpa using h);have hs := qsh (qbw h (s107 a1.Season) (by simp));obtain ⟨r, h1, h2⟩ := qih a0 a2 hs a1.Requests 0 [] g1
  have e64 : s64 a0 a1.Requests a2 (S67.mk a1.Season.Year a1.Season.Kind) = some r := by
   show s64 a0 a1.Requests a2 a1.Season = some r;unfold s64;rw [decide_eq_false (by simpa using h), cond_false, h1]
  have e66 : s66 (s18 a0) a1.Requests (s22 a2) (S67.mk a1.Season.Year a1.Season.Kind) = some r := by
   show s66 a0 a1.Requests (s22 a2) a1.Season = some r;unfold s66;rw [qkp];exact h2
  rw [e64, e66, decide_eq_true h];simp only [cond_true, s11_j1, qsm, qlm, bindO, decide_true, Bool.and_self]
 ·have e64 : s64 a0 a1.Requests a2 (S67.mk a1.Season.Year a1.Season.Kind) = some ([], s84 [s23 a0, s134 a1.Requests, s27 a2, s107 a1.Season]) := by
   show s64 a0 a1.Requests a2 a1.Season = _;unfold s64;rw [decide_eq_true h, cond_true]
  rw [e64, decide_eq_false h];simp only [cond_false, s11_j1, qsm, qlm, bindO, decide_true, Bool.and_self]
theorem qrb (a0 : S23) (a1 : S113) (a2 : List S104) : s11 a0 a1 a2 = some true := by
 unfold s11;rw [qrx]
 cases hc : (((((!true) || (!(s17 (s18 a0)))) || ((decide (4 < (List.length a1.Requests : Int))) && (decide ((List.length a1.Requests : Int) ≤ 64)))) || (decide (66 < (List.length a1.Requests : Int)))) || (!(s21 (s22 a2) 10))) || (decide (60 < (ByteArray.size a1.Season.Kind : Int)))
 ·rw [cond_false]
  have hsn : s21 (s22 a2) 10 = true := by
   cases h : s21 (s22 a2) 10
   ·rw [h] at hc; simp at hc
   ·rfl
  have key : ∀ (t P : List S115) (k : Nat), P ++ t = a1.Requests → (∀ q ∈ P, RqS q) → s11_l1 a0 a1 a2 t k = some true := by
   intro t
   induction t with
   | nil =>
    intro P k hP hq
    have : P = a1.Requests := by simpa using hP
    subst this;exact qva a0 a1 a2 hsn hq k
   | cons y t ih =>
    intro P k hP hq;rw [s11_l1]
    cases hy : ((decide (60 < (ByteArray.size y.Name : Int))) || (decide (60 < (ByteArray.size y.Kind : Int)))) || ((decide (60 < IntKind.i64.wrap (y.Period.fTo - y.Period.fFrom))) && (decide ((s40 (S45.mk y.Period.fFrom y.Period.fTo y.Period.Days)) = 0)))
    ·rw [cond_false];refine ih (P ++ [y]) (k + 1) (by rw [← hP]; simp) fun q hq' => ?_
     rcases List.mem_append.1 hq' with hq' | hq'
     ·exact hq q hq'
     ·rw [List.mem_singleton.1 hq'];have := (Bool.or_eq_false_iff.1 hy).2
      rcases (Bool.and_eq_false_iff.1 this) with h | h
      ·exact .inl (of_decide_eq_false h)
      ·exact .inr (of_decide_eq_false h)
    ·rfl
  exact key a1.Requests [] 0 rfl (by simp)
 ·rfl
end Go.Sim
