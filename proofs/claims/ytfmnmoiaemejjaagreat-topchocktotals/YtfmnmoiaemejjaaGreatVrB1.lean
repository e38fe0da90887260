/-
  What is proved: lemmas and contracts of functions on the way to the law topChockTotals (part 10).
-/
import Derived.Test.YtfmnmoiaemejjaaGreatVrA9
import Derived.Test.YtfmnmoiaemejjaaGreatVrA8
import Derived.Test.YtfmnmoiaemejjaaGreatVrA3
import Derived.Test.YtfmnmoiaemejjaaGreatVrA4
import Derived.Test.YtfmnmoiaemejjaaGreatVrA2
import Derived.Test.YtfmnmoiaemejjaaGreatVrA6
import Derived.Test.YtfmnmoiaemejjaaGreatVrA7
set_option linter.unusedSectionVars false
set_option linter.unusedSimpArgs false
set_option linter.unusedVariables false
set_option linter.unnecessarySimpa false
set_option linter.deprecated false
set_option maxRecDepth 10000
namespace Go.Sim
open Go.Proofs
theorem q1c : vz Tryz.prog 195 = some (List.replicate 1441 (.int .i64 0)) := by kernel_rfl
theorem q1d : vz Tryz.prog 198 = some (List.replicate 1440 (.bool false)) := by kernel_rfl
def qa2 (x2 : List Int) : Nat → Int → Int → (List Bool) → Option (List Bool)
 | 0, x7, x8, x9 => some x9
 | k12 + 1, x7, x8, x9 => qz (ixO x2 x8) fun y13 => qz (ixO x9 x8) fun y14 => qa2 x2 k12 (IntKind.i64.wrap (x7 + y13)) (x8 + 1) (List.set x9 (Int.toNat x8) (decide (0 < IntKind.i64.wrap (x7 + y13))))
def qfv (rec1 : Nat → (List Int) → Option (List Bool)) (k4 : Nat) (x15 : List Int) : Option (List Bool) :=
 rec1 (k4 + 1) x15
def qbp (rec5 : Int → Int → Int → (List Int) → Option (List Bool)) (y5 : S2062) (y24 : Int) (x38 : List Int) (y40 : Int) (x42 : Int) (x43 : Int) (x44 : Int) (x45 : Int) : Option (List Bool) :=
 (bif decide (x42 < y5.Most) then rec5 x43 x44 x45 x38 else (bif decide (max 0 (IntKind.i64.wrap (y40 - (IntKind.i64.wrap (1440 * y24)))) < min 1440 (IntKind.i64.wrap ((IntKind.i64.wrap (y40 + y5.Length)) - (IntKind.i64.wrap (1440 * y24))))) then qz (ixO x38 (max 0 (IntKind.i64.wrap (y40 - (IntKind.i64.wrap (1440 * y24)))))) fun y46 => qz (ixO x38 (max 0 (IntKind.i64.wrap (y40 - (IntKind.i64.wrap (1440 * y24)))))) fun y47 => qz (ixO (List.set x38 (Int.toNat (max 0 (IntKind.i64.wrap (y40 - (IntKind.i64.wrap (1440 * y24)))))) (IntKind.i64.wrap (y46 + 1))) (min 1440 (IntKind.i64.wrap ((IntKind.i64.wrap (y40 + y5.Length)) - (IntKind.i64.wrap (1440 * y24)))))) fun y48 => qz (ixO (List.set x38 (Int.toNat (max 0 (IntKind.i64.wrap (y40 - (IntKind.i64.wrap (1440 * y24)))))) (IntKind.i64.wrap (y46 + 1))) (min 1440 (IntKind.i64.wrap ((IntKind.i64.wrap (y40 + y5.Length)) - (IntKind.i64.wrap (1440 * y24)))))) fun y49 => rec5 x43 x44 x45 (List.set (List.set x38 (Int.toNat (max 0 (IntKind.i64.wrap (y40 - (IntKind.i64.wrap (1440 * y24)))))) (IntKind.i64.wrap (y46 + 1))) (Int.toNat (min 1440 (IntKind.i64.wrap ((IntKind.i64.wrap (y40 + y5.Length)) - (IntKind.i64.wrap (1440 * y24)))))) (IntKind.i64.wrap (y48 - 1))) else rec5 x43 x44 x45 x38))
def vy (rec4 : Int → Int → Int → Int → (List Int) → Option (List Bool)) (a1 : List S1079) (y5 : S2062) (y24 : Int) (x26 : Int) : List Int → Int → Int → Int → (List Int) → Option (List Bool)
 | [], x35, x36, x37, x38 => rec4 (x26 + 1) x35 x36 x37 x38
 | y40 :: t41, x35, x36, x37, x38 => (bif !(qit [decide (x35 = 0), decide (x36 = y40), decide (x37 = x37)]) then qbp (fun z0_ z1_ z2_ z3_ => vy rec4 a1 y5 y24 x26 t41 z0_ z1_ z2_ z3_) y5 y24 x38 y40 (cntI (ofL y5 a1) y40 y5.Length) 0 y40 (cntI (ofL y5 a1) y40 y5.Length) else qbp (fun z0_ z1_ z2_ z3_ => vy rec4 a1 y5 y24 x26 t41 z0_ z1_ z2_ z3_) y5 y24 x38 y40 x37 x35 x36 x37)
def vg (rec3 : Nat → Int → Int → Int → (List Int) → Option (List Bool)) (a1 : List S1079) (y5 : S2062) (k23 : Nat) (y24 : Int) : Nat → Int → Int → Int → Int → (List Int) → Option (List Bool)
 | 0, x26, x27, x28, x29, x30 => rec3 (k23 + 1) x27 x28 x29 x30
 | k33 + 1, x26, x27, x28, x29, x30 => qz (ixO [IntKind.i64.wrap (y24 - 1), y24] x26) fun y34 => vy (fun z0_ z1_ z2_ z3_ z4_ => vg rec3 a1 y5 k23 y24 k33 z0_ z1_ z2_ z3_ z4_) a1 y5 y24 x26 (begL y5 y34) x27 x28 x29 x30
def vp (rec1 : Nat → (List Int) → Option (List Bool)) (a1 : List S1079) (k4 : Nat) (y5 : S2062) : List Int → Nat → Int → Int → Int → (List Int) → Option (List Bool)
 | [], k23, x18, x19, x20, x21 => qfv rec1 k4 x21
 | y24 :: t25, k23, x18, x19, x20, x21 => vg (fun k_ z0_ z1_ z2_ z3_ => vp rec1 a1 k4 y5 t25 k_ z0_ z1_ z2_ z3_) a1 y5 k23 y24 (((2 : Int) - 0).toNat) 0 x18 x19 x20 x21
def kd (a1 : List S1079) (a2 : S115) : List S2062 → Nat → (List Int) → Option (List Bool)
 | [], k4, x2 => qa2 x2 (((1440 : Int) - 0).toNat) 0 0 (List.replicate 1440 false)
 | y5 :: t6, k4, x2 => (bif !(qb0 y5 a2.Kind a2.Terminal) then qfv (fun k_ z0_ => kd a1 a2 t6 k_ z0_) k4 x2 else vp (fun k_ z0_ => kd a1 a2 t6 k_ z0_) a1 k4 y5 ((s69 a2.Period).1) 0 0 (-1) 0 x2)
def qr4 (a0 : List S2062) (a1 : List S1079) (a2 : S115) : Option (List Bool) :=
 kd a1 a2 a0 0 (List.replicate 1441 0)
set_option maxHeartbeats 16000000 in
theorem q79 {g : GL} (a0 : List S2062) (a1 : List S1079) (a2 : S115) {R : List Bool}  (hl0 : a0.length ≤ 1000) (hlim : ∀ x ∈ a0, LimOk x) (hms : MsOk a1) (hp : s102 a2.Period = 0) (hR : qr4 a0 a1 a2 = some R) : Con (EG g) 69 [G.sl 11 (List.map S2062.c a0), G.sl 7 (List.map S1079.c a1), G.agg (S115.c a2)] (G.ref (List.map G.bool R)) := by
 unfold qr4 at hR;refine qfm Tryz.func69 U U (qt2 _) fun w0 M0 => ?_;refine zp (f := S2062.c) (l := a0) 0 U fun hla0 => ?_;refine zp (f := S1079.c) (l := a1) 1 U fun hla1 => ?_;refine qb<|qa [.p, .p]<|su (zg U U) U<|sa U U<|qc<|qb<|qa [.w] ?_;refine sw (qmf (f := cInt) (a := 0) 7 U q1c U (by decide) U U) U ?_;refine qc<|qb<|qa [.p, .p, .p, .p, .p, .p, .p, .p]<|su (qd U wd U) U<|su (qp U ty46 U U U) U<|su (qf U K69 U (c69' a2.Period) (qe U qj)) U<|sm U U<|su (qu U U U) U<|su (qu U U U) U<|sa U U<|sa U U<|qc<|qb<|qb<|qa [.p, .p, .p]<|sm U U<|su (qy (f := S2062.c) (l := a0) U Tryz.underlying22 U) U<|sm U U<|qc<|qq<|za (γ := Nat × (List S2062) × (List Int)) (fun g => ([(1, .g (G.sl 7 (List.map S1079.c a1))), (5, .g (G.ref (S115.c a2))), (7, .eptr 7 1 0 0), (8, .g (G.sl 1 (List.map cInt ((s69 a2.Period).1)))), (31, .g (G.sl 11 (List.map S2062.c a0))), (32, .g (G.int (List.length a0 : Int))), (33, .g (G.int ((g.1 : Nat) : Int)))], [(7, .arr 195 1 (List.map cInt g.2.2))])) (fun g => List.length g.2.2 = 1441 ∧ a0.drop g.1 = g.2.1 ∧ kd a1 a2 g.2.1 g.1 g.2.2 = some R) (fun g => List.length g.2.1) ⟨U, (0, a0, List.replicate 1441 0), jA, ⟨U, O⟩, U, ⟨List.length_replicate, U, (by exact hR)⟩, O⟩ ?_
 ·rintro ⟨k4, u6, x2⟩ ⟨ln3, hd, hR⟩;replace hd : a0.drop k4 = u6 := hd;replace hR : kd a1 a2 u6 k4 x2 = some R := hR;replace ln3 : List.length x2 = 1441 := ln3;refine qb<|qa [.p]<|su (ze U U U) U<|qc ?_;refine zp (f := S2062.c) (l := a0) 31 U fun hlz1 => ?_;refine qb ?_;refine ql _ U (fun h1 => ?_) (fun h1 => ?_)
  ·replace h1 : (decide (((k4 : Nat) : Int) < (List.length a0 : Int))) = true := h1;refine Exists.elim (zq hd (decT h1)) (fun y5 hq_ => ?_);refine Exists.elim hq_ (fun t6 hqq_ => ?_);have et6 := hqq_.1;have hx1 := hqq_.2.1;replace hd := hqq_.2.2;clear hqq_ hq_;rw [et6] at hR;replace h1 := decT h1;rw [kd] at hR;(try dsimp only at hR);refine qn ?_;refine jy (γ := (List Int)) (fun g => ([(1, .g (G.sl 7 (List.map S1079.c a1))), (5, .g (G.ref (S115.c a2))), (7, .eptr 7 1 0 0), (8, .g (G.sl 1 (List.map cInt ((s69 a2.Period).1)))), (31, .g (G.sl 11 (List.map S2062.c a0))), (32, .g (G.int (List.length a0 : Int))), (33, .g (G.int ((k4 : Nat) : Int)))], [(7, .arr 195 1 (List.map cInt g))])) (fun g => List.length g = 1441 ∧ qfv (fun k_ z0_ => kd a1 a2 t6 k_ z0_) k4 g = some R) ?_ ?_
   ·refine qq<|qb<|qa [.p, .p, .w, .w]<|su (z4 (f := S2062.c) (l := a0) (a := y5) U Tryz.underlying22 kq U U (Int.natCast_nonneg _) hx1) U<|su (qp U kq U U U) U<|sw (zh 11 U qub U U) U<|z7 U U (qw (tv := .g (G.agg (S2062.c y5))) U kq U U U U U)<|qc ?_;have hlok := hlim _ (List.mem_of_getElem? hx1);refine qb<|qb<|qa [.r, .p, .p, .p, .p, .p, .p]<|sr (zj U kq U U U U) U<|su (qd U qe2 U) U<|su (qg U ty9 U) U<|su (qd U qgn U) U<|su (qg U ty9 U) U<|su (qf U q45 U (q4u y5 a2.Kind a2.Terminal hlok.k) (qe U (qe U (qe U qj)))) U<|su (jn U U) U<|qc ?_;refine ql _ U (fun h5 => ?_) (fun h5 => ?_)
    ·replace hR := zm hR h5;refine zr ?_;exact ⟨U, x2, jA, ⟨U, O⟩, U, ⟨ln3, hR⟩, O⟩
    ·replace h5 : (!(qb0 y5 a2.Kind a2.Terminal)) = false := h5;replace hR := zn hR h5;(try simp only [bB] at h5);refine qn<|qb<|qa [.r, .p, .p, .w, .w]<|sr (zj U kq U U U U) U<|sm U U<|su (qf U q8g U (q41 y5 a1 hlok.k hms.sz hms.len) (qe U (qe U qj))) U<|sw (zh 12 U q8h U U) U<|z7 U U (qw (tv := .g (G.sl 1 (List.map cInt (ofL y5 a1)))) U qtf U U U U U)<|qc<|qb<|qa [.p, .w, .w]<|su (jc U qvh U q20 (z5 U kx) U) U<|sw (zh 13 U qvh U U) U<|z7 U U (qw (tv := .g (G.agg [G.int 0, G.int (-1), G.int 0])) U qlv U U U U U)<|qc<|qb<|qa [.p, .p, .p]<|sm U U<|su (qy (f := cInt) (l := (s69 a2.Period).1) U Tryz.underlying38 U) U<|sm U U<|qc<|qq<|za (γ := Nat × (List Int) × Int × Int × Int × (List Int)) (fun g => ([(1, .g (G.sl 7 (List.map S1079.c a1))), (5, .g (G.ref (S115.c a2))), (7, .eptr 7 1 0 0), (8, .g (G.sl 1 (List.map cInt ((s69 a2.Period).1)))), (11, .ptr 11 0), (12, .ptr 12 0), (13, .ptr 13 0), (31, .g (G.sl 11 (List.map S2062.c a0))), (32, .g (G.int (List.length a0 : Int))), (33, .g (G.int ((k4 : Nat) : Int))), (48, .g (G.sl 1 (List.map cInt ((s69 a2.Period).1)))), (49, .g (G.int (List.length ((s69 a2.Period).1) : Int))), (50, .g (G.int ((g.1 : Nat) : Int)))], [(7, .arr 195 1 (List.map cInt g.2.2.2.2.2)), (11, .box [.g (G.str y5.Name), .g (G.str y5.Kind), .g (G.str y5.Terminal), .g (G.int y5.Length), .g (G.int y5.Step), .g (G.int y5.fFrom), .g (G.int y5.fTo), .g (G.int y5.Period.fFrom), .g (G.int y5.Period.fTo), .g (G.int y5.Period.Days), .g (G.int y5.Most)]), (12, .box [.g (G.sl 1 (List.map cInt (ofL y5 a1)))]), (13, .box [.g (G.int g.2.2.1), .g (G.int g.2.2.2.1), .g (G.int g.2.2.2.2.1)])])) (fun g => List.length g.2.2.2.2.2 = 1441 ∧ ((s69 a2.Period).1).drop g.1 = g.2.1 ∧ vp (fun k_ z0_ => kd a1 a2 t6 k_ z0_) a1 k4 y5 g.2.1 g.1 g.2.2.1 g.2.2.2.1 g.2.2.2.2.1 g.2.2.2.2.2 = some R) (fun g => List.length g.2.1) ⟨U, (0, ((s69 a2.Period).1), 0, (-1), 0, x2), jA, jA, U, ⟨ln3, U, (by exact hR)⟩, O⟩ ?_
     ·rintro ⟨k23, u25, x18, x19, x20, x21⟩ ⟨ln22, hd, hR⟩;replace hd : ((s69 a2.Period).1).drop k23 = u25 := hd;replace hR : vp (fun k_ z0_ => kd a1 a2 t6 k_ z0_) a1 k4 y5 u25 k23 x18 x19 x20 x21 = some R := hR;replace ln22 : List.length x21 = 1441 := ln22;refine qb<|qa [.p]<|su (ze U U U) U<|qc ?_;refine zp (f := cInt) (l := (s69 a2.Period).1) 8 U fun hlz3 => ?_;refine qb ?_;refine ql _ U (fun h6 => ?_) (fun h6 => ?_)
      ·replace h6 : (decide (((k23 : Nat) : Int) < (List.length ((s69 a2.Period).1) : Int))) = true := h6;refine Exists.elim (zq hd (decT h6)) (fun y24 hq_ => ?_);refine Exists.elim hq_ (fun t25 hqq_ => ?_);have et25 := hqq_.1;have hx3 := hqq_.2.1;replace hd := hqq_.2.2;clear hqq_ hq_;rw [et25] at hR;replace h6 := decT h6;rw [vp] at hR;(try dsimp only at hR);refine qn<|qb<|qq<|qb<|qa [.p, .p, .w, .w]<|su (z4 (f := cInt) (l := (s69 a2.Period).1) (a := y24) U Tryz.underlying38 ty3 U U (Int.natCast_nonneg _) hx3) U<|su (qg U ty3 U) U<|sw (zh 15 U z3 U U) U<|z7 U U (qw (tv := .g (G.int y24)) U ty3 U U U U U)<|qc<|qb<|qa [.r, .p, .r, .p, .p]<|sr (zz U ty3 U U U) U<|su (ku U U U) U<|sr (zz U ty3 U U U) U<|su (qiw U zdi U Tryz.underlying174 ty3 (z5 U (z5 U kx)) U) U<|sm U U<|qc<|qq<|za (γ := Nat × Int × Int × Int × Int × (List Int)) (fun g => ([(1, .g (G.sl 7 (List.map S1079.c a1))), (5, .g (G.ref (S115.c a2))), (7, .eptr 7 1 0 0), (8, .g (G.sl 1 (List.map cInt ((s69 a2.Period).1)))), (11, .ptr 11 0), (12, .ptr 12 0), (13, .ptr 13 0), (15, .ptr 15 0), (31, .g (G.sl 11 (List.map S2062.c a0))), (32, .g (G.int (List.length a0 : Int))), (33, .g (G.int ((k4 : Nat) : Int))), (48, .g (G.sl 1 (List.map cInt ((s69 a2.Period).1)))), (49, .g (G.int (List.length ((s69 a2.Period).1) : Int))), (50, .g (G.int ((k23 : Nat) : Int))), (57, .g (G.agg [G.int (IntKind.i64.wrap (y24 - 1)), G.int y24])), (58, .g (G.int g.2.1))], [(7, .arr 195 1 (List.map cInt g.2.2.2.2.2)), (11, .box [.g (G.str y5.Name), .g (G.str y5.Kind), .g (G.str y5.Terminal), .g (G.int y5.Length), .g (G.int y5.Step), .g (G.int y5.fFrom), .g (G.int y5.fTo), .g (G.int y5.Period.fFrom), .g (G.int y5.Period.fTo), .g (G.int y5.Period.Days), .g (G.int y5.Most)]), (12, .box [.g (G.sl 1 (List.map cInt (ofL y5 a1)))]), (13, .box [.g (G.int g.2.2.1), .g (G.int g.2.2.2.1), .g (G.int g.2.2.2.2.1)]), (15, .box [.g (G.int y24)])])) (fun g => g.1 = ((2 : Int) - g.2.1).toNat ∧ 0 ≤ g.2.1 ∧ List.length g.2.2.2.2.2 = 1441 ∧ vg (fun k_ z0_ z1_ z2_ z3_ => vp (fun k_ z0_ => kd a1 a2 t6 k_ z0_) a1 k4 y5 t25 k_ z0_ z1_ z2_ z3_) a1 y5 k23 y24 g.1 g.2.1 g.2.2.1 g.2.2.2.1 g.2.2.2.2.1 g.2.2.2.2.2 = some R) (fun g => g.1) ⟨U, (((2 : Int) - 0).toNat, 0, x18, x19, x20, x21), jA, jA, U, ⟨U, iD, ln22, (by exact hR)⟩, O⟩ ?_
       ·rintro ⟨k33, x26, x27, x28, x29, x30⟩ ⟨hk4, iv4_0, ln31, hR⟩;replace hk4 : k33 = ((2 : Int) - x26).toNat := hk4;replace hR : vg (fun k_ z0_ z1_ z2_ z3_ => vp (fun k_ z0_ => kd a1 a2 t6 k_ z0_) a1 k4 y5 t25 k_ z0_ z1_ z2_ z3_) a1 y5 k23 y24 k33 x26 x27 x28 x29 x30 = some R := hR;replace iv4_0 : 0 ≤ x26 := iv4_0;replace ln31 : List.length x30 = 1441 := ln31;refine qb<|qa [.p]<|su (ze U U U) U<|qc<|qb ?_;refine ql _ U (fun h8 => ?_) (fun h8 => ?_)
        ·replace h8 : (decide (x26 < 2)) = true := h8;replace h8 := decT h8;obtain ⟨k33, hkq_⟩ : ∃ m, k33 = m + 1 := ⟨k33 - 1, by omega⟩;rw [hkq_] at hR;rw [vg] at hR;(try dsimp only at hR);refine qn<|qb<|qq<|qb ?_;obtain ⟨y34, by34, hR⟩ := qi hR;refine qa [.p, .p]<|su (qxc (c := G.int y34) U Tryz.underlying174 ty3 U U (jl by34) (q3q by34) (q6e by34)) U<|sa U U<|qc<|qb<|qa [.r, .p, .p]<|sr (zj U kq U U U U) U<|sm U U<|su (qf U q8i U (q42 y5 y34) (qe U (qe U qj))) U<|qc<|qq ?_;refine qjb (α := Int) (γ := Int × Int × Int × (List Int)) (enc := (Value.int .i64)) (l := [(1, .g (G.sl 7 (List.map S1079.c a1))), (5, .g (G.ref (S115.c a2))), (7, .eptr 7 1 0 0), (8, .g (G.sl 1 (List.map cInt ((s69 a2.Period).1)))), (11, .ptr 11 0), (12, .ptr 12 0), (13, .ptr 13 0), (15, .ptr 15 0), (31, .g (G.sl 11 (List.map S2062.c a0))), (32, .g (G.int (List.length a0 : Int))), (33, .g (G.int ((k4 : Nat) : Int))), (48, .g (G.sl 1 (List.map cInt ((s69 a2.Period).1)))), (49, .g (G.int (List.length ((s69 a2.Period).1) : Int))), (50, .g (G.int ((k23 : Nat) : Int))), (57, .g (G.agg [G.int (IntKind.i64.wrap (y24 - 1)), G.int y24])), (58, .g (G.int x26)), (63, .g (G.fn (.func 122) [] [G.ref [G.int y34], G.ref (S2062.c y5)]))]) (begL y5 y34) (fun g => [(7, .arr 195 1 (List.map cInt g.2.2.2)), (11, .box [.g (G.str y5.Name), .g (G.str y5.Kind), .g (G.str y5.Terminal), .g (G.int y5.Length), .g (G.int y5.Step), .g (G.int y5.fFrom), .g (G.int y5.fTo), .g (G.int y5.Period.fFrom), .g (G.int y5.Period.fTo), .g (G.int y5.Period.Days), .g (G.int y5.Most)]), (12, .box [.g (G.sl 1 (List.map cInt (ofL y5 a1)))]), (13, .box [.g (G.int g.1), .g (G.int g.2.1), .g (G.int g.2.2.1)]), (15, .box [.g (G.int y24)])]) (fun tl_ g => vy (fun z0_ z1_ z2_ z3_ z4_ => vg (fun k_ z0_ z1_ z2_ z3_ => vp (fun k_ z0_ => kd a1 a2 t6 k_ z0_) a1 k4 y5 t25 k_ z0_ z1_ z2_ z3_) a1 y5 k23 y24 k33 z0_ z1_ z2_ z3_ z4_) a1 y5 y24 x26 tl_ g.1 g.2.1 g.2.2.1 g.2.2.2 = some R ∧ List.length g.2.2.2 = 1441) (x27, x28, x29, x30) (fun g y40 => (upd 18 (.g (G.int y40)) (upd 64 (.g (G.int y40)) (xj [(1, .g (G.sl 7 (List.map S1079.c a1))), (5, .g (G.ref (S115.c a2))), (7, .eptr 7 1 0 0), (8, .g (G.sl 1 (List.map cInt ((s69 a2.Period).1)))), (11, .ptr 11 0), (12, .ptr 12 0), (13, .ptr 13 0), (15, .ptr 15 0), (31, .g (G.sl 11 (List.map S2062.c a0))), (32, .g (G.int (List.length a0 : Int))), (33, .g (G.int ((k4 : Nat) : Int))), (48, .g (G.sl 1 (List.map cInt ((s69 a2.Period).1)))), (49, .g (G.int (List.length ((s69 a2.Period).1) : Int))), (50, .g (G.int ((k23 : Nat) : Int))), (57, .g (G.agg [G.int (IntKind.i64.wrap (y24 - 1)), G.int y24])), (58, .g (G.int x26)), (63, .g (G.fn (.func 122) [] [G.ref [G.int y34], G.ref (S2062.c y5)]))])), [(7, .arr 195 1 (List.map cInt g.2.2.2)), (11, .box [.g (G.str y5.Name), .g (G.str y5.Kind), .g (G.str y5.Terminal), .g (G.int y5.Length), .g (G.int y5.Step), .g (G.int y5.fFrom), .g (G.int y5.fTo), .g (G.int y5.Period.fFrom), .g (G.int y5.Period.fTo), .g (G.int y5.Period.Days), .g (G.int y5.Most)]), (12, .box [.g (G.sl 1 (List.map cInt (ofL y5 a1)))]), (13, .box [.g (G.int g.1), .g (G.int g.2.1), .g (G.int g.2.2.1)]), (15, .box [.g (G.int y24)])])) U jA jA U U q8j (qi8 _ _ (by have := hlok.s0; omega)) G.int (fun _ _ _ => U) (by exact ⟨hR, ln31⟩) U (fun _ => U) (fun _ => U) ?_ (fun _ _ => U) ?_ ?_
         ·rintro y40 ⟨x35, x36, x37, x38⟩ lp_ w1_ M1_ x1_;refine qa [.p]<|sa U U<|qc ?_;exact ⟨U, U⟩
         ·rintro y40 t41 ⟨x35, x36, x37, x38⟩ hx5 ⟨hR, ln39⟩ lp_ w1_ M1_ x1_;replace hR : vy (fun z0_ z1_ z2_ z3_ z4_ => vg (fun k_ z0_ z1_ z2_ z3_ => vp (fun k_ z0_ => kd a1 a2 t6 k_ z0_) a1 k4 y5 t25 k_ z0_ z1_ z2_ z3_) a1 y5 k23 y24 k33 z0_ z1_ z2_ z3_ z4_) a1 y5 y24 x26 (y40 :: t41) x35 x36 x37 x38 = some R := hR;rw [vy] at hR;(try dsimp only at hR);have hbr := q2u hlok hx5;have hq0 := hlok.p0;have hq1 := hlok.p1;refine qq<|qb<|qa [.p, .p, .r, .p, .w, .w]<|sm U U<|su (zo U qkl U) U<|sr (zz U ty3 U U U) U<|su (jc U qvh U q20 (z5 U (z5 U kx)) U) U<|sw (zh 19 U qvh U U) U<|z7 U U (qw (tv := .g (G.agg [G.int 0, G.int y40, G.int x37])) U qlv U U U U U)<|qc ?_;refine jy (γ := Int × Int × Int × Int) (fun g => ([(1, .g (G.sl 7 (List.map S1079.c a1))), (5, .g (G.ref (S115.c a2))), (7, .eptr 7 1 0 0), (8, .g (G.sl 1 (List.map cInt ((s69 a2.Period).1)))), (11, .ptr 11 0), (12, .ptr 12 0), (13, .ptr 13 0), (15, .ptr 15 0), (18, .g (G.int y40)), (19, .ptr 19 0), (31, .g (G.sl 11 (List.map S2062.c a0))), (32, .g (G.int (List.length a0 : Int))), (33, .g (G.int ((k4 : Nat) : Int))), (48, .g (G.sl 1 (List.map cInt ((s69 a2.Period).1)))), (49, .g (G.int (List.length ((s69 a2.Period).1) : Int))), (50, .g (G.int ((k23 : Nat) : Int))), (57, .g (G.agg [G.int (IntKind.i64.wrap (y24 - 1)), G.int y24])), (58, .g (G.int x26)), (63, .g (G.fn (.func 122) [] [G.ref [G.int y34], G.ref (S2062.c y5)]))], [(7, .arr 195 1 (List.map cInt x38)), (11, .box [.g (G.str y5.Name), .g (G.str y5.Kind), .g (G.str y5.Terminal), .g (G.int y5.Length), .g (G.int y5.Step), .g (G.int y5.fFrom), .g (G.int y5.fTo), .g (G.int y5.Period.fFrom), .g (G.int y5.Period.fTo), .g (G.int y5.Period.Days), .g (G.int y5.Most)]), (12, .box [.g (G.sl 1 (List.map cInt (ofL y5 a1)))]), (13, .box [.g (G.int g.2.1), .g (G.int g.2.2.1), .g (G.int g.2.2.2)]), (15, .box [.g (G.int y24)]), (19, .box [.g (G.int 0), .g (G.int y40), .g (G.int g.1)])])) (fun g => qbp (fun z0_ z1_ z2_ z3_ => vy (fun z0_ z1_ z2_ z3_ z4_ => vg (fun k_ z0_ z1_ z2_ z3_ => vp (fun k_ z0_ => kd a1 a2 t6 k_ z0_) a1 k4 y5 t25 k_ z0_ z1_ z2_ z3_) a1 y5 k23 y24 k33 z0_ z1_ z2_ z3_ z4_) a1 y5 y24 x26 t41 z0_ z1_ z2_ z3_) y5 y24 x38 y40 g.1 g.2.1 g.2.2.1 g.2.2.2 = some R) ?_ ?_
          ·refine qb<|qa [.r, .r, .p]<|sr (zj U qlv U U U U) U<|sr (zj U qlv U U U U) U<|su (qs9 [.int .i64 x35, .int .i64 x36, .int .i64 x37] [.int .i64 0, .int .i64 y40, .int .i64 x37] U q1e U U U U U) U<|qc ?_;refine ql _ U (fun h12 => ?_) (fun h12 => ?_)
           ·replace h12 : (!(qit [decide (x35 = 0), decide (x36 = y40), decide (x37 = x37)])) = true := h12;replace hR := zm hR h12;(try simp only [bB] at h12);refine qb<|qa [.r, .p, .p, .r, .p, .p, .w]<|sr (zz U qtf U U U) U<|sm U U<|su (zo U qfn U) U<|sr (zz U ty3 U U U) U<|su (qf U q8k U (q4v (ofL y5 a1) y40 y5.Length (qi9 hms _) (qos (qja hms _) (qi9 hms _) (by omega) (by omega) (by have := hlok.l0; omega) hlok.l1)) (qe U (qe U (qe U qj)))) U<|su (zo U qkl U) U<|z7 U U (qw (tv := .g (G.int (cntI (ofL y5 a1) y40 y5.Length))) U ty3 U U U U U)<|qc<|qa [.r, .w]<|sr (zj U qlv U U U U) U<|z7 U U (qw (tv := .g (G.agg [G.int 0, G.int y40, G.int (cntI (ofL y5 a1) y40 y5.Length)])) U qlv U U U U U)<|qc ?_;exact ⟨U, (cntI (ofL y5 a1) y40 y5.Length, 0, y40, cntI (ofL y5 a1) y40 y5.Length), jA, jA, U, hR, O⟩
           ·replace hR := zn hR h12;refine qn ?_;exact ⟨U, (x37, x35, x36, x37), jA, jA, U, hR, O⟩
          ·rintro ⟨x42, x43, x44, x45⟩ hR;replace hR : qbp (fun z0_ z1_ z2_ z3_ => vy (fun z0_ z1_ z2_ z3_ z4_ => vg (fun k_ z0_ z1_ z2_ z3_ => vp (fun k_ z0_ => kd a1 a2 t6 k_ z0_) a1 k4 y5 t25 k_ z0_ z1_ z2_ z3_) a1 y5 k23 y24 k33 z0_ z1_ z2_ z3_ z4_) a1 y5 y24 x26 t41 z0_ z1_ z2_ z3_) y5 y24 x38 y40 x42 x43 x44 x45 = some R := hR;unfold qbp at hR;refine qb<|qb<|qa [.p, .r, .p, .r, .p]<|su (zo U qkl U) U<|sr (zz U ty3 U U U) U<|su (zo U qom U) U<|sr (zz U ty3 U U U) U<|su (ze U U U) U<|qc ?_;refine ql _ U (fun h10 => ?_) (fun h10 => ?_)
           ·replace hR := zm hR h10;refine zr ?_;exact ⟨(x43, x44, x45, x38), ⟨hR, ln39⟩, jA⟩
           ·replace h10 : (decide (x42 < y5.Most)) = false := h10;replace hR := zn hR h10;(try simp only [bB] at h10);refine qn<|qb<|zt [.p, .r, .p, .p, .p, .p, .p, .r, .p, .r, .p, .p, .p, .p, .p] (by kernel_rfl)<|sm U U<|sr (zz U ty3 U U U) U<|su (qdf U U U) U<|su (ku U U U) U<|su (qix U U U) U<|sm U U<|su (zo U qfn U) U<|sr (zz U ty3 U U U) U<|su (jo U U U) U<|sr (zz U ty3 U U U) U<|su (qdf U U U) U<|su (ku U U U) U<|su (qrr U U U) U<|sa U U<|sa U U<|qc<|qb<|qa [.p, .p, .p]<|sm U U<|sm U U<|su (ze U U U) U<|qc ?_;refine ql _ U (fun h11 => ?_) (fun h11 => ?_)
            ·replace hR := zm hR h11;refine qb ?_;obtain ⟨y46, by46, hR⟩ := qi hR;obtain ⟨y47, by47, hR⟩ := qi hR;refine qa [.p, .p, .r, .p, .p, .w]<|sm U U<|su (qc0 U Tryz.underlying195 ty3 U U (jl by46) (Nat.lt_of_lt_of_eq (jv (zk by46)) ln39)) U<|sr (qew (f := cInt) (l := x38) (a := y46) U ty3 U U (zk by46) U) U<|su (jo U U U) U<|su (qc0 U Tryz.underlying195 ty3 U U (jl by47) (Nat.lt_of_lt_of_eq (jv (zk by47)) ln39)) U<|z7 U U (qay (f := cInt) (l := x38) (a' := IntKind.i64.wrap (y46 + 1)) U ty3 U U U (Nat.lt_of_lt_of_eq (Nat.lt_of_lt_of_eq (jv (zk by47)) ln39) (Eq.symm ln39)) U (fun _ => U))<|qc ?_;obtain ⟨y48, by48, hR⟩ := qi hR;obtain ⟨y49, by49, hR⟩ := qi hR;refine qa [.p, .p, .r, .p, .p, .w]<|sm U U<|su (qc0 U Tryz.underlying195 ty3 U U (jl by48) (Nat.lt_of_lt_of_eq (jv (zk by48)) ((List.length_set ..).trans ln39))) U<|sr (qew (f := cInt) (l := List.set x38 (Int.toNat (max 0 (IntKind.i64.wrap (y40 - (IntKind.i64.wrap (1440 * y24)))))) (IntKind.i64.wrap (y46 + 1))) (a := y48) U ty3 U U (zk by48) U) U<|su (ku U U U) U<|su (qc0 U Tryz.underlying195 ty3 U U (jl by49) (Nat.lt_of_lt_of_eq (jv (zk by49)) ((List.length_set ..).trans ln39))) U<|z7 U U (qay (f := cInt) (l := List.set x38 (Int.toNat (max 0 (IntKind.i64.wrap (y40 - (IntKind.i64.wrap (1440 * y24)))))) (IntKind.i64.wrap (y46 + 1))) (a' := IntKind.i64.wrap (y48 - 1)) U ty3 U U U (Nat.lt_of_lt_of_eq (Nat.lt_of_lt_of_eq (jv (zk by49)) ((List.length_set ..).trans ln39)) (Eq.symm ((List.length_set ..).trans ln39))) U (fun _ => U))<|qc ?_;exact ⟨(x43, x44, x45, List.set (List.set x38 (Int.toNat (max 0 (IntKind.i64.wrap (y40 - (IntKind.i64.wrap (1440 * y24)))))) (IntKind.i64.wrap (y46 + 1))) (Int.toNat (min 1440 (IntKind.i64.wrap ((IntKind.i64.wrap (y40 + y5.Length)) - (IntKind.i64.wrap (1440 * y24)))))) (IntKind.i64.wrap (y48 - 1))), ⟨hR, ((List.length_set ..).trans ((List.length_set ..).trans ln39))⟩, jA⟩
            ·replace hR := zn hR h11;refine qn ?_;exact ⟨(x43, x44, x45, x38), ⟨hR, ln39⟩, jA⟩
         ·rintro ⟨x35, x36, x37, x38⟩ ⟨hR, ln39⟩;replace hR : vy (fun z0_ z1_ z2_ z3_ z4_ => vg (fun k_ z0_ z1_ z2_ z3_ => vp (fun k_ z0_ => kd a1 a2 t6 k_ z0_) a1 k4 y5 t25 k_ z0_ z1_ z2_ z3_) a1 y5 k23 y24 k33 z0_ z1_ z2_ z3_ z4_) a1 y5 y24 x26 [] x35 x36 x37 x38 = some R := hR;rw [vy] at hR;(try dsimp only at hR);refine qa [.p, .p]<|su (zl U U U iG) U<|sm U U<|qc ?_;exact ⟨U, (k33, x26 + 1, x35, x36, x37, x38), jA, jA, U, ⟨iB, iB, ln39, hR⟩, (by dsimp only; omega)⟩
        ·replace h8 : (decide (x26 < 2)) = false := h8;replace h8 := decF h8
         have hkz_ : k33 = 0 := by omega
         rw [hkz_] at hR;rw [vg] at hR;refine zr<|qa [.p, .p]<|su (zl U U U iE) U<|sm U U<|qc ?_;exact ⟨U, (k23 + 1, t25, x27, x28, x29, x30), jA, jA, U, ⟨ln31, hd, hR⟩, by simp [et25]⟩
      ·replace h6 : (decide (((k23 : Nat) : Int) < (List.length ((s69 a2.Period).1) : Int))) = false := h6;have hn_ := zu hd (decF h6);rw [hn_] at hR;rw [vp] at hR;refine zr ?_;exact ⟨U, x21, jA, ⟨U, O⟩, U, ⟨ln22, hR⟩, O⟩
   ·rintro x15 ⟨ln16, hR⟩;replace ln16 : List.length x15 = 1441 := ln16;replace hR : qfv (fun k_ z0_ => kd a1 a2 t6 k_ z0_) k4 x15 = some R := hR;unfold qfv at hR;refine qa [.p, .p]<|su (zl U U U iE) U<|sm U U<|qc ?_;exact ⟨U, (k4 + 1, t6, x15), jA, ⟨U, O⟩, U, ⟨ln16, hd, hR⟩, by simp [et6]⟩
  ·replace h1 : (decide (((k4 : Nat) : Int) < (List.length a0 : Int))) = false := h1;have hn_ := zu hd (decF h1);rw [hn_] at hR;rw [kd] at hR;refine zr<|qb<|qa [.w, .p, .p] ?_;refine sw (qmf (f := cBool) (a := false) 113 U q1d U (by decide) U U) U ?_;refine su (qc8 U U) U<|sa U U<|qc<|qb<|qb<|qa [.p]<|sm U U<|qc<|qq<|za (γ := Nat × Int × Int × (List Bool)) (fun g => ([(7, .eptr 7 1 0 0), (22, .eptr 113 1 0 0), (23, .g (G.int g.2.1)), (114, .g (G.int g.2.2.1))], [(7, .arr 195 1 (List.map cInt x2)), (113, .arr 198 1 (List.map cBool g.2.2.2))])) (fun g => g.1 = ((1440 : Int) - g.2.2.1).toNat ∧ 0 ≤ g.2.2.1 ∧ List.length g.2.2.2 = 1440 ∧ qa2 x2 g.1 g.2.1 g.2.2.1 g.2.2.2 = some R) (fun g => g.1) ⟨U, (((1440 : Int) - 0).toNat, 0, 0, List.replicate 1440 false), jA, ⟨U, U, O⟩, U, ⟨U, iD, List.length_replicate, (by exact hR)⟩, O⟩ ?_
   ·rintro ⟨k12, x7, x8, x9⟩ ⟨hk2, iv2_0, ln10, hR⟩;replace hk2 : k12 = ((1440 : Int) - x8).toNat := hk2;replace hR : qa2 x2 k12 x7 x8 x9 = some R := hR;replace iv2_0 : 0 ≤ x8 := iv2_0;replace ln10 : List.length x9 = 1440 := ln10;refine qb<|qa [.p]<|su (ze U U U) U<|qc<|qb ?_;refine ql _ U (fun h3 => ?_) (fun h3 => ?_)
    ·replace h3 : (decide (x8 < 1440)) = true := h3;replace h3 := decT h3;obtain ⟨k12, hkq_⟩ : ∃ m, k12 = m + 1 := ⟨k12 - 1, by omega⟩;rw [hkq_] at hR;rw [qa2] at hR;(try dsimp only at hR);refine qn<|qb<|qq<|qb<|qa [.p, .p]<|sm U U<|sa U U<|qc<|qb ?_;obtain ⟨y13, by13, hR⟩ := qi hR;refine qa [.p, .p, .p, .r, .p, .p]<|sm U U<|sm U U<|su (qc0 U Tryz.underlying195 ty3 U U (jl by13) (Nat.lt_of_lt_of_eq (jv (zk by13)) ln3)) U<|sr (qew (f := cInt) (l := x2) (a := y13) U ty3 U U (zk by13) U) U<|su (jo U U U) U<|sa U U<|qc ?_;obtain ⟨y14, by14, hR⟩ := qi hR;refine qa [.p, .p, .p, .p, .p, .p, .w]<|su (vu U U) U<|sm U U<|sm U U<|su (z6 U U U) U<|su (wi U U) U<|su (qc0 U Tryz.underlying198 ty4 U U (jl by14) (Nat.lt_of_lt_of_eq (jv (zk by14)) ln10)) U<|z7 U U (qay (f := cBool) (l := x9) (a' := decide (0 < IntKind.i64.wrap (x7 + y13))) U ty4 U U U (Nat.lt_of_lt_of_eq (Nat.lt_of_lt_of_eq (jv (zk by14)) ln10) (Eq.symm ln10)) U (fun _ => U))<|qc<|qa [.p, .p]<|su (zl U U U iG) U<|sm U U<|qc ?_;exact ⟨U, (k12, IntKind.i64.wrap (x7 + y13), x8 + 1, List.set x9 (Int.toNat x8) (decide (0 < IntKind.i64.wrap (x7 + y13)))), jA, ⟨U, U, O⟩, U, ⟨iB, iB, ((List.length_set ..).trans ln10), hR⟩, (by dsimp only; omega)⟩
    ·replace h3 : (decide (x8 < 1440)) = false := h3;replace h3 := decF h3
     have hkz_ : k12 = 0 := by omega
     rw [hkz_] at hR;rw [qa2] at hR;refine zr<|qb<|qa [.p, .p]<|su (vu U U) U<|su (qc8 U U) U<|qc<|qo ?_;obtain rfl := Option.some.inj hR;exact zb U (q6f U U)
theorem q5e {a0 : List S2062} {a1 : List S1079} {a2 : S115} {r : Int} (hl : a1.length ≤ 1000) (h : qi7 a0 a1 = some r) (h1 : ¬ vo [r, qbz a2] ≠ 0) : a0.length ≤ 32 ∧ (∀ x ∈ a0, LimOk x) ∧ MsOk a1 ∧ (∀ m ∈ a1, MvOk m) ∧ s102 a2.Period = 0 := by
 have h3 := jx.1 (Decidable.not_not.1 h1);have h4 : r = 0 := h3 r (by simp);obtain ⟨h5, h6, h7, h8⟩ := qr1 hl h (by rw [h4]; simp);refine ⟨h5, h6, h7, h8, ?_⟩;have h9 : qbz a2 = 0 := h3 _ (by simp);exact qx2 (by rw [h9]; simp)
theorem qm5 (x2 : List Int) : ∀ (k : Nat) (x7 x8 : Int) (l r : List Bool), qa2 x2 k x7 x8 l = some r → r.length = l.length
 | 0, _, _, _, _, h => by rw [qa2] at h; cases h; rfl
 | k + 1, x7, x8, l, r, h => by
  rw [qa2] at h;obtain ⟨y1, _, h⟩ := qi h;obtain ⟨y2, _, h⟩ := qi h;have := qm5 x2 k _ _ _ _ h
  simpa using this
section
variable {N : Nat}
theorem qm6 {rec5 : Int → Int → Int → List Int → Option (List Bool)} (hr : ∀ a b c l r, rec5 a b c l = some r → r.length = N) {y5 : S2062} {y22 : Int} {x36 : List Int} {y38 x40 x41 x42 x43 : Int} {r : List Bool} (h : qbp rec5 y5 y22 x36 y38 x40 x41 x42 x43 = some r) : r.length = N := by
 unfold qbp at h;rw [cond_eq_ite] at h
 split at h
 ·exact hr _ _ _ _ _ h
 ·rw [cond_eq_ite] at h
  split at h
  ·obtain ⟨_, _, h⟩ := qi h;obtain ⟨_, _, h⟩ := qi h;obtain ⟨_, _, h⟩ := qi h;obtain ⟨_, _, h⟩ := qi h;exact hr _ _ _ _ _ h
  ·exact hr _ _ _ _ _ h
theorem qjd {rec4 : Int → Int → Int → Int → List Int → Option (List Bool)} (hr : ∀ x a b c l r, rec4 x a b c l = some r → r.length = N) {a1 : List S1079} {y5 : S2062} {y22 x24 : Int} : ∀ (t : List Int) (a b c : Int) (l : List Int) (r : List Bool), vy rec4 a1 y5 y22 x24 t a b c l = some r → r.length = N
 | [], _, _, _, _, _, h => by rw [vy] at h; exact hr _ _ _ _ _ _ h
 | y :: t, a, b, c, l, r, h => by
  rw [vy] at h;rw [cond_eq_ite] at h
  split at h
  ·exact qm6 (fun a b c l r h => qjd hr t a b c l r h) h
  ·exact qm6 (fun a b c l r h => qjd hr t a b c l r h) h
theorem qm7 {rec3 : Nat → Int → Int → Int → List Int → Option (List Bool)} (hr : ∀ x a b c l r, rec3 x a b c l = some r → r.length = N) {a1 : List S1079} {y5 : S2062} {k21 : Nat} {y22 : Int} : ∀ (k : Nat) (x a b c : Int) (l : List Int) (r : List Bool), vg rec3 a1 y5 k21 y22 k x a b c l = some r → r.length = N
 | 0, _, _, _, _, _, _, h => by rw [vg] at h; exact hr _ _ _ _ _ _ h
 | k + 1, x, a, b, c, l, r, h => by
  rw [vg] at h;obtain ⟨_, _, h⟩ := qi h;exact qjd (fun x a b c l r h => qm7 hr k x a b c l r h) _ _ _ _ _ _ h
theorem qm8 {rec1 : Nat → List Int → Option (List Bool)} (hr : ∀ x l r, rec1 x l = some r → r.length = N) {a1 : List S1079} {k4 : Nat} {y5 : S2062} : ∀ (t : List Int) (k : Nat) (a b c : Int) (l : List Int) (r : List Bool), vp rec1 a1 k4 y5 t k a b c l = some r → r.length = N
 | [], _, _, _, _, _, _, h => by rw [vp] at h; exact hr _ _ _ h
 | y :: t, k, a, b, c, l, r, h => by
  rw [vp] at h;exact qm7 (fun x a b c l r h => qm8 hr t x a b c l r h) _ _ _ _ _ _ _ h
end
theorem qje (a1 : List S1079) (a2 : S115) : ∀ (t : List S2062) (k : Nat) (l : List Int) (r : List Bool), kd a1 a2 t k l = some r → r.length = 1440
 | [], _, l, r, h => by
  rw [kd] at h;have := qm5 _ _ _ _ _ _ h;rw [this, List.length_replicate]
 | y :: t, k, l, r, h => by
  rw [kd] at h;rw [cond_eq_ite] at h
  split at h
  ·exact qje a1 a2 t _ _ _ h
  ·exact qm8 (fun x l r h => qje a1 a2 t x l r h) _ _ _ _ _ _ _ h
theorem qx3 {a0 : List S2062} {a1 : List S1079} {a2 : S115} {r : List Bool} (h : qr4 a0 a1 a2 = some r) : r.length = 1440 := qje a1 a2 a0 0 _ _ h
def q1f (a0 : List S2062) (a1 : List S1079) (a2 : S115) : Option (Bool × Int) :=
 qz (qi7 a0 a1) fun r1 => (bif decide ((vo [r1, (qbz a2)]) ≠ 0) then some (false, (vo [r1, (qbz a2)])) else qz (qr4 a0 a1 a2) fun r2 => qz (qr2 r2 a2.Minute) fun r3 => some (r3, 0))
theorem zdj {g : GL} (a0 : List S2062) (a1 : List S1079) (a2 : S115) {R : Bool × Int}  (hb : a1.length ≤ 1000) (hR : q1f a0 a1 a2 = some R) : Con (EG g) 156 [G.sl 11 (List.map S2062.c a0), G.sl 7 (List.map S1079.c a1), G.agg (S115.c a2)] (G.tup [G.bool R.1, G.int R.2]) := by
 unfold q1f at hR;refine qm Tryz.func156 U U fun w0 M0 => ?_;refine zp (f := S2062.c) (l := a0) 0 U fun hla0 => ?_;refine zp (f := S1079.c) (l := a1) 1 U fun hla1 => ?_;refine qb<|qa [.p, .p, .p]<|su (zg U U) U<|sa U U<|sa U U<|qc<|qb<|qb ?_;obtain ⟨r1, br1, hR⟩ := qi hR;refine zt [.p, .p, .p, .p, .p, .p, .p, .p] (by kernel_rfl)<|sm U U<|sm U U<|su (qf U q4x U (q4y a0 a1 br1) (qe U (qe U qj))) U<|su (qp U w5 U U U) U<|su (qf U q4z U (q4r a2) (qe U qj)) U ?_;refine su (qt U Tryz.underlying170 ty37 z37 U (qv U (qv U jh)) U (by simp []) (by decide)) U ?_;refine su (qf U qj3 U (qj0 [r1, (qbz a2)]) (qe U qj)) U<|sa U U<|qc<|qb<|qa [.p, .p]<|sm U U<|su (zx U U U) U<|qc ?_;refine ql _ U (fun h1 => ?_) (fun h1 => ?_)
 ·replace h1 : (decide ((vo [r1, (qbz a2)]) ≠ 0)) = true := h1;replace hR := zm hR h1;(try simp only [bB] at h1);refine qb<|qa [.p, .p, .p]<|sm U U<|sa U U<|sa U U<|qc<|qo ?_;obtain rfl := Option.some.inj hR;exact resN U ⟨rv_g U, rv_g U, O⟩ (by simp)
 ·replace h1 : (decide ((vo [r1, (qbz a2)]) ≠ 0)) = false := h1;replace hR := zn hR h1;(try simp only [bB] at h1);obtain ⟨hlen, hlim, hms, hmv, hrq⟩ := q5e hb br1 h1;refine qn<|qb ?_;obtain ⟨r2, br2, hR⟩ := qi hR;refine qa [.p, .p, .p, .p, .p]<|sm U U<|sm U U<|su (qp U w5 U U U) U<|su (qf U q78 U (q79 a0 a1 a2 (by omega) hlim hms hrq br2) (qe U (qe U (qe U qj)))) U<|sa U U<|qc<|qb ?_;obtain ⟨r3, br3, hR⟩ := qi hR;refine qa [.p, .p, .p, .p, .p, .p]<|sm U U<|su (qd U qi1 U) U<|su (qg U ty3 U) U<|su (qf U q8a U (q8b r2 a2.Minute (qx3 br2) br3) (qe U (qe U qj))) U<|sa U U<|sa U U<|qc<|qo ?_;obtain rfl := Option.some.inj hR;exact resN U ⟨rv_g U, rv_g U, O⟩ (by simp)
def qyj (a0 : List S2062) (a1 : List S1079) (a2 : S115) : Option Bool :=
 qz (q1f a0 a1 a2) fun r1 => some ((decide (r1.2 = 0)) && r1.1)
theorem zdk {g : GL} (a0 : List S2062) (a1 : List S1079) (a2 : S115) {R : Bool}  (hb : a1.length ≤ 1000) (hR : qyj a0 a1 a2 = some R) : Con (EG g) 110 [G.sl 11 (List.map S2062.c a0), G.sl 7 (List.map S1079.c a1), G.agg (S115.c a2)] (G.bool R) := by
 unfold qyj at hR;refine qm Tryz.func110 U U fun w0 M0 => ?_;refine zp (f := S2062.c) (l := a0) 0 U fun hla0 => ?_;refine zp (f := S1079.c) (l := a1) 1 U fun hla1 => ?_;refine qb<|qa [.p, .p]<|su (zg U U) U<|sa U U<|qc<|qb ?_;obtain ⟨r1, br1, hR⟩ := qi hR;refine qa [.p, .p, .p, .p, .p, .p, .p, .p, .p]<|sm rfl rfl<|sm rfl rfl<|su (qp rfl w5 rfl rfl rfl) rfl<|su (qf rfl zdl rfl (zdj a0 a1 a2 (by first | assumption | omega | (simp [qh]; done) | (simp [qh]; omega)) br1) (qe rfl (qe rfl (qe rfl qj)))) rfl<|sm rfl rfl<|su (qu rfl rfl rfl) rfl<|su (qu rfl rfl rfl) rfl<|sa rfl rfl<|sa rfl rfl<|qc<|qb<|qa [.p, .p, .p, .p, .p, .p]<|sm rfl rfl<|su (jq rfl rfl rfl) rfl<|sm rfl rfl<|sg rfl rfl (fun h => qk rfl rfl) rfl<|su (zy rfl rfl rfl rfl) rfl<|sa rfl rfl<|qc<|qo ?_;obtain rfl := Option.some.inj hR;exact zb U (rv_g U)
def q1g (a0 : S5042) (a1 : List S2062) (a2 : S115) : Option (S5042 × Int) :=
 (bif decide ((j7 [(qec a2), (jg (qlw a0 a2.Name) 9), (jg (decide (64 ≤ (List.length a0.Slots : Int))) 5)]) ≠ 0) then some ((S5042.mk [] []), (j7 [(qec a2), (jg (qlw a0 a2.Name) 9), (jg (decide (64 ≤ (List.length a0.Slots : Int))) 5)])) else qz (qgg a0 (-1)) fun r1 => qz (qyj a1 r1 a2) fun r2 => (bif !r2 then some ((S5042.mk [] []), 14) else qz (qoz a0) fun r3 => some ((S5042.mk (r3.Slots ++ [(S5100.mk (S115.mk a2.Name a2.Carrier a2.Kind a2.Terminal a2.Partner a2.Link (S45.mk a2.Period.fFrom a2.Period.fTo a2.Period.Days) a2.Minute a2.Seats a2.Size a2.Noise) a2.Carrier [] [])]) r3.Waiting), 0)))
theorem zdm {g : GL} (a0 : S5042) (a1 : List S2062) (a2 : S115) {R : S5042 × Int}  (hb : a0.Slots.length ≤ 1000) (hb1 : a0.Waiting.length ≤ 1000) (hmv : ∀ r, qgg a0 (-1) = some r → r.length ≤ 1000) (hR : q1g a0 a1 a2 = some R) : Con (EG g) 51 [G.agg [G.sl 16 (List.map S5100.c a0.Slots), G.sl 14 (List.map S5072.c a0.Waiting)], G.sl 11 (List.map S2062.c a1), G.agg (S115.c a2)] (G.tup [G.agg [G.sl 16 (List.map S5100.c R.1.Slots), G.sl 14 (List.map S5072.c R.1.Waiting)], G.int R.2]) := by
 unfold q1g at hR;refine qm Tryz.func51 U U fun w0 M0 => ?_;refine zp (f := S2062.c) (l := a1) 1 U fun hla1 => ?_;refine qb<|qa [.p, .p, .w, .p]<|su (zg U U) U<|su (zg U U) U<|sw (zh 6 U xg U U) U<|sa U U<|qc<|qb<|qb<|zt [.p, .p, .p, .p, .p, .p, .p, .p, .p, .p, .p, .p, .p, .p, .p] (by kernel_rfl)<|su (qp U w5 U U U) U<|su (qf U q5f U (q5g a2) (qe U qj)) U<|su (qp U zi U U U) U<|su (qd U vh U) U<|su (qg U ty9 U) U<|su (qf U zdn U (zde a0 a2.Name) (qe U (qe U qj))) U<|su (qf U qdc U (qdd (qlw a0 a2.Name) 9) (qe U (qe U qj))) U<|su (qd U xe U) U<|su (qg U qbt U) U<|su (qy (f := S5100.c) (l := a0.Slots) U Tryz.underlying40 U) U<|su (w4 U U U) U<|su (qf U qdc U (qdd (decide (64 ≤ (List.length a0.Slots : Int))) 5) (qe U (qe U qj))) U ?_;refine su (qt U Tryz.underlying170 ty37 z37 U (qv U (qv U (qv U jh))) U (by simp []) (by decide)) U ?_;refine su (qf U qe5 U (qe6 [(qec a2), (jg (qlw a0 a2.Name) 9), (jg (decide (64 ≤ (List.length a0.Slots : Int))) 5)]) (qe U qj)) U<|sa U U<|qc<|qb<|qa [.p, .p]<|sm U U<|su (zx U U U) U<|qc ?_;refine ql _ U (fun h1 => ?_) (fun h1 => ?_)
 ·replace h1 : (decide ((j7 [(qec a2), (jg (qlw a0 a2.Name) 9), (jg (decide (64 ≤ (List.length a0.Slots : Int))) 5)]) ≠ 0)) = true := h1;replace hR := zm hR h1;(try simp only [bB] at h1);refine qb<|qa [.p, .p, .w, .p]<|su (qg7 (x := G.agg [G.lit (.slice none 0 0), G.lit (.slice none 0 0)]) (y := G.agg [G.sl 16 (List.map S5100.c []), G.sl 14 (List.map S5072.c [])]) (jc U xg U qa8 kx U) (qaj ⟨jz 16, jz 14, O⟩)) U<|sm U U<|z7 U U (qw (tv := .g (G.agg [G.sl 16 (List.map S5100.c []), G.sl 14 (List.map S5072.c [])])) U zi U U U U U)<|sa U U<|qc<|qo ?_;obtain rfl := Option.some.inj hR;exact resN U ⟨kr U U zi U U, rv_g U, O⟩ (by simp)
 ·replace h1 : (decide ((j7 [(qec a2), (jg (qlw a0 a2.Name) 9), (jg (decide (64 ≤ (List.length a0.Slots : Int))) 5)]) ≠ 0)) = false := h1;replace hR := zn hR h1;(try simp only [bB] at h1);refine qn<|qb<|qb ?_;obtain ⟨r1, br1, hR⟩ := qi hR;obtain ⟨r2, br2, hR⟩ := qi hR;refine zt [.p, .p, .p, .p, .p, .p] (by kernel_rfl)<|sm U U<|su (qp U zi U U U) U<|su (qf U q8z U (q80 a0 (-1) U (by omega) br1) (qe U (qe U qj))) U<|su (qp U w5 U U U) U<|su (qf U zdo U (zdk a1 r1 a2 (hmv _ br1) br2) (qe U (qe U (qe U qj)))) U<|su (jn U U) U<|qc ?_;refine ql _ U (fun h2 => ?_) (fun h2 => ?_)
  ·replace h2 : (!r2) = true := h2;replace hR := zm hR h2;(try simp only [bB] at h2);refine qb<|qa [.p, .w, .p]<|su (qg7 (x := G.agg [G.lit (.slice none 0 0), G.lit (.slice none 0 0)]) (y := G.agg [G.sl 16 (List.map S5100.c []), G.sl 14 (List.map S5072.c [])]) (jc U xg U qa8 kx U) (qaj ⟨jz 16, jz 14, O⟩)) U<|z7 U U (qw (tv := .g (G.agg [G.sl 16 (List.map S5100.c []), G.sl 14 (List.map S5072.c [])])) U zi U U U U U)<|sa U U<|qc<|qo ?_;obtain rfl := Option.some.inj hR;exact resN U ⟨kr U U zi U U, rv_g U, O⟩ (by simp)
  ·replace h2 : (!r2) = false := h2;replace hR := zn hR h2;(try simp only [bB] at h2);refine qn<|qb ?_;obtain ⟨r3, br3, hR⟩ := qi hR;refine qa [.p, .w, .w, .w]<|su (qp rfl zi rfl rfl rfl) rfl<|sw (qij (f0 := S5100.c) (l := r3.Slots) 36 rfl q5h rfl (qyk a0 (by first | assumption | omega | (simp [qh]; done) | (simp [qh]; omega)) (by first | assumption | omega | (simp [qh]; done) | (simp [qh]; omega)) br3) (qe rfl qj) rfl) rfl<|sw (zh 9 rfl xg rfl rfl) rfl<|z7 rfl rfl (qw (tv := .agl [] 36 16 (List.length r3.Slots) [G.sl 14 (List.map S5072.c r3.Waiting)]) rfl zi rfl rfl rfl rfl rfl)<|qc ?_
   have hl3 : r3.Slots.length ≤ 1000 := by rw [qo0 br3]; exact hb
   refine qb<|qa [.p, .r, .p, .p, .p, .p, .p, .k, .p, .w]<|su (zo U xe U) U<|sr (zz U qbt U U U) U<|su (qp U w5 U U U) U<|su (qd U qk2 U) U<|su (qg U ty9 U) U<|su (qg7 (x := G.agg [G.str a2.Name, G.str a2.Carrier, G.str a2.Kind, G.str a2.Terminal, G.str a2.Partner, G.str a2.Link, G.int a2.Period.fFrom, G.int a2.Period.fTo, G.int a2.Period.Days, G.int a2.Minute, G.int a2.Seats, G.int a2.Size, G.int a2.Noise, G.str a2.Carrier, G.lit (.slice none 0 0), G.lit (.slice none 0 0)]) (y := G.agg [G.str a2.Name, G.str a2.Carrier, G.str a2.Kind, G.str a2.Terminal, G.str a2.Partner, G.str a2.Link, G.int a2.Period.fFrom, G.int a2.Period.fTo, G.int a2.Period.Days, G.int a2.Minute, G.int a2.Seats, G.int a2.Size, G.int a2.Noise, G.str a2.Carrier, G.sl 3 (List.map S5102.c []), G.sl 1 (List.map cStr [])]) (jc U qhl U q2e (z5 U (z5 U kx)) U) (qaj ⟨xw _, xw _, xw _, xw _, xw _, xw _, xw _, xw _, xw _, xw _, xw _, xw _, xw _, xw _, jz 3, jz 1, O⟩)) U ?_;refine su (qt U Tryz.underlying40 ko qhl U (qv U jh) U (by exact lens rfl) (by decide)) U ?_;refine st_k U U (qc1 9 0 U (ve (f := S5100.c) (out := r3.Slots) (new := [(S5100.mk (S115.mk a2.Name a2.Carrier a2.Kind a2.Terminal a2.Partner a2.Link (S45.mk a2.Period.fFrom a2.Period.fTo a2.Period.Days) a2.Minute a2.Seats a2.Size a2.Noise) a2.Carrier [] [])]) U qk4 U U (wx U (wy (by decide) (by simp [S5100.c, S115.c, S45.c, S5102.c]))) (qrf U) (by simp; omega))) U ?_;refine su (zo U xe U) U<|z7 U U (qw (tv := .osl 36 16 0 (List.length (r3.Slots ++ [(S5100.mk (S115.mk a2.Name a2.Carrier a2.Kind a2.Terminal a2.Partner a2.Link (S45.mk a2.Period.fFrom a2.Period.fTo a2.Period.Days) a2.Minute a2.Seats a2.Size a2.Noise) a2.Carrier [] [])]))) U qbt U U U U U)<|qc<|qb<|qba (l := [(6, .ptr 6 0), (9, .ptr 9 0)]) (m := [(6, .box [.g (G.lit (.slice none 0 0)), .g (G.lit (.slice none 0 0))]), (9, .box [.g (G.sl 16 (List.map S5100.c (r3.Slots ++ [(S5100.mk (S115.mk a2.Name a2.Carrier a2.Kind a2.Terminal a2.Partner a2.Link (S45.mk a2.Period.fFrom a2.Period.fTo a2.Period.Days) a2.Minute a2.Seats a2.Size a2.Noise) a2.Carrier [] [])]))), .g (G.sl 14 (List.map S5072.c r3.Waiting))])]) 9 0 36 16 _ U U U ((List.length_map ..).trans U) ⟨U, U, O⟩ ⟨U, U, O⟩ U U<|qa [.r, .w, .p]<|sr (zj U zi U U U U) U<|z7 U U (qw (tv := .g (G.agg [G.sl 16 (List.map S5100.c (r3.Slots ++ [(S5100.mk (S115.mk a2.Name a2.Carrier a2.Kind a2.Terminal a2.Partner a2.Link (S45.mk a2.Period.fFrom a2.Period.fTo a2.Period.Days) a2.Minute a2.Seats a2.Size a2.Noise) a2.Carrier [] [])])), G.sl 14 (List.map S5072.c r3.Waiting)])) U zi U U U U U)<|sa U U<|qc<|qo ?_;obtain rfl := Option.some.inj hR;exact resN U ⟨kr U U zi U U, rv_g U, O⟩ (by simp)
def qnx (a0 : List S2062) (a1 : S5042) (a2 : S115) : Option (S5042 × Int) :=
 qz (qjy a1) fun r1 => (bif decide ((j7 [(qbv a0), r1]) ≠ 0) then some ((S5042.mk [] []), (j7 [(qbv a0), r1])) else qz (q1g a1 a0 a2) fun r2 => some (r2.1, r2.2))
theorem q6w {g : GL} (a0 : List S2062) (a1 : S5042) (a2 : S115) {R : S5042 × Int}  (hb : a1.Slots.length ≤ 1000) (hb1 : a1.Waiting.length ≤ 1000) (hmv : ∀ r, qgg a1 (-1) = some r → r.length ≤ 1000) (hR : qnx a0 a1 a2 = some R) : Con (EG g) 18 [G.sl 11 (List.map S2062.c a0), G.agg [G.sl 16 (List.map S5100.c a1.Slots), G.sl 14 (List.map S5072.c a1.Waiting)], G.agg (S115.c a2)] (G.tup [G.agg [G.sl 16 (List.map S5100.c R.1.Slots), G.sl 14 (List.map S5072.c R.1.Waiting)], G.int R.2]) := by
 unfold qnx at hR;refine qm Tryz.func18 U U fun w0 M0 => ?_;refine zp (f := S2062.c) (l := a0) 0 U fun hla0 => ?_;refine qb<|qa [.p, .p, .w, .p]<|su (zg U U) U<|su (zg U U) U<|sw (zh 6 U xg U U) U<|sa U U<|qc<|qb<|qb ?_;obtain ⟨r1, br1, hR⟩ := qi hR;refine zt [.p, .p, .p, .p, .p, .p, .p] (by kernel_rfl)<|sm U U<|su (qf U q8r U (q7v a0) (qe U qj)) U<|su (qp U zi U U U) U<|su (qf U qq8 U (qq9 a1 br1) (qe U qj)) U ?_;refine su (qt U Tryz.underlying170 ty37 z37 U (qv U (qv U jh)) U (by simp []) (by decide)) U ?_;refine su (qf U qe5 U (qe6 [(qbv a0), r1]) (qe U qj)) U<|sa U U<|qc<|qb<|qa [.p, .p]<|sm U U<|su (zx U U U) U<|qc ?_;refine ql _ U (fun h1 => ?_) (fun h1 => ?_)
 ·replace h1 : (decide ((j7 [(qbv a0), r1]) ≠ 0)) = true := h1;replace hR := zm hR h1;(try simp only [bB] at h1);refine qb<|qa [.p, .p, .w, .p]<|su (jc U xg U qa8 kx U) U<|sm U U<|z7 U U (qw (tv := .g (G.agg [G.lit (.slice none 0 0), G.lit (.slice none 0 0)])) U zi U U U U U)<|sa U U<|qc<|qo ?_;obtain rfl := Option.some.inj hR;exact resN U ⟨qf4 (kr U U zi U U) (qaj ⟨jz _, jz _, O⟩), rv_g U, O⟩ (by simp)
 ·replace h1 : (decide ((j7 [(qbv a0), r1]) ≠ 0)) = false := h1;replace hR := zn hR h1;(try simp only [bB] at h1);refine qn<|qb ?_;obtain ⟨r2, br2, hR⟩ := qi hR;refine qa [.p, .p, .p, .p, .p, .p, .w, .p]<|su (qp rfl zi rfl rfl rfl) rfl<|sm rfl rfl<|su (qp rfl w5 rfl rfl rfl) rfl<|su (qf rfl zdp rfl (zdm a1 a0 a2 (by first | assumption | omega | (simp [qh]; done) | (simp [qh]; omega)) (by first | assumption | omega | (simp [qh]; done) | (simp [qh]; omega)) (by first | assumption | omega | (simp [qh]; done) | (simp [qh]; omega)) br2) (qe rfl (qe rfl (qe rfl qj)))) rfl<|su (qu rfl rfl rfl) rfl<|su (qu rfl rfl rfl) rfl<|z7 rfl rfl (qw (tv := .g (G.agg [G.sl 16 (List.map S5100.c r2.1.Slots), G.sl 14 (List.map S5072.c r2.1.Waiting)])) rfl zi rfl rfl rfl rfl rfl)<|sa rfl rfl<|qc<|qo ?_;obtain rfl := Option.some.inj hR;exact resN U ⟨kr U U zi U U, rv_g U, O⟩ (by simp)
def qcm (a0 : S5042) (a1 : List ByteArray) (r1 : S5042) (r2 : List S5100) : List ByteArray → Nat → (List S5100) → Option (S5042 × Int)
 | [], k10, x8 => some ((S5042.mk x8 r1.Waiting), 0)
 | y11 :: t12, k10, x8 => qz (ixO x8 (xz a0 y11)) fun y13 => qz (ixO (qbw r2 qbx) (Int.tmod (IntKind.i64.wrap ((IntKind.i64.wrap (((k10 : Nat) : Int) + (List.length a1 : Int))) - 1)) (List.length a1 : Int))) fun y14 => qcm a0 a1 r1 r2 t12 (k10 + 1) (List.set (List.set x8 (Int.toNat (xz a0 y11)) (S5100.mk (S115.mk y13.Request.Name y13.Request.Carrier y13.Request.Kind y13.Request.Terminal y13.Request.Partner y13.Request.Link (S45.mk y13.Request.Period.fFrom y13.Request.Period.fTo y13.Request.Period.Days) y13.Request.Minute y13.Request.Seats y13.Request.Size y13.Request.Noise) y14 y13.Leases y13.Shares)) (Int.toNat (xz a0 y11)) (S5100.mk (S115.mk y13.Request.Name y13.Request.Carrier y13.Request.Kind y13.Request.Terminal y13.Request.Partner y13.Request.Link (S45.mk y13.Request.Period.fFrom y13.Request.Period.fTo y13.Request.Period.Days) y13.Request.Minute y13.Request.Seats y13.Request.Size y13.Request.Noise) y14 y13.Leases ([] : List ByteArray)))
def qcn (a0 : S5042) (a1 : List ByteArray) (r1 : S5042) (r2 : List S5100) : List ByteArray → Nat → Option (S5042 × Int)
 | [], k4 => qcm a0 a1 r1 r2 a1 0 r1.Slots
 | y5 :: t6, k4 => (bif (s88 (List.take (Int.toNat ((k4 : Nat) : Int)) (qbw r2 qbx)) y5) then some ((S5042.mk [] []), 31) else qcn a0 a1 r1 r2 t6 (k4 + 1))
def quj (a0 : S5042) (a1 : List ByteArray) : Option (S5042 × Int) :=
 qz (qoz a0) fun r1 => qz (quk a1 (fun x0 => qma x0 a0)) fun r2 => (bif (qrl r2 qn0) then some ((S5042.mk [] []), 19) else qcn a0 a1 r1 r2 (qbw r2 qbx) 0)
theorem q75 {g : GL} (a0 : S5042) (a1 : List ByteArray) {R : S5042 × Int}  (hb : a0.Slots.length ≤ 1000000) (hb1 : a0.Waiting.length ≤ 1000000) (hb2 : a1.length ≤ 8) (hR : quj a0 a1 = some R) : Con (EG g) 114 [G.agg [G.sl 16 (List.map S5100.c a0.Slots), G.sl 14 (List.map S5072.c a0.Waiting)], G.sl 1 (List.map cStr a1)] (G.tup [G.agg [G.sl 16 (List.map S5100.c R.1.Slots), G.sl 14 (List.map S5072.c R.1.Waiting)], G.int R.2]) := by
 unfold quj at hR;refine qm Tryz.func114 U U fun w0 M0 => ?_;refine zp (f := cStr) (l := a1) 1 U fun hla1 => ?_;refine qb<|qa [.p, .w, .p]<|su (zg U U) U<|sw (zh 4 U xg U U) U<|sa U U<|qc<|qb ?_;obtain ⟨r1, br1, hR⟩ := qi hR;refine qa [.p, .w, .w, .w]<|su (qp rfl zi rfl rfl rfl) rfl<|sw (qij (f0 := S5100.c) (l := r1.Slots) 15 rfl q5h rfl (qyk a0 (by first | assumption | omega | (simp [qh]; done) | (simp [qh]; omega)) (by first | assumption | omega | (simp [qh]; done) | (simp [qh]; omega)) br1) (qe rfl qj) rfl) rfl<|sw (zh 6 rfl xg rfl rfl) rfl<|z7 rfl rfl (qw (tv := .agl [] 15 16 (List.length r1.Slots) [G.sl 14 (List.map S5072.c r1.Waiting)]) rfl zi rfl rfl rfl rfl rfl)<|qc<|qb ?_;obtain ⟨r2, br2, hR⟩ := qi hR;refine qa [.p, .p, .p, .p]<|sm rfl rfl<|su (w6 rfl rfl rfl) rfl<|su (qf rfl zdq rfl (zdr a1 (fun x0 => qma x0 a0) qgm zds (fun x0 r_ h_ => zdt x0 a0 h_) (by first | assumption | omega | (simp [qh]; done) | (simp [qh]; omega)) br2) (qe rfl (qe rfl qj))) rfl<|sa rfl rfl<|qc<|qb<|qb<|qa [.p, .p]<|sm rfl rfl<|su (qf rfl zdu rfl (zdv r2 qn0 qd9 zdw (fun x0 => zdx x0)) (qe rfl (qe rfl qj))) rfl<|qc ?_;refine ql _ U (fun h1 => ?_) (fun h1 => ?_)
 ·replace h1 : ((qrl r2 qn0)) = true := h1;replace hR := zm hR h1;(try simp only [bB] at h1);refine qb<|qa [.p, .w, .p]<|su (jc U xg U qa8 kx U) U<|z7 U U (qw (tv := .g (G.agg [G.lit (.slice none 0 0), G.lit (.slice none 0 0)])) U zi U U U U U)<|sa U U<|qc<|qo ?_;obtain rfl := Option.some.inj hR;exact resN U ⟨qf4 (kr U U zi U U) (qaj ⟨jz _, jz _, O⟩), rv_g U, O⟩ (by simp)
 ·replace h1 : ((qrl r2 qn0)) = false := h1;replace hR := zn hR h1;(try simp only [bB] at h1);refine qn<|qb ?_
  have hr2 : r2.length ≤ 8 := by have := q5i br2; omega
  refine qa [.p, .p, .p]<|sm rfl rfl<|su (qf rfl zdy rfl (zdz r2 qbx qd9 zd0 (fun x0 => zd1 x0) (by first | assumption | omega | (simp [qh]; done) | (simp [qh]; omega))) (qe rfl (qe rfl qj))) rfl<|sa rfl rfl<|qc<|qb<|qb<|qa [.p, .p, .p]<|sm rfl rfl<|su (qy (f := cStr) (l := (qbw r2 qbx)) rfl Tryz.underlying35 rfl) rfl<|sm rfl rfl<|qc<|qq<|za (γ := Nat × (List ByteArray)) (fun g => ([(1, .g (G.sl 1 (List.map cStr a1))), (2, .g (G.ref [G.sl 16 (List.map S5100.c a0.Slots), G.sl 14 (List.map S5072.c a0.Waiting)])), (4, .ptr 4 0), (6, .ptr 6 0), (8, .g (G.sl 1 (List.map cStr (qbw r2 qbx)))), (24, .g (G.sl 1 (List.map cStr (qbw r2 qbx)))), (25, .g (G.int (List.length (qbw r2 qbx) : Int))), (26, .g (G.int ((g.1 : Nat) : Int)))], [(4, .box [.g (G.lit (.slice none 0 0)), .g (G.lit (.slice none 0 0))]), (6, .box [.osl 15 16 0 (List.length r1.Slots), .g (G.sl 14 (List.map S5072.c r1.Waiting))]), (15, .arr 101 16 (List.map S5100.c r1.Slots))])) (fun g => (qbw r2 qbx).drop g.1 = g.2 ∧ qcn a0 a1 r1 r2 g.2 g.1 = some R) (fun g => List.length g.2) ⟨rfl, (0, (qbw r2 qbx)), jA, ⟨rfl, rfl, rfl, trivial⟩, rfl, ⟨rfl, (by exact hR)⟩, trivial⟩ ?_
  ·rintro ⟨k4, t6⟩ ⟨hd, hR⟩;replace hd : (qbw r2 qbx).drop k4 = t6 := hd;replace hR : qcn a0 a1 r1 r2 t6 k4 = some R := hR;refine qb<|qa [.p]<|su (ze U U U) U<|qc ?_;refine zp (f := cStr) (l := (qbw r2 qbx)) 8 U fun hlz1 => ?_;refine qb ?_;refine ql _ U (fun h2 => ?_) (fun h2 => ?_)
   ·replace h2 : (decide (((k4 : Nat) : Int) < (List.length (qbw r2 qbx) : Int))) = true := h2;obtain ⟨y5, t6, rfl, hx1, hd⟩ := zq hd (decT h2);replace h2 := decT h2;rw [qcn] at hR;(try dsimp only at hR);refine qn<|qb<|qq<|qb<|qa [.p, .p, .p, .p, .p]<|sm U U<|su (z4 (f := cStr) (l := (qbw r2 qbx)) (a := y5) U Tryz.underlying35 ty9 U U (Int.natCast_nonneg _) hx1) U<|su (qg U ty9 U) U<|sa U U<|sa U U<|qc<|qb<|qa [.p, .p, .p, .p, .p]<|sm U U<|sm U U<|su (qeq (f := cStr) (l := (qbw r2 qbx)) U Tryz.underlying35 ty9 U qbi (qbj U (Int.natCast_nonneg _)) (Nat.zero_le _) (qkz hx1)) U<|sm U U<|su (qf U K88 U (c88 (List.take (Int.toNat ((k4 : Nat) : Int)) (qbw r2 qbx)) y5) (qe U (qe U qj))) U<|qc ?_;refine ql _ U (fun h6 => ?_) (fun h6 => ?_)
    ·replace h6 : ((s88 (List.take (Int.toNat ((k4 : Nat) : Int)) (qbw r2 qbx)) y5)) = true := h6;replace hR := zm hR h6;(try simp only [bB] at h6);refine qb<|qa [.p, .w, .p]<|su (jc U xg U qa8 kx U) U<|z7 U U (qw (tv := .g (G.agg [G.lit (.slice none 0 0), G.lit (.slice none 0 0)])) U zi U U U U U)<|sa U U<|qc<|qo ?_;obtain rfl := Option.some.inj hR;exact resN U ⟨qf4 (kr U U zi U U) (qaj ⟨jz _, jz _, O⟩), rv_g U, O⟩ (by simp)
    ·replace h6 : ((s88 (List.take (Int.toNat ((k4 : Nat) : Int)) (qbw r2 qbx)) y5)) = false := h6;replace hR := zn hR h6;(try simp only [bB] at h6);refine qn<|qa [.p, .p]<|su (zl U U U iE) U<|sm U U<|qc ?_;exact ⟨U, (k4 + 1, t6), jA, ⟨U, U, U, O⟩, U, ⟨hd, hR⟩, by simp⟩
   ·replace h2 : (decide (((k4 : Nat) : Int) < (List.length (qbw r2 qbx) : Int))) = false := h2;obtain rfl := zu hd (decF h2);rw [qcn] at hR;refine zr<|qb<|qa [.p, .p, .p]<|sm U U<|su (qy (f := cStr) (l := a1) U Tryz.underlying35 U) U<|sa U U<|qc<|qb<|qb<|qa [.p, .p]<|sm U U<|sm U U<|qc<|qq<|za (γ := Nat × (List ByteArray) × (List S5100)) (fun g => ([(1, .g (G.sl 1 (List.map cStr a1))), (2, .g (G.ref [G.sl 16 (List.map S5100.c a0.Slots), G.sl 14 (List.map S5072.c a0.Waiting)])), (4, .ptr 4 0), (6, .ptr 6 0), (8, .g (G.sl 1 (List.map cStr (qbw r2 qbx)))), (11, .g (G.int (List.length a1 : Int))), (40, .g (G.int (List.length a1 : Int))), (41, .g (G.int ((g.1 : Nat) : Int)))], [(4, .box [.g (G.lit (.slice none 0 0)), .g (G.lit (.slice none 0 0))]), (6, .box [.osl 15 16 0 (List.length r1.Slots), .g (G.sl 14 (List.map S5072.c r1.Waiting))]), (15, .arr 101 16 (List.map S5100.c g.2.2))])) (fun g => List.length g.2.2 = List.length r1.Slots ∧ a1.drop g.1 = g.2.1 ∧ qcm a0 a1 r1 r2 g.2.1 g.1 g.2.2 = some R) (fun g => List.length g.2.1) ⟨U, (0, a1, r1.Slots), jA, ⟨U, U, U, O⟩, U, ⟨U, U, (by exact hR)⟩, O⟩ ?_
    ·rintro ⟨k10, t12, x8⟩ ⟨ln9, hd, hR⟩;replace hd : a1.drop k10 = t12 := hd;replace hR : qcm a0 a1 r1 r2 t12 k10 x8 = some R := hR;replace ln9 : List.length x8 = List.length r1.Slots := ln9;refine qb<|qa [.p]<|su (ze U U U) U<|qc ?_;refine zp (f := cStr) (l := a1) 1 U fun hlz2 => ?_;refine qb ?_;refine ql _ U (fun h4 => ?_) (fun h4 => ?_)
     ·replace h4 : (decide (((k10 : Nat) : Int) < (List.length a1 : Int))) = true := h4;obtain ⟨y11, t12, rfl, hx2, hd⟩ := zq hd (decT h4);replace h4 := decT h4;rw [qcm] at hR;(try dsimp only at hR);refine qn<|qb<|qq<|qb<|qa [.p, .p]<|sm U U<|sa U U<|qc<|qb ?_;obtain ⟨y13, by13, hR⟩ := qi hR;refine zt [.p, .r, .p, .p, .p, .p, .p, .p, .p, .p] (by kernel_rfl)<|su (zo U xe U) U<|sr (zz U qbt U U U) U<|su (qp U zi U U U) U<|sm U U<|sm U U<|su (z4 (f := cStr) (l := a1) (a := y11) U Tryz.underlying35 ty9 U U (Int.natCast_nonneg _) hx2) U<|su (qg U ty9 U) U<|su (qf U qry U (qrz a0 y11) (qe U (qe U qj))) U<|su (vc U Tryz.underlying40 ko U U (jl by13) (Nat.lt_of_lt_of_eq (jv (zk by13)) ln9)) U<|su (qc8 U U) U<|qc ?_;obtain ⟨y14, by14, hR⟩ := qi hR;refine qa [.p, .p, .p, .p, .p, .p, .p, .p, .p, .p, .p, .p, .p, .w, .p, .p, .w]<|su (vu U U) U<|su (vu U U) U<|sm U U<|sm U U<|sm U U<|su (jo U U U) U<|su (ku U U U) U<|sm U U<|su (qhe U U U (by omega)) U<|su (z4 (f := cStr) (l := (qbw r2 qbx)) (a := y14) U Tryz.underlying35 ty9 U U (jl by14) (zk by14)) U<|su (qg U ty9 U) U<|su (wi U U) U<|su (kz U qcr U) U<|z7 U U (qhx (f := S5100.c) (l := x8) (a := y13) (a' := (S5100.mk (S115.mk y13.Request.Name y13.Request.Carrier y13.Request.Kind y13.Request.Terminal y13.Request.Partner y13.Request.Link (S45.mk y13.Request.Period.fFrom y13.Request.Period.fTo y13.Request.Period.Days) y13.Request.Minute y13.Request.Seats y13.Request.Size y13.Request.Noise) y14 y13.Leases y13.Shares)) U ty9 U U U (zk by13) U U U)<|su (wi U U) U<|su (kz U qef U) U<|z7 U U (qqr (f := S5100.c) (l := List.set x8 (Int.toNat (xz a0 y11)) (S5100.mk (S115.mk y13.Request.Name y13.Request.Carrier y13.Request.Kind y13.Request.Terminal y13.Request.Partner y13.Request.Link (S45.mk y13.Request.Period.fFrom y13.Request.Period.fTo y13.Request.Period.Days) y13.Request.Minute y13.Request.Seats y13.Request.Size y13.Request.Noise) y14 y13.Leases y13.Shares)) (a := (S5100.mk (S115.mk y13.Request.Name y13.Request.Carrier y13.Request.Kind y13.Request.Terminal y13.Request.Partner y13.Request.Link (S45.mk y13.Request.Period.fFrom y13.Request.Period.fTo y13.Request.Period.Days) y13.Request.Minute y13.Request.Seats y13.Request.Size y13.Request.Noise) y14 y13.Leases y13.Shares)) (a' := (S5100.mk (S115.mk y13.Request.Name y13.Request.Carrier y13.Request.Kind y13.Request.Terminal y13.Request.Partner y13.Request.Link (S45.mk y13.Request.Period.fFrom y13.Request.Period.fTo y13.Request.Period.Days) y13.Request.Minute y13.Request.Seats y13.Request.Size y13.Request.Noise) y14 y13.Leases ([] : List ByteArray))) U ty22 U U (jz 1) U (q0q (zk by13)) U U U)<|qc<|qa [.p, .p]<|su (zl U U U iE) U<|sm U U<|qc ?_;exact ⟨U, (k10 + 1, t12, List.set (List.set x8 (Int.toNat (xz a0 y11)) (S5100.mk (S115.mk y13.Request.Name y13.Request.Carrier y13.Request.Kind y13.Request.Terminal y13.Request.Partner y13.Request.Link (S45.mk y13.Request.Period.fFrom y13.Request.Period.fTo y13.Request.Period.Days) y13.Request.Minute y13.Request.Seats y13.Request.Size y13.Request.Noise) y14 y13.Leases y13.Shares)) (Int.toNat (xz a0 y11)) (S5100.mk (S115.mk y13.Request.Name y13.Request.Carrier y13.Request.Kind y13.Request.Terminal y13.Request.Partner y13.Request.Link (S45.mk y13.Request.Period.fFrom y13.Request.Period.fTo y13.Request.Period.Days) y13.Request.Minute y13.Request.Seats y13.Request.Size y13.Request.Noise) y14 y13.Leases ([] : List ByteArray))), jA, ⟨U, U, U, O⟩, U, ⟨((List.length_set ..).trans ((List.length_set ..).trans ln9)), hd, hR⟩, by simp⟩
     ·replace h4 : (decide (((k10 : Nat) : Int) < (List.length a1 : Int))) = false := h4;obtain rfl := zu hd (decF h4);rw [qcm] at hR;refine zr<|qb<|qba (l := [(4, .ptr 4 0), (6, .ptr 6 0)]) (m := [(4, .box [.g (G.lit (.slice none 0 0)), .g (G.lit (.slice none 0 0))]), (6, .box [.g (G.sl 16 (List.map S5100.c x8)), .g (G.sl 14 (List.map S5072.c r1.Waiting))])]) 6 0 15 16 _ U U U ((List.length_map ..).trans ln9) ⟨U, U, O⟩ ⟨U, U, O⟩ U U<|qa [.r, .w, .p]<|sr (zj U zi U U U U) U<|z7 U U (qw (tv := .g (G.agg [G.sl 16 (List.map S5100.c x8), G.sl 14 (List.map S5072.c r1.Waiting)])) U zi U U U U U)<|sa U U<|qc<|qo ?_;obtain rfl := Option.some.inj hR;exact resN U ⟨kr U U zi U U, rv_g U, O⟩ (by simp)
theorem q5j (x : Int) : s180 x ≤ 7 := by
 unfold s180;generalize IntKind.i64.wrap (x + 5) = y;have := Int.tmod_lt_of_pos y (show (0 : Int) < 7 by decide)
 omega
def s157 (a0 : S45) (a1 : Int) : Bool :=
 ((decide (a0.fFrom ≤ a1)) && (decide (a1 ≤ a0.fTo))) && (s192 a0.Days (s180 a1))
theorem c157 {g : GL} (a0 : S45) (a1 : Int)    : Con (EG g) 36 [G.agg (S45.c a0), G.int a1] (G.bool (s157 a0 a1)) := by
 generalize hR : s157 a0 a1 = R;unfold s157 at hR;refine qm Tryz.func36 U U fun w0 M0 => ?_;refine qb<|qa [.p, .p]<|su (zg U U) U<|sa U U<|qc<|qb<|zt [.p, .p, .p, .p, .p, .p, .p, .p, .p, .p, .p, .p, .p, .p, .p, .p, .p, .p] (by kernel_rfl)<|sm U U<|su (qd U qdg U) U<|su (qg U ty3 U) U<|su (w4 U U U) U<|sm U U<|sg U U (fun h => qk U U) U<|sg U U (fun h => qd U qb1 U) U<|sg U U (fun h => qg U ty3 (gd h U)) U<|sg U U (fun h => vl U (gd h U) (gd h U)) U<|su (zy U U U U) U<|sm U U<|sg U U (fun h => qd U qtb U) U<|sg U U (fun h => qg U ty3 (gd h U)) U<|sg U U (fun h => qk U U) U<|sg U U (fun h => qf U K180 U (c180 a1) (qe (gd h U) qj)) U<|sg U U (fun h => qf U K192 U (c192 a0.Days (s180 a1) (q5j _)) (qe (gd h U) (qe (gd h U) qj))) U<|su (zy U U U U) U<|sa U U<|qc<|qo ?_;subst hR;exact zb U (rv_g U)
def qjf (rec1 : (List Int) → Int → List Int) (x2 : Int) (x4 : List Int) : List Int :=
 rec1 x4 (x2 + 1)
def qa3 (a0 : S45) : Nat → (List Int) → Int → List Int
 | 0, x1, x2 => x1
 | k3 + 1, x1, x2 => (bif (s157 a0 x2) then qjf (fun z0_ z1_ => qa3 a0 k3 z0_ z1_) x2 (x1 ++ [x2]) else qjf (fun z0_ z1_ => qa3 a0 k3 z0_ z1_) x2 x1)
def s104 (a0 : S45) : List Int :=
 qa3 a0 (((a0.fTo + 1) - a0.fFrom).toNat) [] a0.fFrom
theorem c104 {g : GL} (a0 : S45)  (hp0 : 0 ≤ a0.fFrom) (hp1 : a0.fTo ≤ 1000000)  : Con (EG g) 8 [G.agg (S45.c a0)] (G.sl 1 (List.map cInt (s104 a0))) := by
 generalize hR : s104 a0 = R;unfold s104 at hR;refine qm Tryz.func8 U U fun w0 M0 => ?_;refine qb<|qa [.p, .w]<|su (zg U U) U<|sw (kh 2 3 1 U U U) U<|qc<|qb<|qa [.w]<|sw (kh 3 3 1 U U U) U<|qc<|qb<|qb<|qa [.p, .p, .p]<|su (qd U qdg U) U<|su (qg U ty3 U) U<|sa U U<|qc<|qq<|za (γ := Nat × (List Int) × Int) (fun g => ([(1, .g (G.ref (S45.c a0))), (3, .osl 3 1 0 (List.length g.2.1)), (4, .g (G.int g.2.2))], [(3, .arr 3 1 (List.map cInt g.2.1))])) (fun g => g.1 = ((a0.fTo + 1) - g.2.2).toNat ∧ a0.fFrom ≤ g.2.2 ∧ g.2.1.length ≤ (g.2.2 - a0.fFrom).toNat ∧ qa3 a0 g.1 g.2.1 g.2.2 = R) (fun g => g.1) ⟨U, (((a0.fTo + 1) - a0.fFrom).toNat, [], a0.fFrom), ⟨U, U, U, O⟩, ⟨U, O⟩, U, ⟨U, iD, iD, (by exact hR)⟩, O⟩ ?_
 ·rintro ⟨k3, x1, x2⟩ ⟨hk1, iv1_0, iv1_1, hR⟩;replace hk1 : k3 = ((a0.fTo + 1) - x2).toNat := hk1;replace hR : qa3 a0 k3 x1 x2 = R := hR;replace iv1_0 : a0.fFrom ≤ x2 := iv1_0;replace iv1_1 : x1.length ≤ (x2 - a0.fFrom).toNat := iv1_1;refine qb<|qb<|qa [.p, .p, .p, .p]<|sm U U<|su (qd U qb1 U) U<|su (qg U ty3 U) U<|su (vl U U U) U<|qc ?_;refine ql _ U (fun h1 => ?_) (fun h1 => ?_)
  ·replace h1 : (decide (x2 ≤ a0.fTo)) = true := h1;replace h1 := decT h1;obtain ⟨k3, rfl⟩ : ∃ m, k3 = m + 1 := ⟨k3 - 1, by omega⟩;rw [qa3] at hR;(try dsimp only at hR);refine qn ?_;refine jy (γ := (List Int)) (fun g => ([(1, .g (G.ref (S45.c a0))), (3, .osl 3 1 0 (List.length g)), (4, .g (G.int x2))], [(3, .arr 3 1 (List.map cInt g))])) (fun g => g.length ≤ (x2 + 1 - a0.fFrom).toNat ∧ qjf (fun z0_ z1_ => qa3 a0 k3 z0_ z1_) x2 g = R) ?_ ?_
   ·refine qq<|qb<|qa [.p, .p, .p]<|su (qp U ty46 U U U) U<|sm U U<|su (qf U K157 U (c157 a0 x2) (qe U (qe U qj))) U<|qc ?_;refine ql _ U (fun h3 => ?_) (fun h3 => ?_)
    ·replace h3 : ((s157 a0 x2)) = true := h3;replace hR := zm hR h3;(try simp only [bB] at h3);refine qa [.p, .p, .p, .k, .p]<|su (zd U U) U<|sm U U ?_;refine su (qt U Tryz.underlying38 ty3 z3 U (qv U jh) U (by simp []) (by decide)) U ?_;refine st_k U U (ve (f := cInt) (out := x1) (new := [x2]) U qx4 U U (wx U (wy (by decide) (by simp []))) (qgf U) (by simp; omega)) U ?_;refine su (zw U U) U<|qc ?_;exact ⟨U, x1 ++ [x2], ⟨U, U, U, O⟩, ⟨U, O⟩, U, ⟨iB, hR⟩, O⟩
    ·replace h3 : ((s157 a0 x2)) = false := h3;replace hR := zn hR h3;(try simp only [bB] at h3);refine qn ?_;exact ⟨U, x1, ⟨U, U, U, O⟩, ⟨U, O⟩, U, ⟨iB, hR⟩, O⟩
   ·rintro x4 ⟨jv1_0, hR⟩;replace jv1_0 : x4.length ≤ (x2 + 1 - a0.fFrom).toNat := jv1_0;replace hR : qjf (fun z0_ z1_ => qa3 a0 k3 z0_ z1_) x2 x4 = R := hR;unfold qjf at hR;refine qa [.p, .p, .p]<|sm U U<|su (zl U U U iG) U<|sa U U<|qc ?_;exact ⟨U, (k3, x4, x2 + 1), ⟨U, U, U, O⟩, ⟨U, O⟩, U, ⟨iB, iB, iB, hR⟩, by simp⟩
  ·replace h1 : (decide (x2 ≤ a0.fTo)) = false := h1;replace h1 := decF h1
   obtain rfl : k3 = 0 := by omega
   rw [qa3] at hR;refine zr<|qb<|qa [.p, .p]<|su (zd U U) U<|su (zw U U) U<|qc<|qo ?_;subst hR;exact zb U (qat U U)
theorem qjv : ∀ (l : List Int) (k : Nat), qdb l k = 0 ↔ ∀ x ∈ l, x = 0
 | [], k => by simp [qdb]
 | y :: t, k => by
  rw [qdb]
  by_cases h : y = 0
  ·rw [decide_eq_false (by simpa using h), cond_false, qjv t]; simp [h]
  ·rw [decide_eq_true h, cond_true]; simp [h]
theorem qlx (l : List Int) : s152 l = 0 ↔ ∀ x ∈ l, x = 0 := qjv l 0
theorem qid : ∀ (l : List Int) (k : Nat), qcx l k = 0 ↔ ∀ x ∈ l, x = 0
 | [], k => by simp [qcx]
 | y :: t, k => by
  rw [qcx]
  by_cases h : y = 0
  ·rw [decide_eq_false (by simpa using h), cond_false, qid t]; simp [h]
  ·rw [decide_eq_true h, cond_true]; simp [h]
theorem qu7 (l : List Int) : qyl l = 0 ↔ ∀ x ∈ l, x = 0 := qid l 0
theorem qly : ∀ (l : List Int) (k : Nat), qie l k = 0 ↔ ∀ x ∈ l, x = 0
 | [], k => by simp [qie]
 | y :: t, k => by
  rw [qie]
  by_cases h : y = 0
  ·rw [decide_eq_false (by simpa using h), cond_false, qly t]; simp [h]
  ·rw [decide_eq_true h, cond_true]; simp [h]
theorem qhn (l : List Int) : s89 l = 0 ↔ ∀ x ∈ l, x = 0 := qly l 0
theorem qaw {a b c : Int} : s90 a b c = 0 ↔ b ≤ a ∧ a ≤ c := by
 unfold s90
 by_cases h1 : a < b <;> by_cases h2 : c < a <;> simp [h1, h2] <;> omega
theorem qfq {a b c : Int} : qjg a b c = 0 ↔ b ≤ a ∧ a ≤ c := by
 unfold qjg qi5
 by_cases h1 : a < b <;> by_cases h2 : c < a <;> simp [h1, h2] <;> omega
theorem qfw {a b c : Int} : s155 a b c = 0 ↔ b ≤ a ∧ a ≤ c := by
 unfold s155 s154
 by_cases h1 : a < b <;> by_cases h2 : c < a <;> simp [h1, h2] <;> omega
theorem q2s {p : S45} (h : s40 p = 0) : s102 p = 0 := by
 unfold s40 at h;rw [cond_eq_ite] at h
 split at h
 ·simp at h
 rename_i h1
 simp only [Bool.or_eq_true, decide_eq_true_eq, not_or, Decidable.not_not, ne_eq] at h1;rw [cond_eq_ite] at h
 split at h
 ·simp at h
 rename_i h2
 rw [cond_eq_ite] at h
 split at h
 ·simp at h
 rename_i h3
 have q1 : 0 ≤ p.fFrom ∧ p.fFrom ≤ 99999 := qaw.1 h1.1;have q2 : 0 ≤ p.fTo ∧ p.fTo ≤ 99999 := qaw.1 h1.2;have q3 := qaw.1 h
 have z1 : s152 [s153 p.fFrom, s153 p.fTo] = 0 := (qlx _).2 (by
  intro x hx;simp only [List.mem_cons, List.not_mem_nil, or_false] at hx
  rcases hx with rfl | rfl
  ·exact qfw.2 q1
  ·exact qfw.2 q2)
 unfold s102;rw [z1];refine (qlx _).2 ?_;intro x hx;simp only [List.mem_cons, List.not_mem_nil, or_false] at hx
 rcases hx with rfl | rfl | rfl
 ·unfold s154; rw [decide_eq_false (by simpa using h2)]; rfl
 ·unfold s154; rw [decide_eq_false (by simpa using h3)]; rfl
 ·exact qfw.2 q3
theorem q2t {s : ByteArray} (h : qiq s = true) : qo1 s = 0 := by
 unfold qiq at h; unfold qo1 qi5;rw [qd8]
 by_cases h1 : s = (⟨#[]⟩ : ByteArray)
 ·simp [h1]
 ·simp only [h1, decide_false, Bool.false_or] at h
  simp [h]
structure RqOk (q : S115) : Prop where
 n : s147 q.Name = true
 c : s147 q.Carrier = true
 p : s147 q.Partner = true
 t : qiq q.Terminal = true
 l : qiq q.Link = true
 k : q.Kind = (⟨#[65]⟩ : ByteArray) ∨ q.Kind = (⟨#[68]⟩ : ByteArray)
 lk : ¬ q.Link = q.Name
 per : s102 q.Period = 0
 m : 0 ≤ q.Minute ∧ q.Minute ≤ 1439
 s : 0 ≤ q.Seats ∧ q.Seats ≤ 999
 z : 1 ≤ q.Size ∧ q.Size ≤ 9
 no : 0 ≤ q.Noise ∧ q.Noise ≤ 99
theorem q63 {q : S115} (h : qot q = 0) : RqOk q := by
 unfold qot at h;rw [cond_eq_ite] at h
 split at h
 ·cases h
 rename_i h1
 rw [cond_eq_ite] at h
 split at h
 ·cases h
 rename_i h2
 rw [cond_eq_ite] at h
 split at h
 ·cases h
 rename_i h3
 rw [cond_eq_ite] at h
 split at h
 ·rename_i h4; simp at h4; exact absurd h h4
 rename_i h4
 simp only [Bool.or_eq_true, Bool.not_eq_true', not_or, Bool.not_eq_false] at h1;obtain ⟨⟨⟨⟨a1, a2⟩, a3⟩, a4⟩, a5⟩ := h1;have h5 := (qhn _).1 h;refine ⟨by rw [qd8]; exact a1, by rw [qd8]; exact a2, by rw [qd8]; exact a3, a4, a5, ?_, by simpa using h3, q2s (by simpa using h4), ?_, ?_, ?_, ?_⟩
 ·by_cases hA : q.Kind = (⟨#[65]⟩ : ByteArray)
  ·exact .inl hA
  ·by_cases hD : q.Kind = (⟨#[68]⟩ : ByteArray)
   ·exact .inr hD
   ·simp [hA, hD] at h2
 ·exact qaw.1 (h5 _ (by simp))
 ·exact qaw.1 (h5 (s90 q.Seats 0 999) (by simp))
 ·exact qaw.1 (h5 (s90 q.Size 1 9) (by simp))
 ·exact qaw.1 (h5 (s90 q.Noise 0 99) (by simp))
theorem rq_g {q : S115} (h : (decide (qot q = 0) == true) = true) : 0 ≤ q.Period.fFrom ∧ q.Period.fTo ≤ 1000000 := by
 have := vk _ (q63 (by simpa using h)).per
 omega
set_option maxRecDepth 100000 in
theorem q1h : ∀ m : Fin 128, ∀ w : Fin 7, s192 (m.1 : Int) (w.1 : Int) = decide (andI (shrI (m.1 : Int) (w.1 : Int)) 1 = 1) := by decide +kernel
theorem q5k {m d : Int} (h1 : 1 ≤ m) (h2 : m ≤ 127) (h3 : 0 ≤ d) (h4 : d ≤ 1000000) : s192 m (s180 d) = inM m d := by
 have hw : s180 d = (d + 5) % 7 := by
  unfold s180;rw [wrap_i64 (by unfold I64; omega), Int.tmod_eq_emod_of_nonneg (by omega)]
 rw [hw];have := q1h ⟨m.toNat, by omega⟩ ⟨((d + 5) % 7).toNat, by omega⟩;simp only at this;rw [Int.toNat_of_nonneg (by omega), Int.toNat_of_nonneg (by omega)] at this;exact this
theorem qqs (p : S45) (h1 : 1 ≤ p.Days) (h2 : p.Days ≤ 127) (h3 : 0 ≤ p.fFrom) (h4 : p.fTo ≤ 99999) : ∀ (n : Nat) (x : List Int) (d : Int), p.fFrom ≤ d → n = (p.fTo + 1 - d).toNat → qa3 p n x d = x ++ dayL p.Days n d
 | 0, x, d, _, _ => by simp [qa3, dayL]
 | n + 1, x, d, hd, hn => by
  rw [qa3, dayL]
  have hs : s157 p d = inM p.Days d := by
   unfold s157;rw [q5k h1 h2 (by omega) (by omega), decide_eq_true (by omega), decide_eq_true (by omega)]
   simp
  rw [hs];unfold qjf;have ih := fun x => qqs p h1 h2 h3 h4 n x (d + 1) (by omega) (by omega);show (bif inM p.Days d then qa3 p n (x ++ [d]) (d + 1) else qa3 p n x (d + 1)) = _;rw [ih, ih]
  cases inM p.Days d <;> simp
theorem qnz (p : S45) (h : s102 p = 0) : s104 p = dayL p.Days (p.fTo + 1 - p.fFrom).toNat p.fFrom := by
 obtain ⟨q1, q2, q3, q4, q5, q6⟩ := vk p h;unfold s104;rw [qqs p q5 q6 q1 q3 _ _ _ (Int.le_refl _) rfl]; rfl
theorem qd0 (m : Int) : ∀ (n : Nat) (f : Int), ∀ d ∈ dayL m n f, f ≤ d ∧ d < f + n
 | 0, f, d, h => by simp [dayL] at h
 | n + 1, f, d, h => by
  unfold dayL at h
  split at h
  ·rcases List.mem_cons.1 h with rfl | h
   ·omega
   ·have := qd0 m n _ d h; omega
  ·have := qd0 m n _ d h; omega
theorem q02 {p : S45} (h : s102 p = 0) : (s104 p).length ≤ 401 := by
 rw [qnz p h];obtain ⟨q1, q2, q3, q4, q5, q6⟩ := vk p h;have := qho p.Days (p.fTo + 1 - p.fFrom).toNat p.fFrom
 omega
def cF (k : Int) (I : List (Int × Int)) : Int := ((I.countP fun q => decide (q.1 = k) : Nat) : Int)
def cT (k : Int) (I : List (Int × Int)) : Int := ((I.countP fun q => decide (q.2 = k) : Nat) : Int)
structure Ed (e : List Int) (I : List (Int × Int)) : Prop where
 len : e.length = 1441
 at_ : ∀ k : Nat, k < 1441 → e[k]? = some (cF k I - cT k I)
 rng : ∀ q ∈ I, 0 ≤ q.1 ∧ q.1 < q.2 ∧ q.2 ≤ 1440
theorem q81 : Ed (List.replicate 1441 0) [] := ⟨by rw [List.length_replicate], fun k hk => by rw [List.getElem?_replicate, if_pos hk]; rfl, fun q h => by cases h⟩
theorem q5l (k : Int) (I : List (Int × Int)) : 0 ≤ cF k I ∧ cF k I ≤ I.length := ⟨Int.natCast_nonneg _, by unfold cF; exact Int.ofNat_le.2 List.countP_le_length⟩
theorem q5m (k : Int) (I : List (Int × Int)) : 0 ≤ cT k I ∧ cT k I ≤ I.length := ⟨Int.natCast_nonneg _, by unfold cT; exact Int.ofNat_le.2 List.countP_le_length⟩
theorem q5n (k : Int) (I : List (Int × Int)) (f t : Int) : cF k (I ++ [(f, t)]) = cF k I + (if f = k then 1 else 0) := by
 unfold cF; rw [List.countP_append]; by_cases h : f = k <;> simp [h]
theorem q5o (k : Int) (I : List (Int × Int)) (f t : Int) : cT k (I ++ [(f, t)]) = cT k I + (if t = k then 1 else 0) := by
 unfold cT; rw [List.countP_append]; by_cases h : t = k <;> simp [h]
theorem qym {e : List Int} {I : List (Int × Int)} (h : Ed e I) {f : Int} (h0 : 0 ≤ f) (h1 : f ≤ 1440) : ixO e f = some (cF f I - cT f I) := by
 unfold ixO;rw [decide_eq_true h0, cond_true, h.at_ f.toNat (by omega), Int.toNat_of_nonneg h0]
theorem q5p {e : List Int} {I : List (Int × Int)} (h : Ed e I) (hI : I.length ≤ 1000000000000) {f t : Int} (h0 : 0 ≤ f) (h1 : f < t) (h2 : t ≤ 1440) :
  ∃ y, ixO e f = some y ∧ ∃ y', ixO (List.set e f.toNat (IntKind.i64.wrap (y + 1))) t = some y' ∧ Ed (List.set (List.set e f.toNat (IntKind.i64.wrap (y + 1))) t.toNat (IntKind.i64.wrap (y' - 1))) (I ++ [(f, t)]) := by
 have a1 := q5l f I; have a2 := q5m f I; have a3 := q5l t I; have a4 := q5m t I
 have hI' : (I.length : Int) ≤ 1000000000000 := by omega
 refine ⟨_, qym h h0 (by omega), cF t I - cT t I, ?_, ?_⟩
 ·have := qym h (show 0 ≤ t by omega) h2;unfold ixO at this ⊢;rw [decide_eq_true (show 0 ≤ t by omega), cond_true] at this ⊢;rw [List.getElem?_set_ne (by omega)]; exact this
 ·rw [wrap_i64 (by unfold I64; omega), wrap_i64 (by unfold I64; omega)];refine ⟨by rw [List.length_set, List.length_set]; exact h.len, fun k hk => ?_, fun q hq => ?_⟩
  ·have h3 := h.at_ k hk;rw [q5n, q5o];rw [List.getElem?_set, List.getElem?_set, List.length_set, h.len]
   by_cases c1 : t.toNat = k
   ·have e1 : t = (k : Int) := by omega
    rw [if_pos c1, if_pos (by omega), if_pos e1, if_neg (by omega), e1];exact congrArg some (by omega)
   ·rw [if_neg c1]
    have e1 : ¬ t = (k : Int) := by omega
    rw [if_neg e1]
    by_cases c2 : f.toNat = k
    ·have e2 : f = (k : Int) := by omega
     rw [if_pos c2, if_pos (by omega), if_pos e2, e2];exact congrArg some (by omega)
    ·rw [if_neg c2, if_neg (by omega), h3];exact congrArg some (by omega)
  ·rcases List.mem_append.1 hq with hq | hq
   ·exact h.rng q hq
   ·simp only [List.mem_singleton] at hq; subst hq; exact ⟨h0, h1, h2⟩
def aF (i : Int) (I : List (Int × Int)) : Int := ((I.countP fun q => decide (q.1 < i) : Nat) : Int)
def aT (i : Int) (I : List (Int × Int)) : Int := ((I.countP fun q => decide (q.2 < i) : Nat) : Int)
def inI (i : Int) (I : List (Int × Int)) : Bool := I.any fun q => decide (q.1 ≤ i) && decide (i < q.2)
theorem qyn (i : Int) : ∀ I : List (Int × Int), aF (i + 1) I = aF i I + cF i I
 | [] => rfl
 | q :: I => by
  have ih := qyn i I;unfold aF cF at *;rw [List.countP_cons, List.countP_cons, List.countP_cons]
  by_cases h1 : q.1 < i
  ·rw [if_pos (by simp; omega), if_pos (by simpa using h1), if_neg (by simp; omega)]; omega
  ·by_cases h2 : q.1 = i
   ·rw [if_pos (by simp; omega), if_neg (by simpa using h1), if_pos (by simpa using h2)]; omega
   ·rw [if_neg (by simp; omega), if_neg (by simpa using h1), if_neg (by simpa using h2)]; omega
theorem qyo (i : Int) : ∀ I : List (Int × Int), aT (i + 1) I = aT i I + cT i I
 | [] => rfl
 | q :: I => by
  have ih := qyo i I;unfold aT cT at *;rw [List.countP_cons, List.countP_cons, List.countP_cons]
  by_cases h1 : q.2 < i
  ·rw [if_pos (by simp; omega), if_pos (by simpa using h1), if_neg (by simp; omega)]; omega
  ·by_cases h2 : q.2 = i
   ·rw [if_pos (by simp; omega), if_neg (by simpa using h1), if_pos (by simpa using h2)]; omega
   ·rw [if_neg (by simp; omega), if_neg (by simpa using h1), if_neg (by simpa using h2)]; omega
theorem qyp (i : Int) : ∀ {I : List (Int × Int)}, (∀ q ∈ I, q.1 < q.2) → 0 ≤ aF (i + 1) I - aT (i + 1) I ∧ (decide (0 < aF (i + 1) I - aT (i + 1) I) = inI i I)
 | [], _ => ⟨Int.le_refl _, rfl⟩
 | q :: I, h => by
  obtain ⟨ih1, ih2⟩ := qyp i (I := I) fun x hx => h x (List.mem_cons_of_mem _ hx);have hq := h q List.mem_cons_self;unfold aF aT inI at *;rw [List.countP_cons, List.countP_cons, List.any_cons, ← ih2]
  by_cases h1 : q.1 ≤ i
  ·by_cases h2 : i < q.2
   ·rw [if_pos (by simp; omega), if_neg (by simp; omega), decide_eq_true h1, decide_eq_true h2];exact ⟨by omega, by rw [decide_eq_true (by omega)]; rfl⟩
   ·rw [if_pos (by simp; omega), if_pos (by simp; omega), decide_eq_true h1, decide_eq_false h2];refine ⟨by omega, ?_⟩;rw [Bool.and_false, Bool.false_or];exact decide_eq_decide.2 (by omega)
  ·rw [if_neg (by simp; omega), if_neg (by simp; omega), decide_eq_false h1];refine ⟨by omega, ?_⟩;rw [Bool.false_and, Bool.false_or];exact decide_eq_decide.2 (by omega)
theorem zd2 (i : Int) (I : List (Int × Int)) : 0 ≤ aF i I ∧ aF i I ≤ I.length := ⟨Int.natCast_nonneg _, by unfold aF; exact Int.ofNat_le.2 List.countP_le_length⟩
theorem zd3 (i : Int) (I : List (Int × Int)) : 0 ≤ aT i I ∧ aT i I ≤ I.length := ⟨Int.natCast_nonneg _, by unfold aT; exact Int.ofNat_le.2 List.countP_le_length⟩
theorem q21 {e : List Int} {I : List (Int × Int)} (h : Ed e I) (hI : I.length ≤ 1000000000000) : ∀ (k i : Nat) (F : List Bool), i + k = 1440 → F.length = 1440 → (∀ m : Nat, m < i → F[m]? = some (inI m I)) →
  ∃ F', qa2 e k (aF i I - aT i I) i F = some F' ∧ F'.length = 1440 ∧ ∀ m : Nat, m < 1440 → F'[m]? = some (inI m I)
 | 0, i, F, h0, h1, h2 => ⟨F, rfl, h1, fun m hm => h2 m (by omega)⟩
 | k + 1, i, F, h0, h1, h2 => by
  rw [qa2, qym h (by omega) (by omega)]
  have hF : ixO F (i : Int) = some F[i] := by
   unfold ixO; rw [decide_eq_true (by omega), cond_true, Int.toNat_natCast, List.getElem?_eq_getElem (by omega)]
  rw [hF];simp only [qz];have a1 := zd2 (i : Int) I; have a2 := zd3 (i : Int) I; have a3 := q5l (i : Int) I; have a4 := q5m (i : Int) I
  have hI' : (I.length : Int) ≤ 1000000000000 := by omega
  rw [wrap_i64 (by unfold I64; omega)];have e1 := qyn (i : Int) I;have e2 := qyo (i : Int) I
  have e3 : aF (i : Int) I - aT (i : Int) I + (cF (i : Int) I - cT (i : Int) I) = aF ((i : Int) + 1) I - aT ((i : Int) + 1) I := by omega
  rw [e3, (qyp (i : Int) fun q hq => (h.rng q hq).2.1).2]
  have := q21 h hI k (i + 1) (F.set i (inI i I)) (by omega) (by rw [List.length_set]; exact h1) (fun m hm => by
   rw [List.getElem?_set]
   by_cases c : i = m
   ·subst c; rw [if_pos rfl, if_pos (by omega)]
   ·rw [if_neg c]; exact h2 m (by omega))
  rw [Int.toNat_natCast];exact this
def frm (d b : Int) : Int := max 0 (b - 1440 * d)
def til (l : S2062) (d b : Int) : Int := min 1440 (b + l.Length - 1440 * d)
def ivB (ms : List S1079) (l : S2062) (d b : Int) : List (Int × Int) := if cntI (ofL l ms) b l.Length < l.Most then [] else if frm d b < til l d b then [(frm d b, til l d b)] else []
def ivX (ms : List S1079) (l : S2062) (d x : Int) : List (Int × Int) := (begL l x).flatMap (ivB ms l d)
def ivD (ms : List S1079) (l : S2062) (d : Int) : List (Int × Int) := ivX ms l d (d - 1) ++ ivX ms l d d
def ivL (ms : List S1079) (a2 : S115) (l : S2062) : List (Int × Int) := if qb0 l a2.Kind a2.Terminal = true then (s69 a2.Period).1.flatMap (ivD ms l) else []
def ivs (ms : List S1079) (a2 : S115) (ls : List S2062) : List (Int × Int) := ls.flatMap (ivL ms a2)
theorem q82 {ms : List S1079} {l : S2062} (hl : LimOk l) {d b : Int} (hd0 : 0 ≤ d) (hd1 : d ≤ 1000000) (hb0 : 1440 * (d - 1) ≤ b) (hb1 : b ≤ 1440 * d + 1439) {e : List Int} {I : List (Int × Int)} (h : Ed e I) (hI : I.length ≤ 1000000000000)
  (rec5 : Int → Int → Int → List Int → Option (List Bool)) (x43 x44 x45 : Int) : ∃ e', qbp rec5 l d e b (cntI (ofL l ms) b l.Length) x43 x44 x45 = rec5 x43 x44 x45 e' ∧ Ed e' (I ++ ivB ms l d b) := by
 have h0 := hl.l0; have h1 := hl.l1;unfold qbp ivB frm til;rw [wrap_i64 (n := 1440 * d) (by unfold I64; omega), wrap_i64 (n := b - 1440 * d) (by unfold I64; omega), wrap_i64 (n := b + l.Length) (by unfold I64; omega), wrap_i64 (n := b + l.Length - 1440 * d) (by unfold I64; omega)];rw [cond_eq_ite]
 by_cases c1 : cntI (ofL l ms) b l.Length < l.Most
 ·rw [if_pos (decide_eq_true c1), if_pos c1]; exact ⟨e, rfl, by rwa [List.append_nil]⟩
 ·rw [if_neg (by simpa using c1), if_neg c1, cond_eq_ite]
  by_cases c2 : max 0 (b - 1440 * d) < min 1440 (b + l.Length - 1440 * d)
  ·rw [if_pos (decide_eq_true c2), if_pos c2];obtain ⟨y, q1, y', q2, q3⟩ := q5p h hI (Int.le_max_left 0 (b - 1440 * d)) c2 (Int.min_le_left 1440 (b + l.Length - 1440 * d));rw [q1]; simp only [qz];rw [q2];exact ⟨_, U, q3⟩
  ·rw [if_neg (by simpa using c2), if_neg c2]; exact ⟨e, rfl, by rwa [List.append_nil]⟩
structure Cch (ms : List S1079) (l : S2062) (x35 x36 x37 : Int) : Prop where
 z : x35 = 0
 c : x36 = -1 ∨ x37 = cntI (ofL l ms) x36 l.Length
theorem qyq (ms : List S1079) (l : S2062) (d b : Int) : (ivB ms l d b).length ≤ 1 := by
 unfold ivB
 split
 ·simp
 ·split <;> simp
theorem q22 {ms : List S1079} {l : S2062} (hl : LimOk l) {d : Int} (hd0 : 0 ≤ d) (hd1 : d ≤ 1000000) (rec4 : Int → Int → Int → Int → List Int → Option (List Bool)) (x26 : Int) : ∀ (t : List Int), (∀ b ∈ t, 0 ≤ b ∧ 1440 * (d - 1) ≤ b ∧ b ≤ 1440 * d + 1439) →
  ∀ (x35 x36 x37 : Int) (e : List Int) (I : List (Int × Int)), Cch ms l x35 x36 x37 → Ed e I → I.length + t.length ≤ 1000000000000 →
  ∃ y35 y36 y37 e', vy rec4 ms l d x26 t x35 x36 x37 e = rec4 (x26 + 1) y35 y36 y37 e' ∧ Cch ms l y35 y36 y37 ∧ Ed e' (I ++ t.flatMap (ivB ms l d))
 | [], _, x35, x36, x37, e, I, hc, he, _ => ⟨_, _, _, _, rfl, hc, by simpa using he⟩
 | b :: t, ht, x35, x36, x37, e, I, hc, he, hI => by
  obtain ⟨hb, hb0, hb1⟩ := ht b List.mem_cons_self;rw [List.length_cons] at hI;have hlen := qyq ms l d b
  have key : ∀ (q35 q36 q37 : Int), Cch ms l q35 q36 q37 → ∃ y35 y36 y37 e', qbp (fun z0_ z1_ z2_ z3_ => vy rec4 ms l d x26 t z0_ z1_ z2_ z3_) l d e b (cntI (ofL l ms) b l.Length) q35 q36 q37 = rec4 (x26 + 1) y35 y36 y37 e' ∧ Cch ms l y35 y36 y37 ∧ Ed e' (I ++ (b :: t).flatMap (ivB ms l d)) := by
   intro q35 q36 q37 hq;obtain ⟨e', g1, g2⟩ := q82 (ms := ms) hl hd0 hd1 hb0 hb1 he (by omega) (fun z0_ z1_ z2_ z3_ => vy rec4 ms l d x26 t z0_ z1_ z2_ z3_) q35 q36 q37;obtain ⟨y35, y36, y37, e2, g3, g4, g5⟩ := q22 hl hd0 hd1 rec4 x26 t (fun b hb => ht b (List.mem_cons_of_mem _ hb)) q35 q36 q37 e' (I ++ ivB ms l d b) hq g2 (by rw [List.length_append]; omega);exact ⟨y35, y36, y37, e2, g1.trans g3, g4, by rw [List.flatMap_cons, ← List.append_assoc]; exact g5⟩
  rw [vy, cond_eq_ite]
  by_cases c : x36 = b
  ·subst c
   have e1 : qit [decide (x35 = 0), decide (x36 = x36), decide (x37 = x37)] = true := by rw [hc.z]; simp [qit]
   rw [e1];have e2 : x37 = cntI (ofL l ms) x36 l.Length := hc.c.resolve_left (by omega);have := key x35 x36 x37 hc;rw [if_neg (by simp)];rw [← e2] at this;exact this
  ·have e1 : qit [decide (x35 = 0), decide (x36 = b), decide (x37 = x37)] = false := by simp [qit, c]
   rw [e1, if_pos (by simp)];exact key 0 b _ ⟨U, .inr U⟩
theorem qor {l : S2062} (hl : LimOk l) (d : Int) : (begL l d).length ≤ 1440 := by
 unfold begL
 cases ((decide (d < l.Period.fFrom)) || (decide (l.Period.fTo < d))) || (!(qi2 l d)) with
 | true => exact Nat.zero_le _
 | false =>
  rw [cond_false, List.length_map, List.length_range];have h1 := q46 hl; have h2 := (q05 hl).2.1; have h3 := hl.t0; have h4 := hl.t1; have h5 := hl.s0;have : l.fTo / l.Step ≤ l.fTo := Int.ediv_le_self _ (by omega)
  omega
theorem qlz {α β : Type} {f : α → List β} {n : Nat} : ∀ {l : List α}, (∀ x ∈ l, (f x).length ≤ n) → (l.flatMap f).length ≤ l.length * n
 | [], _ => by simp
 | x :: l, h => by
  have h1 := h x List.mem_cons_self;have h2 := qlz (l := l) fun y hy => h y (List.mem_cons_of_mem _ hy);rw [List.flatMap_cons, List.length_append, List.length_cons, Nat.succ_mul]; omega
theorem qr8 {ms : List S1079} {l : S2062} (hl : LimOk l) (d x : Int) : (ivX ms l d x).length ≤ 1440 := by
 have h1 := qlz (f := ivB ms l d) (n := 1) (l := begL l x) fun b _ => qyq ms l d b;have h2 := qor hl x;unfold ivX; omega
theorem qyr {ms : List S1079} {l : S2062} (hl : LimOk l) (d : Int) : (ivD ms l d).length ≤ 2880 := by
 have h1 := qr8 (ms := ms) hl d (d - 1); have h2 := qr8 (ms := ms) hl d d;unfold ivD; rw [List.length_append]; omega
theorem q5q {ms : List S1079} {a2 : S115} (hp : s102 a2.Period = 0) {l : S2062} (hl : LimOk l) : (ivL ms a2 l).length ≤ 1154880 := by
 unfold ivL
 split
 ·have h1 := qlz (f := ivD ms l) (n := 2880) (l := (s69 a2.Period).1) fun d _ => qyr hl d;have h2 := qox hp
  omega
 ·simp
theorem q83 {ms : List S1079} {l : S2062} (hl : LimOk l) {d : Int} (hd0 : 0 ≤ d) (hd1 : d ≤ 1000000) (x : Int) (hx : x = d - 1 ∨ x = d) (rec4 : Int → Int → Int → Int → List Int → Option (List Bool)) (x26 x35 x36 x37 : Int) (e : List Int) (I : List (Int × Int)) (hc : Cch ms l x35 x36 x37) (he : Ed e I) (hI : I.length ≤ 900000000000) :
  ∃ y35 y36 y37 e', vy rec4 ms l d x26 (begL l x) x35 x36 x37 e = rec4 (x26 + 1) y35 y36 y37 e' ∧ Cch ms l y35 y36 y37 ∧ Ed e' (I ++ ivX ms l d x) := by
 have hn := qor hl x
 exact q22 hl hd0 hd1 rec4 x26 (begL l x) (fun b hb => by
  have := qkk hl hb;have := hl.p0
  omega) x35 x36 x37 e I hc he (by omega)
theorem q84 {ms : List S1079} {l : S2062} (hl : LimOk l) {d : Int} (hd0 : 0 ≤ d) (hd1 : d ≤ 1000000) (rec3 : Nat → Int → Int → Int → List Int → Option (List Bool)) (k23 : Nat) (x35 x36 x37 : Int) (e : List Int) (I : List (Int × Int)) (hc : Cch ms l x35 x36 x37) (he : Ed e I) (hI : I.length ≤ 800000000000) :
  ∃ y35 y36 y37 e', vg rec3 ms l k23 d (((2 : Int) - 0).toNat) 0 x35 x36 x37 e = rec3 (k23 + 1) y35 y36 y37 e' ∧ Cch ms l y35 y36 y37 ∧ Ed e' (I ++ ivD ms l d) := by
 rw [show ((2 : Int) - 0).toNat = 0 + 1 + 1 from rfl, vg, wrap_i64 (by unfold I64; omega)];rw [show ixO [d - 1, d] 0 = some (d - 1) from rfl];simp only [qz];obtain ⟨u35, u36, u37, e1, g1, g2, g3⟩ := q83 (ms := ms) hl hd0 hd1 (d - 1) (.inl rfl) (fun z0_ z1_ z2_ z3_ z4_ => vg rec3 ms l k23 d (0 + 1) z0_ z1_ z2_ z3_ z4_) 0 x35 x36 x37 e I hc he (by omega);rw [g1, vg, wrap_i64 (by unfold I64; omega)];rw [show ixO [d - 1, d] (0 + 1) = some d from rfl];simp only [qz];have hx := qr8 (ms := ms) hl d (d - 1);obtain ⟨y35, y36, y37, e2, g4, g5, g6⟩ := q83 (ms := ms) hl hd0 hd1 d (.inr rfl) (fun z0_ z1_ z2_ z3_ z4_ => vg rec3 ms l k23 d 0 z0_ z1_ z2_ z3_ z4_) (0 + 1) u35 u36 u37 e1 (I ++ ivX ms l d (d - 1)) g2 g3 (by rw [List.length_append]; omega);rw [g4, vg];exact ⟨y35, y36, y37, e2, U, g5, by unfold ivD; rw [← List.append_assoc]; exact g6⟩
theorem q23 {ms : List S1079} {l : S2062} (hl : LimOk l) (rec1 : Nat → List Int → Option (List Bool)) (k4 : Nat) : ∀ (t : List Int), (∀ d ∈ t, 0 ≤ d ∧ d ≤ 1000000) → ∀ (k23 : Nat) (x35 x36 x37 : Int) (e : List Int) (I : List (Int × Int)), Cch ms l x35 x36 x37 → Ed e I → I.length + t.length * 2880 ≤ 700000000000 →
  ∃ e', vp rec1 ms k4 l t k23 x35 x36 x37 e = rec1 (k4 + 1) e' ∧ Ed e' (I ++ t.flatMap (ivD ms l))
 | [], _, k23, x35, x36, x37, e, I, hc, he, _ => ⟨e, rfl, by simpa using he⟩
 | d :: t, ht, k23, x35, x36, x37, e, I, hc, he, hI => by
  obtain ⟨h0, h1⟩ := ht d List.mem_cons_self;rw [List.length_cons, Nat.succ_mul] at hI;rw [vp];obtain ⟨y35, y36, y37, e1, g1, g2, g3⟩ := q84 (ms := ms) hl h0 h1 (fun k_ z0_ z1_ z2_ z3_ => vp rec1 ms k4 l t k_ z0_ z1_ z2_ z3_) k23 x35 x36 x37 e I hc he (by omega);have hx := qyr (ms := ms) hl d;obtain ⟨e2, g4, g5⟩ := q23 hl rec1 k4 t (fun x hx => ht x (List.mem_cons_of_mem _ hx)) (k23 + 1) y35 y36 y37 e1 (I ++ ivD ms l d) g2 g3 (by rw [List.length_append]; omega);exact ⟨e2, g1.trans g4, by rw [List.flatMap_cons, ← List.append_assoc]; exact g5⟩
theorem qkd {p : S45} (hp : s102 p = 0) : ∀ d ∈ (s69 p).1, 0 ≤ d ∧ d ≤ 99999 := by
 intro d hd;rw [qk5 hp] at hd;have h1 := qd0 _ _ _ d hd;obtain ⟨q1, q2, q3, q4, q5, q6⟩ := vk p hp
 omega
theorem qys {ms : List S1079} {a2 : S115} (hp : s102 a2.Period = 0) : ∀ (t : List S2062), (∀ l ∈ t, LimOk l) → ∀ (k4 : Nat) (e : List Int) (I : List (Int × Int)), Ed e I → I.length + t.length * 1154880 ≤ 600000000000 →
  ∃ F, kd ms a2 t k4 e = some F ∧ F.length = 1440 ∧ ∀ m : Nat, m < 1440 → F[m]? = some (inI m (I ++ ivs ms a2 t))
 | [], _, k4, e, I, he, hI => by
  rw [kd];rw [show ((1440 : Int) - 0).toNat = 1440 from rfl];generalize hN : (1440 : Nat) = N
  have q1 : I.length ≤ 1000000000000 := by rw [List.length_nil, Nat.zero_mul] at hI; omega
  have q2 : (List.replicate N false).length = 1440 := List.length_replicate.trans hN.symm
  have q3 : 0 + N = 1440 := by omega
  have q4 : ∀ m : Nat, m < 0 → (List.replicate N false)[m]? = some (inI m I) := fun m hm => absurd hm (Nat.not_lt_zero m);obtain ⟨F, g1, g2, g3⟩ := q21 he q1 N 0 (List.replicate N false) q3 q2 q4
  have e0 : aF ((0 : Nat) : Int) I - aT ((0 : Nat) : Int) I = 0 := by
   have h1 : aF ((0 : Nat) : Int) I = 0 := by
    unfold aF
    have : I.countP (fun q => decide (q.1 < ((0 : Nat) : Int))) = 0 := List.countP_eq_zero.2 fun q hq => by have := (he.rng q hq).1; simp; omega
    rw [this]; rfl
   have h2 : aT ((0 : Nat) : Int) I = 0 := by
    unfold aT
    have : I.countP (fun q => decide (q.2 < ((0 : Nat) : Int))) = 0 := List.countP_eq_zero.2 fun q hq => by have := he.rng q hq; simp; omega
    rw [this]; rfl
   rw [h1, h2]; rfl
  rw [e0] at g1;refine ⟨F, g1, g2.trans hN, fun m hm => ?_⟩;have := g3 m (by omega)
  simpa [ivs] using this
 | l :: t, ht, k4, e, I, he, hI => by
  have hl := ht l List.mem_cons_self;have ht' := fun x hx => ht x (List.mem_cons_of_mem _ hx)
  have hI2 : I.length + t.length * 1154880 + 1154880 ≤ 600000000000 := by rw [List.length_cons] at hI; omega
  clear hI;rw [kd, cond_eq_ite];have hx := q5q (ms := ms) hp hl
  cases hc : qb0 l a2.Kind a2.Terminal with
  | false =>
   rw [if_pos (by simp), qfv];obtain ⟨F, g1, g2, g3⟩ := qys hp t ht' (k4 + 1) e I he (by omega);refine ⟨F, g1, g2, ?_⟩;unfold ivs at g3 ⊢;rw [List.flatMap_cons];unfold ivL at g3 ⊢;rw [hc, if_neg (by simp), List.nil_append]; exact g3
  | true =>
   rw [if_neg (by simp)];have hdl := qox hp;obtain ⟨e1, g1, g2⟩ := q23 (ms := ms) hl (fun k_ z0_ => kd ms a2 t k_ z0_) k4 (s69 a2.Period).1 (fun d hd => by have := qkd hp d hd; omega) 0 0 (-1) 0 e I ⟨rfl, .inl rfl⟩ he (by omega)
   have eL : ivL ms a2 l = (s69 a2.Period).1.flatMap (ivD ms l) := by unfold ivL; rw [hc, if_pos rfl]
   rw [← eL] at g2;obtain ⟨F, g3, g4, g5⟩ := qys hp t ht' (k4 + 1) e1 (I ++ ivL ms a2 l) g2 (by rw [List.length_append]; omega);refine ⟨F, ?_, g4, ?_⟩
   ·rw [g1]; exact g3
   ·unfold ivs at g5 ⊢;rw [List.flatMap_cons, ← List.append_assoc]; exact g5
theorem qyt {a0 : List S2062} {a1 : List S1079} {a2 : S115} (h1 : a0.length ≤ 1000) (h2 : ∀ l ∈ a0, LimOk l) (hp : s102 a2.Period = 0) : ∃ F, qr4 a0 a1 a2 = some F ∧ F.length = 1440 ∧ ∀ m : Nat, m < 1440 → F[m]? = some (inI m (ivs a1 a2 a0)) := by
 unfold qr4;obtain ⟨F, g1, g2, g3⟩ := qys (ms := a1) hp a0 h2 0 (List.replicate 1441 0) [] q81 (by simp; omega);exact ⟨F, g1, g2, by simpa using g3⟩
theorem wg {α : Type} (A : List α) (x : α) (B : List α) {n : Int} (h : n = (A.length : Int)) : ixO (A ++ x :: B) n = some x := by
 subst h;unfold ixO;rw [decide_eq_true (by omega), cond_true]
 simp
theorem qe8 {α : Type} (A : List α) (x y : α) (B : List α) {n : Int} (h : n = (A.length : Int)) : List.set (A ++ x :: B) n.toNat y = A ++ y :: B := by
 subst h
 simp
theorem q85 (a1 a2 : Int) : ∀ (X Y A B C : List S1079) (i : Int), X.length = Y.length → a1 + i = (A.length : Int) → a2 + i = (A.length : Int) + (X.length : Int) + (B.length : Int) →
  qae a1 a2 X.length i (A ++ X ++ B ++ Y ++ C) = some (A ++ Y ++ B ++ X ++ C)
 | [], [], A, B, C, i, _, _, _ => by rw [List.length_nil, qae]
 | x :: X, y :: Y, A, B, C, i, h, h1, h2 => by
  have hl : X.length = Y.length := by simpa using h
  have hL : A ++ (x :: X) ++ B ++ (y :: Y) ++ C = (A ++ x :: X ++ B) ++ y :: (Y ++ C) := by simp
  have hL2 : (A ++ x :: X ++ B) ++ y :: (Y ++ C) = A ++ x :: (X ++ B ++ y :: (Y ++ C)) := by simp
  have e2 : a2 + i = ((A ++ x :: X ++ B).length : Int) := by rw [h2]; simp; omega
  rw [List.length_cons, qae, hL, wg _ _ _ e2];simp only [qz];rw [hL2, wg _ _ _ h1];simp only [qz];rw [qe8 _ _ _ _ h1]
  have hL3 : A ++ y :: (X ++ B ++ y :: (Y ++ C)) = (A ++ y :: X ++ B) ++ y :: (Y ++ C) := by simp
  have e3 : a2 + i = ((A ++ y :: X ++ B).length : Int) := by rw [h2]; simp; omega
  rw [hL3, wg _ _ _ e3];simp only [qz];rw [qe8 _ _ _ _ e3]
  have hL4 : (A ++ y :: X ++ B) ++ x :: (Y ++ C) = (A ++ [y]) ++ X ++ (B ++ [x]) ++ Y ++ C := by simp
  rw [hL4, q85 a1 a2 X Y (A ++ [y]) (B ++ [x]) C (i + 1) hl (by simp; omega) (by simp at h2 ⊢; omega)]
  simp
 | [], _ :: _, _, _, _, _, h, _, _ => by simp at h
 | _ :: _, [], _, _, _, _, h, _, _ => by simp at h
theorem qr9 (X Y A B C : List S1079) {a1 a2 a3 : Int} (a4 : S1079 → S1079 → Option Int) (h : X.length = Y.length) (h1 : a1 = (A.length : Int)) (h2 : a2 = (A.length : Int) + (X.length : Int) + (B.length : Int)) (h3 : a3 = (X.length : Int)) :
  qqt (A ++ X ++ B ++ Y ++ C) a1 a2 a3 a4 = some (A ++ Y ++ B ++ X ++ C) := by
 unfold qqt
 have e : (a3 - 0).toNat = X.length := by omega
 rw [e];exact q85 a1 a2 X Y A B C 0 h (by omega) (by omega)
theorem rotR (m : Int) (a4 : S1079 → S1079 → Option Int) : ∀ (k : Nat) (X Y P Q : List S1079), 0 < X.length → 0 < Y.length → X.length + Y.length < k → m = (P.length : Int) + (X.length : Int) →
  qa4 m a4 k (X.length : Int) (Y.length : Int) (P ++ X ++ Y ++ Q) = some (P ++ Y ++ X ++ Q)
 | 0, X, Y, P, Q, hx, hy, hk, hm => by omega
 | k + 1, X, Y, P, Q, hx, hy, hk, hm => by
  rw [qa4]
  by_cases hne : X.length = Y.length
  ·rw [decide_eq_false (by omega), cond_false];have := qr9 X Y P [] Q a4 hne (a1 := m - (X.length : Int)) (a2 := m) (a3 := (X.length : Int)) (by omega) (by simp; omega) rfl;simp only [List.append_nil] at this;rw [this]; rfl
  ·rw [decide_eq_true (by omega), cond_true]
   by_cases hlt : Y.length < X.length
   ·rw [decide_eq_true (by omega), cond_true]
    -- X = X1 ++ X2, of which X1 is as long as Y
    obtain ⟨X1, X2, rfl, h1⟩ : ∃ X1 X2, X = X1 ++ X2 ∧ X1.length = Y.length := ⟨X.take Y.length, X.drop Y.length, (List.take_append_drop ..).symm, by rw [List.length_take]; omega⟩;simp only [List.length_append] at *;have hs := qr9 X1 Y P X2 Q a4 h1 (a1 := m - ((X1.length + X2.length : Nat) : Int)) (a2 := m) (a3 := (Y.length : Int)) (by omega) (by omega) (by omega);rw [show P ++ (X1 ++ X2) ++ Y ++ Q = P ++ X1 ++ X2 ++ Y ++ Q by simp, hs];simp only [qz];have ih := rotR m a4 k X2 X1 (P ++ Y) Q (by omega) (by omega) (by omega) (by simp; omega);rw [show (((X1.length + X2.length : Nat) : Int) - (Y.length : Int)) = (X2.length : Int) by omega, show (Y.length : Int) = (X1.length : Int) by omega, ih]
    simp
   ·rw [decide_eq_false (by omega), cond_false];obtain ⟨Y1, Y2, rfl, h1⟩ : ∃ Y1 Y2, Y = Y1 ++ Y2 ∧ Y2.length = X.length := ⟨Y.take (Y.length - X.length), Y.drop (Y.length - X.length), (List.take_append_drop ..).symm, by rw [List.length_drop]; omega⟩;simp only [List.length_append] at *;have hs := qr9 X Y2 P Y1 Q a4 h1.symm (a1 := m - (X.length : Int)) (a2 := (m + ((Y1.length + Y2.length : Nat) : Int)) - (X.length : Int)) (a3 := (X.length : Int)) (by omega) (by omega) rfl;rw [show P ++ X ++ (Y1 ++ Y2) ++ Q = P ++ X ++ Y1 ++ Y2 ++ Q by simp, hs];simp only [qz];have ih := rotR m a4 k Y2 Y1 P (X ++ Q) (by omega) (by omega) (by omega) (by omega);rw [show (((Y1.length + Y2.length : Nat) : Int) - (X.length : Int)) = (Y1.length : Int) by omega, show (X.length : Int) = (Y2.length : Int) by omega, show P ++ Y2 ++ Y1 ++ X ++ Q = P ++ Y2 ++ Y1 ++ (X ++ Q) by simp, ih]
    simp
theorem q86 (X Y P Q : List S1079) {a1 a2 a3 : Int} (a4 : S1079 → S1079 → Option Int) (hx : 0 < X.length) (hy : 0 < Y.length) (h1 : a1 = (P.length : Int)) (h2 : a2 = (P.length : Int) + (X.length : Int)) (h3 : a3 = (P.length : Int) + (X.length : Int) + (Y.length : Int)) :
  qqu (P ++ X ++ Y ++ Q) a1 a2 a3 a4 = some (P ++ Y ++ X ++ Q) := by
 unfold qqu;rw [show a2 - a1 = (X.length : Int) by omega, show a3 - a2 = (Y.length : Int) by omega];exact rotR a2 a4 _ X Y P Q hx hy (by omega) h2
structure WOrd (lt : S1079 → S1079 → Bool) (cmp : S1079 → S1079 → Option Int) : Prop where
 c : ∀ x y, ∃ v, cmp x y = some v ∧ decide (v < 0) = lt x y
 tr : ∀ x y z, lt y x = false → lt z y = false → lt z x = false
 asy : ∀ x y, lt x y = true → lt y x = false
variable {lt : S1079 → S1079 → Bool} {cmp : S1079 → S1079 → Option Int}
abbrev Srt (lt : S1079 → S1079 → Bool) (l : List S1079) : Prop := l.Pairwise fun x y => lt y x = false
theorem WOrd.lt_of (w : WOrd lt cmp) {x y z : S1079} (h1 : lt y x = false) (h2 : lt y z = true) : lt x z = true := by
 cases h : lt x z with
 | true => rfl
 | false => exact absurd (w.tr _ _ _ h h1) (by rw [h2]; simp)
theorem WOrd.lt_of' (w : WOrd lt cmp) {x y z : S1079} (h1 : lt x y = true) (h2 : lt z y = false) : lt x z = true := by
 cases h : lt x z with
 | true => rfl
 | false => exact absurd (w.tr _ _ _ h2 h) (by rw [h1]; simp)
theorem qtp {l : List S1079} (h : Srt lt l) {c : Nat} {y : S1079} (hc : l[c]? = some y) : ∀ x ∈ l.take (c + 1), x = y ∨ lt y x = false := by
 intro x hx;obtain ⟨i, hi⟩ := List.mem_iff_getElem?.1 hx;rw [List.getElem?_take] at hi
 split at hi
 ·rename_i hlt
  obtain ⟨h1, h2⟩ := List.getElem?_eq_some_iff.1 hc;obtain ⟨h3, h4⟩ := List.getElem?_eq_some_iff.1 hi
  by_cases hic : i = c
  ·subst hic; exact .inl (by rw [← h4, ← h2])
  ·refine .inr ?_;rw [← h4, ← h2];exact List.pairwise_iff_getElem.1 h i c h3 h1 (by omega)
 ·cases hi
theorem qtq {l : List S1079} (h : Srt lt l) {c : Nat} {y : S1079} (hc : l[c]? = some y) : ∀ x ∈ l.drop c, x = y ∨ lt x y = false := by
 intro x hx;obtain ⟨i, hi⟩ := List.mem_iff_getElem?.1 hx;rw [List.getElem?_drop] at hi;obtain ⟨h1, h2⟩ := List.getElem?_eq_some_iff.1 hc;obtain ⟨h3, h4⟩ := List.getElem?_eq_some_iff.1 hi
 by_cases hic : i = 0
 ·subst hic; exact .inl (by rw [← h4, ← h2]; rfl)
 ·refine .inr ?_;rw [← h4, ← h2];exact List.pairwise_iff_getElem.1 h c (c + i) h1 h3 (by omega)
theorem sea1 (w : WOrd lt cmp) (P Y Q : List S1079) (x : S1079) (hY : Srt lt Y) {a1 : Int} (ha : a1 = (P.length : Int)) : ∀ (k p q : Nat), p ≤ q → q ≤ Y.length → q - p < k →
  (∀ y ∈ Y.take p, lt y x = true) → (∀ y ∈ Y.drop q, lt y x = false) →
  ∃ i, i ≤ Y.length ∧ (∀ y ∈ Y.take i, lt y x = true) ∧ (∀ y ∈ Y.drop i, lt y x = false) ∧
   wo (P ++ [x] ++ Y ++ Q) a1 cmp k ((P.length : Int) + 1 + (p : Int)) ((P.length : Int) + 1 + (q : Int)) = qaf ((P.length : Int) + 1 + (i : Int)) ((((P.length : Int) + 1 + (i : Int)) - a1).toNat + 1) a1 (P ++ [x] ++ Y ++ Q)
 | 0, p, q, _, _, hk, _, _ => by omega
 | k + 1, p, q, hpq, hq, hk, h1, h2 => by
  by_cases he : p = q
  ·subst he;refine ⟨p, hq, h1, h2, ?_⟩;rw [wo, decide_eq_false (by omega), cond_false]
  ·have hlt : p < q := by omega
   have hc : (p + q) / 2 < Y.length := by omega
   have e0 : (((P.length : Int) + 1 + (p : Int)) + ((P.length : Int) + 1 + (q : Int))) / 2 = (P.length : Int) + 1 + (((p + q) / 2 : Nat) : Int) := by omega
   obtain ⟨y, hy⟩ : ∃ y, Y[(p + q) / 2]? = some y := ⟨Y[(p + q) / 2], List.getElem?_eq_getElem hc⟩
   have i1 : ixO (P ++ [x] ++ Y ++ Q) ((P.length : Int) + 1 + (((p + q) / 2 : Nat) : Int)) = some y := by
    have hs : P ++ [x] ++ Y ++ Q = (P ++ [x] ++ Y.take ((p + q) / 2)) ++ y :: (Y.drop ((p + q) / 2 + 1) ++ Q) := by
     have hd := List.drop_eq_getElem_cons hc;have hy' := (List.getElem?_eq_some_iff.1 hy).2;rw [hy'] at hd
     conv => lhs; rw [← List.take_append_drop ((p + q) / 2) Y, hd]
     simp
    rw [hs, wg]
    simp; omega
   have i2 : ixO (P ++ [x] ++ Y ++ Q) a1 = some x := by
    rw [show P ++ [x] ++ Y ++ Q = P ++ x :: (Y ++ Q) by simp, wg _ _ _ ha]
   obtain ⟨v, hv, hd⟩ := w.c y x;rw [wo, decide_eq_true (by omega), cond_true, e0, i1];simp only [qz];rw [i2];simp only [qz];rw [hv];simp only [qz];rw [hd]
   cases hl : lt y x with
   | true =>
    rw [cond_true, show ((P.length : Int) + 1 + (((p + q) / 2 : Nat) : Int)) + 1 = (P.length : Int) + 1 + (((p + q) / 2 + 1 : Nat) : Int) by omega]
    exact sea1 w P Y Q x hY ha k ((p + q) / 2 + 1) q (by omega) hq (by omega) (fun z hz => by
     rcases qtp hY hy z hz with rfl | h
     ·exact hl
     ·exact w.lt_of h hl) h2
   | false =>
    rw [cond_false]
    exact sea1 w P Y Q x hY ha k p ((p + q) / 2) (by omega) (by omega) (by omega) h1 (fun z hz => by
     rcases qtq hY hy z hz with rfl | h
     ·exact hl
     ·exact w.tr _ _ _ hl h)
variable {lt : S1079 → S1079 → Bool} {cmp : S1079 → S1079 → Option Int}
theorem sh2 (x1 : Int) : ∀ (Y P R : List S1079) (x : S1079) (k : Nat), Y.length < k → x1 = (P.length : Int) + 1 + (Y.length : Int) → qaf x1 k (P.length : Int) (P ++ x :: (Y ++ R)) = some (P ++ Y ++ x :: R)
 | _, _, _, _, 0, hk, _ => by omega
 | [], P, R, x, k + 1, hk, h => by
  rw [qaf, decide_eq_false (by simp at h; omega), cond_false]; simp
 | y :: Y, P, R, x, k + 1, hk, h => by
  have hk : Y.length < k := by simp at hk; omega
  have h' : x1 = (P.length : Int) + 1 + ((Y.length : Int) + 1) := by rw [h]; simp
  have e1 : P ++ x :: (y :: Y ++ R) = (P ++ [x]) ++ y :: (Y ++ R) := by simp
  have q1 : ((P.length : Int) + 1) = ((P ++ [x]).length : Int) := by simp
  rw [qaf, decide_eq_true (by omega), cond_true]
  have i1 : ixO (P ++ x :: (y :: Y ++ R)) ((P.length : Int) + 1) = some y := by rw [e1, wg _ _ _ q1]
  have i2 : ixO (P ++ x :: (y :: Y ++ R)) (P.length : Int) = some x := wg _ _ _ rfl;rw [i1];simp only [qz];rw [i2];simp only [qz];rw [qe8 P x y _ rfl]
  have e2 : P ++ y :: (y :: Y ++ R) = (P ++ [y]) ++ y :: (Y ++ R) := by simp
  have q2 : ((P.length : Int) + 1) = ((P ++ [y]).length : Int) := by simp
  rw [e2, wg _ _ _ q2];simp only [qz];rw [qe8 _ _ _ _ q2, q2, sh2 x1 Y (P ++ [y]) R x k hk (by rw [h']; simp; omega)]
  simp
theorem sh4 : ∀ (n : Nat) (X P R : List S1079) (y : S1079) (k : Nat), X.length = n → n < k → qag (P.length : Int) k ((P.length : Int) + (n : Int)) (P ++ X ++ y :: R) = some (P ++ y :: (X ++ R))
 | n, X, P, R, y, 0, _, hk => by omega
 | 0, X, P, R, y, k + 1, hX, hk => by
  obtain rfl := List.eq_nil_of_length_eq_zero hX;rw [qag, decide_eq_false (by omega), cond_false]; simp
 | n + 1, X, P, R, y, k + 1, hX, hk => by
  obtain ⟨X', z, rfl⟩ : ∃ X' z, X = X' ++ [z] := by
   rcases List.eq_nil_or_concat X with rfl | ⟨X', z, h⟩
   ·simp at hX
   ·exact ⟨X', z, by simpa using h⟩
  have hX' : X'.length = n := by simpa using hX
  have e1 : P ++ (X' ++ [z]) ++ y :: R = (P ++ X') ++ z :: (y :: R) := by simp
  have e2 : P ++ (X' ++ [z]) ++ y :: R = (P ++ X' ++ [z]) ++ y :: R := by simp
  have q1 : ((P.length : Int) + ((n + 1 : Nat) : Int)) - 1 = ((P ++ X').length : Int) := by first | (simp [hX']; done) | (simp [hX']; omega)
  have q2 : ((P.length : Int) + ((n + 1 : Nat) : Int)) = ((P ++ X' ++ [z]).length : Int) := by first | (simp [hX']; done) | (simp [hX']; omega)
  have i1 : ixO (P ++ (X' ++ [z]) ++ y :: R) (((P.length : Int) + ((n + 1 : Nat) : Int)) - 1) = some z := by rw [e1, wg _ _ _ q1]
  have i2 : ixO (P ++ (X' ++ [z]) ++ y :: R) ((P.length : Int) + ((n + 1 : Nat) : Int)) = some y := by rw [e2, wg _ _ _ q2]
  rw [qag, decide_eq_true (by omega), cond_true, i1];simp only [qz];rw [i2];simp only [qz]
  have s1 : List.set (P ++ (X' ++ [z]) ++ y :: R) (Int.toNat ((P.length : Int) + ((n + 1 : Nat) : Int))) z = (P ++ X' ++ [z]) ++ z :: R := by rw [e2, qe8 _ _ _ _ q2]
  rw [s1]
  have e3 : (P ++ X' ++ [z]) ++ z :: R = (P ++ X') ++ z :: (z :: R) := by simp
  rw [e3, wg _ _ _ q1];simp only [qz];rw [qe8 _ _ _ _ q1]
  have q3 : ((P.length : Int) + ((n + 1 : Nat) : Int)) - 1 = (P.length : Int) + (n : Int) := by omega
  rw [q3, show P ++ X' ++ y :: (z :: R) = P ++ X' ++ y :: (z :: R) from rfl, sh4 n X' P (z :: R) y k hX' (by omega)]
  simp
theorem sea3 (w : WOrd lt cmp) (P X Q : List S1079) (y : S1079) (hX : Srt lt X) {a2 : Int} (ha : a2 = (P.length : Int) + (X.length : Int)) : ∀ (k p q : Nat), p ≤ q → q ≤ X.length → q - p < k →
  (∀ x ∈ X.take p, lt y x = false) → (∀ x ∈ X.drop q, lt y x = true) →
  ∃ i, i ≤ X.length ∧ (∀ x ∈ X.take i, lt y x = false) ∧ (∀ x ∈ X.drop i, lt y x = true) ∧
   wt (P ++ X ++ [y] ++ Q) a2 cmp k ((P.length : Int) + (p : Int)) ((P.length : Int) + (q : Int)) = qag ((P.length : Int) + (i : Int)) ((a2 - ((P.length : Int) + (i : Int))).toNat + 1) a2 (P ++ X ++ [y] ++ Q)
 | 0, p, q, _, _, hk, _, _ => by omega
 | k + 1, p, q, hpq, hq, hk, h1, h2 => by
  by_cases he : p = q
  ·subst he;refine ⟨p, hq, h1, h2, ?_⟩;rw [wt, decide_eq_false (by omega), cond_false]
  ·have hlt : p < q := by omega
   have hc : (p + q) / 2 < X.length := by omega
   have e0 : (((P.length : Int) + (p : Int)) + ((P.length : Int) + (q : Int))) / 2 = (P.length : Int) + (((p + q) / 2 : Nat) : Int) := by omega
   obtain ⟨x, hx⟩ : ∃ x, X[(p + q) / 2]? = some x := ⟨X[(p + q) / 2], List.getElem?_eq_getElem hc⟩
   have i1 : ixO (P ++ X ++ [y] ++ Q) ((P.length : Int) + (((p + q) / 2 : Nat) : Int)) = some x := by
    have hs : P ++ X ++ [y] ++ Q = (P ++ X.take ((p + q) / 2)) ++ x :: (X.drop ((p + q) / 2 + 1) ++ [y] ++ Q) := by
     have hd := List.drop_eq_getElem_cons hc;have hx' := (List.getElem?_eq_some_iff.1 hx).2;rw [hx'] at hd
     conv => lhs; rw [← List.take_append_drop ((p + q) / 2) X, hd]
     simp
    rw [hs, wg]
    simp; omega
   have i2 : ixO (P ++ X ++ [y] ++ Q) a2 = some y := by
    rw [show P ++ X ++ [y] ++ Q = (P ++ X) ++ y :: Q by simp, wg];rw [ha]; simp
   obtain ⟨v, hv, hd⟩ := w.c y x;rw [wt, decide_eq_true (by omega), cond_true, e0, i2];simp only [qz];rw [i1];simp only [qz];rw [hv];simp only [qz];rw [hd]
   cases hl : lt y x with
   | false =>
    rw [Bool.not_false, cond_true, show ((P.length : Int) + (((p + q) / 2 : Nat) : Int)) + 1 = (P.length : Int) + (((p + q) / 2 + 1 : Nat) : Int) by omega]
    exact sea3 w P X Q y hX ha k ((p + q) / 2 + 1) q (by omega) hq (by omega) (fun z hz => by
     rcases qtp hX hx z hz with rfl | h
     ·exact hl
     ·exact w.tr _ _ _ h hl) h2
   | true =>
    rw [Bool.not_true, cond_false]
    exact sea3 w P X Q y hX ha k p ((p + q) / 2) (by omega) (by omega) (by omega) h1 (fun z hz => by
     rcases qtq hX hx z hz with rfl | h
     ·exact hl
     ·exact w.lt_of' hl h)
variable {lt : S1079 → S1079 → Bool} {cmp : S1079 → S1079 → Option Int}
theorem qf7 {l : List S1079} (w : WOrd lt cmp) (h : Srt lt l) {i j : Nat} {x y : S1079} (hi : l[i]? = some x) (hj : l[j]? = some y) (hij : i ≤ j) : lt y x = false := by
 obtain ⟨h1, h2⟩ := List.getElem?_eq_some_iff.1 hi;obtain ⟨h3, h4⟩ := List.getElem?_eq_some_iff.1 hj
 rcases Nat.lt_or_ge i j with h5 | h5
 ·have := List.pairwise_iff_getElem.1 h i j h1 h3 h5;rw [h2, h4] at this;exact this
 ·have : i = j := by omega
  subst this
  have : x = y := by rw [← h2, ← h4]
  subst this
  cases hc : lt x x with
  | false => rfl
  | true => exact absurd (w.asy _ _ hc) (by rw [hc]; simp)
theorem qyu {α : Type} (A X B : List α) {j : Nat} {x : α} (hx : X[j]? = some x) {n : Int} (h : n = (A.length : Int) + (j : Int)) : ixO (A ++ X ++ B) n = some x := by
 obtain ⟨h1, h2⟩ := List.getElem?_eq_some_iff.1 hx;have hd := List.drop_eq_getElem_cons h1;rw [h2] at hd
 have hs : A ++ X ++ B = (A ++ X.take j) ++ x :: (X.drop (j + 1) ++ B) := by
  conv => lhs; rw [← List.take_append_drop j X, hd]
  simp
 rw [hs, wg];rw [h]; simp; omega
theorem sea5 (w : WOrd lt cmp) {self : (List S1079) → Int → Int → Int → (S1079 → S1079 → Option Int) → Option (List S1079)} (P X Y Q : List S1079) (hX : Srt lt X) (hY : Srt lt Y) {a m b : Int} {hh s0 r0 : Nat}
  (ha : a = (P.length : Int)) (hm : m = (P.length : Int) + (X.length : Int)) (hb : (a + b) / 2 = (P.length : Int) + (hh : Int)) (hs : hh ≤ s0 + Y.length) (hr : r0 ≤ X.length) (hr2 : r0 ≤ hh) : ∀ (k p q : Nat), s0 ≤ p → p ≤ q → q ≤ r0 → q - p < k →
  (∀ v x y, s0 ≤ v → v < p → X[v]? = some x → Y[hh - 1 - v]? = some y → lt y x = false) → (∀ v x y, q ≤ v → v < r0 → X[v]? = some x → Y[hh - 1 - v]? = some y → lt y x = true) →
  ∃ u, s0 ≤ u ∧ u ≤ r0 ∧ (∀ v x y, s0 ≤ v → v < u → X[v]? = some x → Y[hh - 1 - v]? = some y → lt y x = false) ∧ (∀ v x y, u ≤ v → v < r0 → X[v]? = some x → Y[hh - 1 - v]? = some y → lt y x = true) ∧
   wu self (P ++ X ++ Y ++ Q) a m b cmp k ((P.length : Int) + (p : Int)) ((P.length : Int) + (q : Int)) =
    (bif (decide ((P.length : Int) + (u : Int) < m)) && (decide (m < (((a + b) / 2) + m) - ((P.length : Int) + (u : Int)))) then qz (qqu (P ++ X ++ Y ++ Q) ((P.length : Int) + (u : Int)) m ((((a + b) / 2) + m) - ((P.length : Int) + (u : Int))) cmp) fun r43 => xy self a m b cmp ((P.length : Int) + (u : Int)) r43 else xy self a m b cmp ((P.length : Int) + (u : Int)) (P ++ X ++ Y ++ Q))
 | 0, p, q, _, _, _, hk, _, _ => by omega
 | k + 1, p, q, hsp, hpq, hq, hk, h1, h2 => by
  by_cases he : p = q
  ·subst he;refine ⟨p, hsp, hq, h1, h2, ?_⟩;rw [wu, decide_eq_false (by omega), cond_false]
  ·have hlt : p < q := by omega
   obtain ⟨c, hcd⟩ : ∃ c, c = (p + q) / 2 := ⟨_, rfl⟩
   have hc : c < X.length := by omega
   have hcy : hh - 1 - c < Y.length := by omega
   have e0 : (((P.length : Int) + (p : Int)) + ((P.length : Int) + (q : Int))) / 2 = (P.length : Int) + (c : Int) := by omega
   obtain ⟨x, hx⟩ : ∃ x, X[c]? = some x := ⟨X[c], List.getElem?_eq_getElem hc⟩;obtain ⟨y, hy⟩ : ∃ y, Y[hh - 1 - c]? = some y := ⟨Y[hh - 1 - c], List.getElem?_eq_getElem hcy⟩
   have i1 : ixO (P ++ X ++ Y ++ Q) ((P.length : Int) + (c : Int)) = some x := by
    rw [show P ++ X ++ Y ++ Q = P ++ X ++ (Y ++ Q) by simp, qyu P X (Y ++ Q) hx rfl]
   have i2 : ixO (P ++ X ++ Y ++ Q) (((((a + b) / 2) + m) - 1) - ((P.length : Int) + (c : Int))) = some y := by
    rw [qyu (P ++ X) Y Q hy];rw [hb, hm]; simp; omega
   obtain ⟨v, hv, hd⟩ := w.c y x;rw [wu, decide_eq_true (by omega), cond_true, e0, i2];simp only [qz];rw [i1];simp only [qz];rw [hv];simp only [qz];rw [hd]
   cases hl : lt y x with
   | false =>
    rw [Bool.not_false, cond_true, show ((P.length : Int) + (c : Int)) + 1 = (P.length : Int) + ((c + 1 : Nat) : Int) by omega]
    exact sea5 w P X Y Q hX hY ha hm hb hs hr hr2 k (c + 1) q (by omega) (by omega) hq (by omega) (fun v x' y' hv1 hv2 hx' hy' => by
     -- x' before x, y' behind y
     have g1 := qf7 w hX hx' hx (by omega);have g2 := qf7 w hY hy hy' (by omega)
     exact w.tr _ _ _ (w.tr _ _ _ g1 hl) g2) h2
   | true =>
    rw [Bool.not_true, cond_false]
    exact sea5 w P X Y Q hX hY ha hm hb hs hr hr2 k p c (by omega) (by omega) (by omega) (by omega) h1 (fun v x' y' hv1 hv2 hx' hy' => by
     have g1 := qf7 w hX hx hx' (by omega);have g2 := qf7 w hY hy' hy (by omega)
     exact w.lt_of' (w.lt_of g2 hl) g1)
variable {lt : S1079 → S1079 → Bool} {cmp : S1079 → S1079 → Option Int}
def qyv (lt : S1079 → S1079 → Bool) (f : (List S1079) → Int → Int → Int → Option (List S1079)) (X Y P Q : List S1079) : Prop :=
 ∃ Z, f (P ++ X ++ Y ++ Q) (P.length : Int) ((P.length : Int) + (X.length : Int)) ((P.length : Int) + (X.length : Int) + (Y.length : Int)) = some (P ++ Z ++ Q) ∧ Z.Perm (X ++ Y) ∧ Srt lt Z
theorem q1i (w : WOrd lt cmp) (x : S1079) (Y P Q : List S1079) (hY : Srt lt Y) :
  ∃ Z, wo (P ++ [x] ++ Y ++ Q) (P.length : Int) cmp (Y.length + 1) ((P.length : Int) + 1) ((P.length : Int) + 1 + (Y.length : Int)) = some (P ++ Z ++ Q) ∧ Z.Perm ([x] ++ Y) ∧ Srt lt Z := by
 obtain ⟨i, hi, h1, h2, h3⟩ := sea1 w P Y Q x hY rfl (Y.length + 1) 0 Y.length (Nat.zero_le _) (Nat.le_refl _) (by omega) (fun y hy => by simp at hy) (fun y hy => by simp at hy);rw [show ((P.length : Int) + 1 + ((0 : Nat) : Int)) = (P.length : Int) + 1 by simp] at h3;refine ⟨Y.take i ++ x :: Y.drop i, ?_, ?_, ?_⟩
 ·rw [h3]
  have hs : P ++ [x] ++ Y ++ Q = P ++ x :: (Y.take i ++ (Y.drop i ++ Q)) := by
   rw [← List.append_assoc (Y.take i), List.take_append_drop]; simp
  rw [hs, sh2 _ (Y.take i) P (Y.drop i ++ Q) x _ (by rw [List.length_take]; omega) (by rw [List.length_take]; omega)]
  simp
 ·have := List.perm_middle (a := x) (l₁ := Y.take i) (l₂ := Y.drop i);rw [List.take_append_drop] at this;exact this
 ·refine List.pairwise_append.2 ⟨hY.sublist (List.take_sublist _ _), List.pairwise_cons.2 ⟨h2, hY.sublist (List.drop_sublist _ _)⟩, ?_⟩;intro a ha b hb
  rcases List.mem_cons.1 hb with rfl | hb
  ·exact w.asy _ _ (h1 a ha)
  ·have := w.lt_of' (h1 a ha) (h2 b hb);exact w.asy _ _ this
theorem qyw (w : WOrd lt cmp) (y : S1079) (X P Q : List S1079) (hX : Srt lt X) :
  ∃ Z, wt (P ++ X ++ [y] ++ Q) ((P.length : Int) + (X.length : Int)) cmp (X.length + 1) (P.length : Int) ((P.length : Int) + (X.length : Int)) = some (P ++ Z ++ Q) ∧ Z.Perm (X ++ [y]) ∧ Srt lt Z := by
 obtain ⟨i, hi, h1, h2, h3⟩ := sea3 w P X Q y hX rfl (X.length + 1) 0 X.length (Nat.zero_le _) (Nat.le_refl _) (by omega) (fun y hy => by simp at hy) (fun y hy => by simp at hy);rw [show ((P.length : Int) + ((0 : Nat) : Int)) = (P.length : Int) by simp] at h3;refine ⟨X.take i ++ y :: X.drop i, ?_, ?_, ?_⟩
 ·rw [h3]
  have hl : (P ++ X.take i).length = P.length + i := by simp; omega
  have hs : P ++ X ++ [y] ++ Q = (P ++ X.take i) ++ X.drop i ++ y :: Q := by
   conv => lhs; rw [← List.take_append_drop i X]
   simp
  have e1 : (P.length : Int) + (i : Int) = ((P ++ X.take i).length : Int) := by rw [hl]; omega
  have e2 : (P.length : Int) + (X.length : Int) = ((P ++ X.take i).length : Int) + ((X.length - i : Nat) : Int) := by rw [hl]; omega
  rw [e1, e2, hs, sh4 (X.length - i) (X.drop i) (P ++ X.take i) Q y _ (by simp) (by omega)]
  simp
 ·have := List.perm_middle (a := y) (l₁ := X.take i) (l₂ := X.drop i);rw [List.take_append_drop] at this;exact this.trans (List.perm_append_comm (l₁ := [y]) (l₂ := X))
 ·refine List.pairwise_append.2 ⟨hX.sublist (List.take_sublist _ _), List.pairwise_cons.2 ⟨fun b hb => w.asy _ _ (h2 b hb), hX.sublist (List.drop_sublist _ _)⟩, ?_⟩;intro a ha b hb
  rcases List.mem_cons.1 hb with rfl | hb
  ·exact h1 a ha
  ·exact w.asy _ _ (w.lt_of (h1 a ha) (h2 b hb))
variable {lt : S1079 → S1079 → Bool} {cmp : S1079 → S1079 → Option Int}
section
variable {self : (List S1079) → Int → Int → Int → (S1079 → S1079 → Option Int) → Option (List S1079)} {N : Nat}
 (ih : ∀ X Y P Q : List S1079, 0 < X.length → 0 < Y.length → X.length + Y.length < N → Srt lt X → Srt lt Y → qyv lt (fun l a m b => self l a m b cmp) X Y P Q)
include ih
theorem q87 (A B P R : List S1079) (hA : Srt lt A) (hB : Srt lt B) (hN : A.length + B.length < N) {a m b x : Int} (ha : a = (P.length : Int)) (hx : x = (P.length : Int) + (A.length : Int)) (hmid : (a + b) / 2 = (P.length : Int) + (A.length : Int) + (B.length : Int)) :
  ∃ Z, xy self a m b cmp x (P ++ A ++ B ++ R) = qbq self a m b cmp x (P ++ Z ++ R) ∧ Z.Perm (A ++ B) ∧ Srt lt Z := by
 unfold xy
 by_cases h1 : 0 < A.length
 ·by_cases h2 : 0 < B.length
  ·obtain ⟨Z, q1, q2, q3⟩ := ih A B P R h1 h2 hN hA hB;refine ⟨Z, ?_, q2, q3⟩;rw [decide_eq_true (by omega), decide_eq_true (by omega), Bool.and_self, cond_true, hmid, hx, ha];have q1 : self (P ++ A ++ B ++ R) (P.length : Int) ((P.length : Int) + (A.length : Int)) ((P.length : Int) + (A.length : Int) + (B.length : Int)) cmp = some (P ++ Z ++ R) := q1;rw [q1]; rfl
  ·have hb0 : B = [] := List.eq_nil_of_length_eq_zero (by omega);subst hb0;refine ⟨A, ?_, by simp, hA⟩;rw [decide_eq_false (show ¬ x < (a + b) / 2 by rw [hmid, hx]; simp), Bool.and_false, cond_false, List.append_nil]
 ·have ha0 : A = [] := List.eq_nil_of_length_eq_zero (by omega);subst ha0;refine ⟨B, ?_, by simp, hB⟩;rw [decide_eq_false (show ¬ a < x by rw [ha, hx]; simp), Bool.false_and, cond_false, List.append_nil]
theorem q88 (C D P Q : List S1079) (hC : Srt lt C) (hD : Srt lt D) (hN : C.length + D.length < N) {a m b x : Int} (hmid : (a + b) / 2 = (P.length : Int)) (hx : (((a + b) / 2) + m) - x = (P.length : Int) + (C.length : Int)) (hb : b = (P.length : Int) + (C.length : Int) + (D.length : Int)) :
  ∃ Z, qbq self a m b cmp x (P ++ C ++ D ++ Q) = some (P ++ Z ++ Q) ∧ Z.Perm (C ++ D) ∧ Srt lt Z := by
 unfold qbq;rw [hx]
 by_cases h1 : 0 < C.length
 ·by_cases h2 : 0 < D.length
  ·obtain ⟨Z, q1, q2, q3⟩ := ih C D P Q h1 h2 hN hC hD;refine ⟨Z, ?_, q2, q3⟩;rw [decide_eq_true (by omega), decide_eq_true (by omega), Bool.and_self, cond_true, hmid, hb];have q1 : self (P ++ C ++ D ++ Q) (P.length : Int) ((P.length : Int) + (C.length : Int)) ((P.length : Int) + (C.length : Int) + (D.length : Int)) cmp = some (P ++ Z ++ Q) := q1;rw [q1]; rfl
  ·have hd0 : D = [] := List.eq_nil_of_length_eq_zero (by omega);subst hd0;refine ⟨C, ?_, by simp, hC⟩;rw [decide_eq_false (show ¬ (P.length : Int) + (C.length : Int) < b by rw [hb]; simp), Bool.and_false, cond_false, List.append_nil]
 ·have hc0 : C = [] := List.eq_nil_of_length_eq_zero (by omega);subst hc0;refine ⟨D, ?_, by simp, hD⟩;rw [decide_eq_false (show ¬ (a + b) / 2 < (P.length : Int) + ((([] : List S1079).length : Nat) : Int) by rw [hmid]; simp), Bool.false_and, cond_false, List.append_nil]
theorem qyx (w : WOrd lt cmp) (X Y P Q : List S1079) (hX : Srt lt X) (hY : Srt lt Y) (hN : X.length + Y.length ≤ N) (hx2 : 1 < X.length) (hy2 : 1 < Y.length) {a m b : Int} {s0 r0 : Nat} (ha : a = (P.length : Int)) (hm : m = (P.length : Int) + (X.length : Int)) (hb : b = (P.length : Int) + (X.length : Int) + (Y.length : Int))
  (hs : (X.length + Y.length) / 2 ≤ s0 + Y.length) (hr : r0 ≤ X.length) (hr2 : r0 ≤ (X.length + Y.length) / 2) (hsr : s0 ≤ r0) (hs0 : s0 = 0 ∨ s0 + Y.length = (X.length + Y.length) / 2) (hr0 : r0 = X.length ∨ r0 = (X.length + Y.length) / 2) (k : Nat) (hk : r0 - s0 < k) :
  ∃ Z, wu self (P ++ X ++ Y ++ Q) a m b cmp k ((P.length : Int) + (s0 : Int)) ((P.length : Int) + (r0 : Int)) = some (P ++ Z ++ Q) ∧ Z.Perm (X ++ Y) ∧ Srt lt Z := by
 obtain ⟨hh, hhd⟩ : ∃ hh, hh = (X.length + Y.length) / 2 := ⟨_, rfl⟩;rw [← hhd] at hs hr2 hs0 hr0
 have hmid : (a + b) / 2 = (P.length : Int) + (hh : Int) := by omega
 obtain ⟨u, u1, u2, i1, i2, he⟩ := sea5 w (self := self) P X Y Q hX hY ha hm hmid hs hr hr2 k s0 r0 (Nat.le_refl _) hsr (Nat.le_refl _) hk (fun v x y h1 h2 => by omega) (fun v x y h1 h2 => by omega);rw [he];have hrot : (bif (decide ((P.length : Int) + (u : Int) < m)) && (decide (m < (((a + b) / 2) + m) - ((P.length : Int) + (u : Int)))) then qz (qqu (P ++ X ++ Y ++ Q) ((P.length : Int) + (u : Int)) m ((((a + b) / 2) + m) - ((P.length : Int) + (u : Int))) cmp) fun r43 => xy self a m b cmp ((P.length : Int) + (u : Int)) r43 else xy self a m b cmp ((P.length : Int) + (u : Int)) (P ++ X ++ Y ++ Q))
   = xy self a m b cmp ((P.length : Int) + (u : Int)) (P ++ X.take u ++ Y.take (hh - u) ++ (X.drop u ++ Y.drop (hh - u) ++ Q)) := by
  by_cases c1 : u < X.length
  ·by_cases c2 : u < hh
   ·rw [decide_eq_true (by omega), decide_eq_true (by omega), Bool.and_self, cond_true]
    have hsp : P ++ X ++ Y ++ Q = (P ++ X.take u) ++ X.drop u ++ Y.take (hh - u) ++ (Y.drop (hh - u) ++ Q) := by
     calc P ++ X ++ Y ++ Q = P ++ (X.take u ++ X.drop u) ++ (Y.take (hh - u) ++ Y.drop (hh - u)) ++ Q := by rw [List.take_append_drop, List.take_append_drop]
      _ = _ := by simp only [List.append_assoc]
    have hlu : (X.take u).length = u := by rw [List.length_take]; omega
    have hly : (Y.take (hh - u)).length = hh - u := by rw [List.length_take]; omega
    have := q86 (X.drop u) (Y.take (hh - u)) (P ++ X.take u) (Y.drop (hh - u) ++ Q) cmp (a1 := (P.length : Int) + (u : Int)) (a2 := m) (a3 := (((a + b) / 2) + m) - ((P.length : Int) + (u : Int))) (by simp; omega) (by omega) (by simp; omega) (by simp; omega) (by rw [hmid]; simp; omega);rw [hsp, this];simp only [qz]
    congr 1
    simp
   ·have hu : u = hh := by omega
    subst hu;rw [decide_eq_false (show ¬ m < _ by omega), Bool.and_false, cond_false]
    congr 1
    rw [Nat.sub_self, List.take_zero, List.drop_zero, List.append_nil]
    calc P ++ X ++ Y ++ Q = P ++ (X.take u ++ X.drop u) ++ Y ++ Q := by rw [List.take_append_drop]
     _ = _ := by simp only [List.append_assoc]
  ·have hu : u = X.length := by omega
   subst hu;rw [decide_eq_false (show ¬ (P.length : Int) + ((X.length : Nat) : Int) < m by omega), Bool.false_and, cond_false]
   congr 1
   rw [List.take_length, List.drop_length, List.nil_append]
   calc P ++ X ++ Y ++ Q = P ++ X ++ (Y.take (hh - X.length) ++ Y.drop (hh - X.length)) ++ Q := by rw [List.take_append_drop]
    _ = _ := by simp only [List.append_assoc]
 rw [hrot];have hXt : Srt lt (X.take u) := hX.sublist (List.take_sublist _ _);have hXd : Srt lt (X.drop u) := hX.sublist (List.drop_sublist _ _);have hYt : Srt lt (Y.take (hh - u)) := hY.sublist (List.take_sublist _ _);have hYd : Srt lt (Y.drop (hh - u)) := hY.sublist (List.drop_sublist _ _)
 have l1 : (X.take u).length = u := by rw [List.length_take]; omega
 have l2 : (Y.take (hh - u)).length = hh - u := by rw [List.length_take]; omega
 have l3 : (X.drop u).length = X.length - u := List.length_drop ..;have l4 : (Y.drop (hh - u)).length = Y.length - (hh - u) := List.length_drop ..;obtain ⟨Z1, e1, p1, z1⟩ := q87 ih (X.take u) (Y.take (hh - u)) P (X.drop u ++ Y.drop (hh - u) ++ Q) hXt hYt (by omega) (a := a) (m := m) (b := b) (x := (P.length : Int) + (u : Int)) ha (by omega) (by omega);rw [e1]
 have lz : Z1.length = hh := by rw [p1.length_eq, List.length_append]; omega
 obtain ⟨Z2, e2, p2, z2⟩ := q88 ih (X.drop u) (Y.drop (hh - u)) (P ++ Z1) Q hXd hYd (by omega) (a := a) (m := m) (b := b) (x := (P.length : Int) + (u : Int)) (by rw [List.length_append]; omega) (by rw [List.length_append]; omega) (by rw [List.length_append]; omega);refine ⟨Z1 ++ Z2, ?_, ?_, ?_⟩
 ·rw [show P ++ Z1 ++ (X.drop u ++ Y.drop (hh - u) ++ Q) = P ++ Z1 ++ X.drop u ++ Y.drop (hh - u) ++ Q by simp, e2]; simp
 ·refine (p1.append p2).trans ?_
  have : (X.take u ++ Y.take (hh - u) ++ (X.drop u ++ Y.drop (hh - u))).Perm (X.take u ++ X.drop u ++ (Y.take (hh - u) ++ Y.drop (hh - u))) := by
   rw [List.append_assoc, List.append_assoc];refine List.Perm.append_left _ ?_;rw [← List.append_assoc, ← List.append_assoc];exact List.Perm.append_right _ List.perm_append_comm
  rwa [List.take_append_drop, List.take_append_drop] at this
 ·refine List.pairwise_append.2 ⟨z1, z2, fun x hx y hy => ?_⟩;have hx := p1.mem_iff.1 hx;have hy := p2.mem_iff.1 hy
  have get_t : ∀ {l : List S1079} {n : Nat} {x : S1079}, x ∈ l.take n → ∃ i, i < n ∧ l[i]? = some x := by
   intro l n x h;obtain ⟨i, hi⟩ := List.mem_iff_getElem?.1 h;rw [List.getElem?_take] at hi
   split at hi
   ·exact ⟨i, by assumption, hi⟩
   ·cases hi
  have get_d : ∀ {l : List S1079} {n : Nat} {x : S1079}, x ∈ l.drop n → ∃ i, n ≤ i ∧ l[i]? = some x := by
   intro l n x h;obtain ⟨i, hi⟩ := List.mem_iff_getElem?.1 h;rw [List.getElem?_drop] at hi;exact ⟨n + i, by omega, hi⟩
  rcases List.mem_append.1 hx with hx | hx <;> rcases List.mem_append.1 hy with hy | hy
  ·obtain ⟨i, hi, gi⟩ := get_t hx;obtain ⟨j, hj, gj⟩ := get_d hy;exact qf7 w hX gi gj (by omega)
  ·obtain ⟨i, hi, gi⟩ := get_t hx;obtain ⟨j, hj, gj⟩ := get_d hy;have hjl := (List.getElem?_eq_some_iff.1 gj).1;have hil := (List.getElem?_eq_some_iff.1 gi).1
   have hus : s0 < u := by omega
   have h1 : X[u - 1]? = some X[u - 1] := List.getElem?_eq_getElem (by omega);have h2 : Y[hh - u]? = some Y[hh - u] := List.getElem?_eq_getElem (by omega);have h3 := i1 (u - 1) _ _ (by omega) (by omega) h1 (show Y[hh - 1 - (u - 1)]? = some Y[hh - u] by rw [show hh - 1 - (u - 1) = hh - u by omega]; exact h2);exact w.tr _ _ _ (w.tr _ _ _ (qf7 w hX gi h1 (by omega)) h3) (qf7 w hY h2 gj (by omega))
  ·obtain ⟨i, hi, gi⟩ := get_t hx;obtain ⟨j, hj, gj⟩ := get_d hy;have hjl := (List.getElem?_eq_some_iff.1 gj).1;have hil := (List.getElem?_eq_some_iff.1 gi).1
   have hur : u < r0 := by omega
   have h1 : X[u]? = some X[u] := List.getElem?_eq_getElem (by omega);have h2 : Y[hh - 1 - u]? = some Y[hh - 1 - u] := List.getElem?_eq_getElem (by omega);have h3 := i2 u _ _ (Nat.le_refl _) hur h1 h2;exact w.tr _ _ _ (w.tr _ _ _ (qf7 w hY gi h2 (by omega)) (w.asy _ _ h3)) (qf7 w hX h1 gj (by omega))
  ·obtain ⟨i, hi, gi⟩ := get_t hx;obtain ⟨j, hj, gj⟩ := get_d hy;exact qf7 w hY gi gj (by omega)
end
variable {lt : S1079 → S1079 → Bool} {cmp : S1079 → S1079 → Option Int}
theorem qyy (w : WOrd lt cmp) : ∀ (k : Nat) (X Y P Q : List S1079), 0 < X.length → 0 < Y.length → X.length + Y.length < k → Srt lt X → Srt lt Y → qyv lt (fun l a m b => qbd k l a m b cmp) X Y P Q
 | 0, X, Y, P, Q, _, _, hk, _, _ => by omega
 | k + 1, X, Y, P, Q, h1, h2, hk, hX, hY => by
  unfold qyv
  simp only
  by_cases c1 : X.length = 1
  ·obtain ⟨x, rfl⟩ := List.length_eq_one_iff.1 c1;obtain ⟨Z, q1, q2, q3⟩ := q1i w x Y P Q hY;refine ⟨Z, ?_, q2, q3⟩;rw [qbd, decide_eq_true (by simp; omega), cond_true, ← q1]
   congr 1
   ·simp; omega
   all_goals (simp)
  ·by_cases c2 : Y.length = 1
   ·obtain ⟨y, rfl⟩ := List.length_eq_one_iff.1 c2;obtain ⟨Z, q1, q2, q3⟩ := qyw w y X P Q hX;refine ⟨Z, ?_, q2, q3⟩;rw [qbd, decide_eq_false (by omega), cond_false, decide_eq_true (by simp; omega), cond_true, ← q1]
    congr 1
    omega
   ·rw [qbd, decide_eq_false (by omega), cond_false, decide_eq_false (by omega), cond_false];have ih := fun X Y P Q h1 h2 hk hX hY => qyy w k X Y P Q h1 h2 hk hX hY
    by_cases c3 : (X.length + Y.length) / 2 < X.length
    ·rw [decide_eq_true (by omega), cond_true];have := qyx (self := fun z0_ z1_ z2_ z3_ z4_ => qbd k z0_ z1_ z2_ z3_ z4_) (N := k) ih w X Y P Q hX hY (by omega) (by omega) (by omega) (a := (P.length : Int)) (m := (P.length : Int) + (X.length : Int)) (b := (P.length : Int) + (X.length : Int) + (Y.length : Int)) (s0 := (X.length + Y.length) / 2 - Y.length) (r0 := (X.length + Y.length) / 2) rfl rfl rfl (by omega) (by omega) (by omega) (by omega) (by omega) (by omega) ((((X.length + Y.length) / 2 : Nat) - ((X.length + Y.length) / 2 - Y.length) : Nat) + 1) (by omega);unfold qeg;rw [show ((P.length : Int) + ((P.length : Int) + (X.length : Int) + (Y.length : Int))) / 2 = (P.length : Int) + (((X.length + Y.length) / 2 : Nat) : Int) by omega];rw [show ((P.length : Int) + (((X.length + Y.length) / 2 : Nat) : Int)) + ((P.length : Int) + (X.length : Int)) - ((P.length : Int) + (X.length : Int) + (Y.length : Int)) = (P.length : Int) + (((X.length + Y.length) / 2 - Y.length : Nat) : Int) by omega];rw [show (((P.length : Int) + (((X.length + Y.length) / 2 : Nat) : Int)) - ((P.length : Int) + (((X.length + Y.length) / 2 - Y.length : Nat) : Int))).toNat + 1 = ((((X.length + Y.length) / 2 : Nat) - ((X.length + Y.length) / 2 - Y.length) : Nat) + 1) by omega];exact this
    ·rw [decide_eq_false (by omega), cond_false];have := qyx (self := fun z0_ z1_ z2_ z3_ z4_ => qbd k z0_ z1_ z2_ z3_ z4_) (N := k) ih w X Y P Q hX hY (by omega) (by omega) (by omega) (a := (P.length : Int)) (m := (P.length : Int) + (X.length : Int)) (b := (P.length : Int) + (X.length : Int) + (Y.length : Int)) (s0 := 0) (r0 := X.length) rfl rfl rfl (by omega) (by omega) (by omega) (by omega) (by omega) (by omega) (X.length + 1) (by omega);unfold qeg;rw [show ((P.length : Int) + (X.length : Int) - (P.length : Int)).toNat + 1 = X.length + 1 by omega];rw [show (P.length : Int) + ((0 : Nat) : Int) = (P.length : Int) by simp] at this;exact this
variable {lt : S1079 → S1079 → Bool} {cmp : S1079 → S1079 → Option Int}
theorem q24 (w : WOrd lt cmp) (rec1 : Int → List S1079 → Option (List S1079)) (x1 : Int) : ∀ (n : Nat) (A P R : List S1079) (y : S1079) (k : Nat), A.length = n → n < k → Srt lt A →
  ∃ Z, qa5 rec1 (P.length : Int) cmp x1 k ((P.length : Int) + (n : Int)) (P ++ A ++ y :: R) = rec1 (x1 + 1) (P ++ Z ++ R) ∧ Z.Perm (A ++ [y]) ∧ Srt lt Z
 | n, A, P, R, y, 0, _, hk, _ => by omega
 | 0, A, P, R, y, k + 1, hA, hk, hs => by
  obtain rfl := List.eq_nil_of_length_eq_zero hA;refine ⟨[y], ?_, by simp, List.pairwise_singleton _ _⟩;have e : decide ((P.length : Int) < (P.length : Int) + ((0 : Nat) : Int)) = false := decide_eq_false (by omega);rw [qa5, e]
  simp [qz]
 | n + 1, A, P, R, y, k + 1, hA, hk, hs => by
  obtain ⟨A', z, rfl⟩ : ∃ A' z, A = A' ++ [z] := by
   rcases List.eq_nil_or_concat A with rfl | ⟨X', z, h⟩
   ·simp at hA
   ·exact ⟨X', z, by simpa using h⟩
  have hA' : A'.length = n := by simpa using hA
  have hs' := List.pairwise_append.1 hs
  have e1 : P ++ (A' ++ [z]) ++ y :: R = (P ++ A') ++ z :: (y :: R) := by simp
  have e2 : P ++ (A' ++ [z]) ++ y :: R = (P ++ A' ++ [z]) ++ y :: R := by simp
  have q1 : ((P.length : Int) + ((n + 1 : Nat) : Int)) - 1 = ((P ++ A').length : Int) := by first | (simp [hA']; done) | (simp [hA']; omega)
  have q2 : ((P.length : Int) + ((n + 1 : Nat) : Int)) = ((P ++ A' ++ [z]).length : Int) := by first | (simp [hA']; done) | (simp [hA']; omega)
  have i1 : ixO (P ++ (A' ++ [z]) ++ y :: R) (((P.length : Int) + ((n + 1 : Nat) : Int)) - 1) = some z := by rw [e1, wg _ _ _ q1]
  have i2 : ixO (P ++ (A' ++ [z]) ++ y :: R) ((P.length : Int) + ((n + 1 : Nat) : Int)) = some y := by rw [e2, wg _ _ _ q2]
  have e : decide ((P.length : Int) < (P.length : Int) + ((n + 1 : Nat) : Int)) = true := decide_eq_true (by omega);obtain ⟨v, hv, hd⟩ := w.c y z;rw [qa5, e, cond_true, cond_true, i2];simp only [qz];rw [i1];simp only [qz, cond_true];rw [hv];simp only [qz];rw [hd, Bool.true_and]
  cases hl : lt y z with
  | true =>
   rw [cond_true]
   have s1 : List.set (P ++ (A' ++ [z]) ++ y :: R) (Int.toNat ((P.length : Int) + ((n + 1 : Nat) : Int))) z = (P ++ A' ++ [z]) ++ z :: R := by rw [e2, qe8 _ _ _ _ q2]
   rw [s1]
   have e3 : (P ++ A' ++ [z]) ++ z :: R = (P ++ A') ++ z :: (z :: R) := by simp
   rw [e3, wg _ _ _ q1];simp only [];rw [qe8 _ _ _ _ q1]
   have q3 : ((P.length : Int) + ((n + 1 : Nat) : Int)) - 1 = (P.length : Int) + (n : Int) := by omega
   rw [q3];obtain ⟨Z, g1, g2, g3⟩ := q24 w rec1 x1 n A' P (z :: R) y k hA' (by omega) hs'.1;refine ⟨Z ++ [z], ?_, ?_, ?_⟩
   ·rw [g1]; congr 1; simp
   ·refine (g2.append_right [z]).trans ?_;rw [List.append_assoc, List.append_assoc];exact List.Perm.append_left _ List.perm_append_comm
   ·refine List.pairwise_append.2 ⟨g3, List.pairwise_singleton _ _, fun a ha b hb => ?_⟩
    obtain rfl : b = z := by simpa using hb
    rcases List.mem_append.1 (g2.mem_iff.1 ha) with h | h
    ·exact hs'.2.2 a h b (by simp)
    ·obtain rfl : a = y := by simpa using h
     exact w.asy _ _ hl
  | false =>
   rw [cond_false];refine ⟨(A' ++ [z]) ++ [y], by congr 1; simp, List.Perm.refl _, List.pairwise_append.2 ⟨hs, List.pairwise_singleton _ _, fun a ha b hb => ?_⟩⟩
   obtain rfl : b = y := by simpa using hb
   rcases List.mem_append.1 ha with h | h
   ·exact w.tr _ _ _ (hs'.2.2 a h z (by simp)) hl
   ·obtain rfl : a = z := by simpa using h
    exact hl
theorem q25 (w : WOrd lt cmp) : ∀ (B A P Q : List S1079), 0 < A.length → Srt lt A → ∃ Z, xi (P.length : Int) cmp B.length ((P.length : Int) + (A.length : Int)) (P ++ A ++ B ++ Q) = some (P ++ Z ++ Q) ∧ Z.Perm (A ++ B) ∧ Srt lt Z
 | [], A, P, Q, hA, hs => ⟨A, by rw [List.length_nil, xi]; simp, by simp, hs⟩
 | y :: B, A, P, Q, hA, hs => by
  rw [List.length_cons, xi];obtain ⟨Z, g1, g2, g3⟩ := q24 w (fun z0_ z1_ => xi (P.length : Int) cmp B.length z0_ z1_) ((P.length : Int) + (A.length : Int)) A.length A P (B ++ Q) y ((((P.length : Int) + (A.length : Int)) - (P.length : Int)).toNat + 1) rfl (by omega) hs;rw [show P ++ A ++ (y :: B) ++ Q = P ++ A ++ y :: (B ++ Q) by simp, g1]
  have hl : Z.length = A.length + 1 := by rw [g2.length_eq]; simp
  obtain ⟨Z', k1, k2, k3⟩ := q25 w B Z P Q (by omega) g3;refine ⟨Z', ?_, ?_, k3⟩
  ·rw [show P ++ Z ++ (B ++ Q) = P ++ Z ++ B ++ Q by simp, show (P.length : Int) + (A.length : Int) + 1 = (P.length : Int) + (Z.length : Int) by omega];exact k1
  ·refine k2.trans ((g2.append_right B).trans ?_)
   simp
theorem q26 (w : WOrd lt cmp) (B P Q : List S1079) : ∃ Z, qqv (P ++ B ++ Q) (P.length : Int) ((P.length : Int) + (B.length : Int)) cmp = some (P ++ Z ++ Q) ∧ Z.Perm B ∧ Srt lt Z := by
 unfold qqv
 match B with
 | [] =>
  refine ⟨[], ?_, List.Perm.refl _, List.Pairwise.nil⟩;rw [show (((P.length : Int) + ((([] : List S1079).length : Nat) : Int)) - ((P.length : Int) + 1)).toNat = 0 by simp only [List.length_nil]; omega, xi]
 | y :: B =>
  obtain ⟨Z, g1, g2, g3⟩ := q25 w B [y] P Q (by simp) (List.pairwise_singleton _ _);refine ⟨Z, ?_, g2, g3⟩;rw [show (((P.length : Int) + (((y :: B).length : Nat) : Int)) - ((P.length : Int) + 1)).toNat = B.length by simp; omega];rw [show P ++ (y :: B) ++ Q = P ++ [y] ++ B ++ Q by simp];exact g1
variable {lt : S1079 → S1079 → Bool} {cmp : S1079 → S1079 → Option Int}
def Chk (lt : S1079 → S1079 → Bool) (bs : Nat) (Cs : List (List S1079)) : Prop := ∀ C ∈ Cs, C.length = bs ∧ Srt lt C
theorem qsa {bs : Nat} : ∀ {Cs : List (List S1079)}, Chk lt bs Cs → Cs.flatten.length = Cs.length * bs
 | [], _ => by simp
 | C :: Cs, h => by
  rw [List.flatten_cons, List.length_append, qsa (fun D hD => h D (List.mem_cons_of_mem _ hD)), (h C List.mem_cons_self).1, List.length_cons, Nat.succ_mul]; omega
theorem qyz (w : WOrd lt cmp) (rec2 : Int → List S1079 → Option (List S1079)) (n bs : Nat) (hbs : 0 < bs) (hn : n ≤ 30000) : ∀ (k : Nat) (Cs : List (List S1079)) (T D : List S1079), Chk lt bs Cs → Srt lt T → T.length < bs → (D ++ Cs.flatten ++ T).length = n → Cs.length < k →
  ∃ Ds T', wv rec2 (n : Int) cmp (bs : Int) k (D.length : Int) ((D.length : Int) + 2 * (bs : Int)) (D ++ Cs.flatten ++ T) = rec2 ((bs : Int) * 2) (D ++ Ds.flatten ++ T') ∧ Chk lt (2 * bs) Ds ∧ Srt lt T' ∧ T'.length < 2 * bs ∧ (Ds.flatten ++ T').Perm (Cs.flatten ++ T)
 | 0, Cs, T, D, _, _, _, _, hk => by omega
 | k + 1, [], T, D, hC, hT, hl, hlen, hk => by
  have hlen' : D.length + T.length = n := by simpa using hlen
  refine ⟨[], T, ?_, fun C hC => by simp at hC, hT, by omega, List.Perm.refl _⟩;rw [wv, decide_eq_false (by omega), cond_false, decide_eq_false (by omega), cond_false, qdo]
 | k + 1, [C], T, D, hC, hT, hl, hlen, hk => by
  have hc := hC C List.mem_cons_self
  have hlen' : D.length + C.length + T.length = n := by simp at hlen; omega
  rw [wv, decide_eq_false (by omega), cond_false]
  by_cases ht : 0 < T.length
  ·obtain ⟨Z, q1, q2, q3⟩ := qyy w 30001 C T D [] (by omega) ht (by omega) hc.2 hT;have q1 : qbd 30001 (D ++ C ++ T ++ []) (D.length : Int) ((D.length : Int) + (C.length : Int)) ((D.length : Int) + (C.length : Int) + (T.length : Int)) cmp = some (D ++ Z ++ []) := q1;rw [List.append_nil, List.append_nil, hc.1, show (D.length : Int) + (bs : Int) + (T.length : Int) = (n : Int) by omega] at q1;refine ⟨[], Z, ?_, fun C hC => by simp at hC, q3, by rw [q2.length_eq, List.length_append]; omega, by simpa using q2⟩;rw [decide_eq_true (by omega), cond_true, show D ++ [C].flatten ++ T = D ++ C ++ T by simp, q1];simp only [qz, qdo]
   simp
  ·have : T = [] := List.eq_nil_of_length_eq_zero (by omega);subst this;refine ⟨[], C, ?_, fun C hC => by simp at hC, hc.2, by omega, by simp⟩;rw [decide_eq_false (by simp at hlen'; omega), cond_false, qdo]
   simp
 | k + 1, C1 :: C2 :: Cs, T, D, hC, hT, hl, hlen, hk => by
  have h1 := hC C1 List.mem_cons_self;have h2 := hC C2 (List.mem_cons_of_mem _ List.mem_cons_self);have hC' : Chk lt bs Cs := fun E hE => hC E (List.mem_cons_of_mem _ (List.mem_cons_of_mem _ hE))
  have hlen' : D.length + C1.length + C2.length + (Cs.flatten ++ T).length = n := by simp at hlen ⊢; omega
  obtain ⟨Z, q1, q2, q3⟩ := qyy w 30001 C1 C2 D (Cs.flatten ++ T) (by omega) (by omega) (by omega) h1.2 h2.2;have q1 : qbd 30001 (D ++ C1 ++ C2 ++ (Cs.flatten ++ T)) (D.length : Int) ((D.length : Int) + (C1.length : Int)) ((D.length : Int) + (C1.length : Int) + (C2.length : Int)) cmp = some (D ++ Z ++ (Cs.flatten ++ T)) := q1
  have hz : Z.length = 2 * bs := by rw [q2.length_eq, List.length_append]; omega
  rw [h1.1, h2.1, show (D.length : Int) + (bs : Int) + (bs : Int) = (D.length : Int) + 2 * (bs : Int) by omega] at q1;obtain ⟨Ds, T', e1, e2, e3, e4, e5⟩ := qyz w rec2 n bs hbs hn k Cs T (D ++ Z) hC' hT hl (by simp at hlen' ⊢; omega) (by simp at hk ⊢; omega);refine ⟨Z :: Ds, T', ?_, fun E hE => ?_, e3, e4, ?_⟩
  ·rw [wv, decide_eq_true (by omega), cond_true, show D ++ (C1 :: C2 :: Cs).flatten ++ T = D ++ C1 ++ C2 ++ (Cs.flatten ++ T) by simp, q1];simp only [qz];rw [show (D.length : Int) + 2 * (bs : Int) = ((D ++ Z).length : Int) by simp [hz], show D ++ Z ++ (Cs.flatten ++ T) = D ++ Z ++ Cs.flatten ++ T by simp, e1]
   simp
  ·rcases List.mem_cons.1 hE with rfl | hE
   ·exact ⟨hz, q3⟩
   ·exact e2 E hE
  ·rw [List.flatten_cons, List.flatten_cons, List.flatten_cons];have := (q2.append e5)
   simpa [List.append_assoc] using this
variable {lt : S1079 → S1079 → Bool} {cmp : S1079 → S1079 → Option Int}
theorem q5r (w : WOrd lt cmp) (n : Nat) (hn : n ≤ 30000) : ∀ (k bs : Nat) (Cs : List (List S1079)) (T : List S1079), 0 < bs → Chk lt bs Cs → Srt lt T → T.length < bs → (Cs.flatten ++ T).length = n → n ≤ bs + k →
  ∃ Z, vq (n : Int) cmp (k + 1) (bs : Int) (Cs.flatten ++ T) = some Z ∧ Z.Perm (Cs.flatten ++ T) ∧ Srt lt Z := by
 intro k
 induction k with
 | zero =>
  intro bs Cs T hb hC hT hl hlen hk;have hcl := qsa hC
  have hlen' : Cs.length * bs + T.length = n := by rw [← hcl]; simpa using hlen
  rw [vq, decide_eq_false (by omega), cond_false]
  match Cs, hC, hlen' with
  | [], _, _ => exact ⟨_, rfl, List.Perm.refl _, by simpa using hT⟩
  | [C], hC, hlen' =>
   have : T = [] := List.eq_nil_of_length_eq_zero (by simp at hlen'; omega);subst this;exact ⟨_, U, List.Perm.refl _, by simpa using (hC C List.mem_cons_self).2⟩
  | C1 :: C2 :: Cs, hC, hlen' =>
   exfalso
   simp only [List.length_cons, Nat.succ_mul] at hlen'
   omega
 | succ k ih =>
  intro bs Cs T hb hC hT hl hlen hk;have hcl := qsa hC
  have hlen' : Cs.length * bs + T.length = n := by rw [← hcl]; simpa using hlen
  by_cases hlt : bs < n
  ·rw [vq, decide_eq_true (by omega), cond_true]
   have hcn : Cs.length ≤ n := by
    have := Nat.le_mul_of_pos_right Cs.length hb
    omega
   obtain ⟨Ds, T', e1, e2, e3, e4, e5⟩ := qyz w (fun z0_ z1_ => vq (n : Int) cmp (k + 1) z0_ z1_) n bs hb hn (n + 1) Cs T [] hC hT hl (by simpa using hlen) (by omega)
   have e1 : wv (fun z0_ z1_ => vq (n : Int) cmp (k + 1) z0_ z1_) (n : Int) cmp (bs : Int) (n + 1) 0 (2 * (bs : Int)) (Cs.flatten ++ T) = vq (n : Int) cmp (k + 1) ((bs : Int) * 2) (Ds.flatten ++ T') := by simpa using e1
   rw [show ((n : Int) + 2 * (bs : Int) - (2 * (bs : Int))).toNat + 1 = n + 1 by omega, e1];obtain ⟨Z, f1, f2, f3⟩ := ih (2 * bs) Ds T' (by omega) e2 e3 e4 (by rw [e5.length_eq]; exact hlen) (by omega);refine ⟨Z, ?_, f2.trans e5, f3⟩;rw [show (bs : Int) * 2 = ((2 * bs : Nat) : Int) by omega];exact f1
  ·rw [vq, decide_eq_false (by omega), cond_false]
   match Cs, hC, hlen' with
   | [], _, _ => exact ⟨_, rfl, List.Perm.refl _, by simpa using hT⟩
   | [C], hC, hlen' =>
    have : T = [] := List.eq_nil_of_length_eq_zero (by simp at hlen'; omega);subst this;exact ⟨_, U, List.Perm.refl _, by simpa using (hC C List.mem_cons_self).2⟩
   | C1 :: C2 :: Cs, hC, hlen' =>
    exfalso
    simp only [List.length_cons, Nat.succ_mul] at hlen'
    omega
theorem qy0 (w : WOrd lt cmp) (n : Nat) (hn : n ≤ 30000) : ∀ (k : Nat) (Cs : List (List S1079)) (R : List S1079), Chk lt 20 Cs → (Cs.flatten ++ R).length = n → R.length < k →
  ∃ Z, qa6 (n : Int) cmp k (Cs.flatten.length : Int) ((Cs.flatten.length : Int) + 20) (Cs.flatten ++ R) = some Z ∧ Z.Perm (Cs.flatten ++ R) ∧ Srt lt Z
 | 0, Cs, R, _, _, hk => by omega
 | k + 1, Cs, R, hC, hlen, hk => by
  have hlen' : Cs.flatten.length + R.length = n := by simpa using hlen
  rw [qa6]
  by_cases h20 : 20 ≤ R.length
  ·rw [decide_eq_true (by omega), cond_true];obtain ⟨B, R', rfl, hB⟩ : ∃ B R', R = B ++ R' ∧ B.length = 20 := ⟨R.take 20, R.drop 20, (List.take_append_drop ..).symm, by rw [List.length_take]; omega⟩;obtain ⟨Z, q1, q2, q3⟩ := q26 w B Cs.flatten R';rw [hB] at q1
   have q1 : qqv (Cs.flatten ++ (B ++ R')) (Cs.flatten.length : Int) ((Cs.flatten.length : Int) + 20) cmp = some (Cs.flatten ++ Z ++ R') := by rw [← List.append_assoc]; exact q1
   rw [q1];simp only [qz]
   have hz : Z.length = 20 := by rw [q2.length_eq]; exact hB
   have hC2 : Chk lt 20 (Cs ++ [Z]) := fun D hD => by
    rcases List.mem_append.1 hD with h | h
    ·exact hC D h
    ·obtain rfl : D = Z := by simpa using h
     exact ⟨hz, q3⟩
   have hfl : (Cs ++ [Z]).flatten = Cs.flatten ++ Z := by simp
   obtain ⟨W, f1, f2, f3⟩ := qy0 w n hn k (Cs ++ [Z]) R' hC2 (by rw [hfl]; simp only [List.length_append] at hlen' ⊢; omega) (by simp at hk; omega);rw [hfl] at f1 f2;refine ⟨W, ?_, f2.trans ?_, f3⟩
   ·rw [show (Cs.flatten.length : Int) + 20 = ((Cs.flatten ++ Z).length : Int) by rw [List.length_append, hz]; omega];exact f1
   ·rw [List.append_assoc];exact List.Perm.append_left _ (q2.append_right R')
  ·rw [decide_eq_false (by omega), cond_false];obtain ⟨Z, q1, q2, q3⟩ := q26 w R Cs.flatten [];rw [List.append_nil, List.append_nil, show (Cs.flatten.length : Int) + (R.length : Int) = (n : Int) by omega] at q1;rw [q1];simp only [qz];obtain ⟨W, f1, f2, f3⟩ := q5r w n hn (n - 20) 20 Cs Z (by omega) hC q3 (by rw [q2.length_eq]; omega) (by rw [List.length_append, q2.length_eq]; exact hlen') (by omega);refine ⟨W, ?_, f2.trans (List.Perm.append_left _ q2), f3⟩;rw [show ((n : Int) - 20).toNat + 1 = (n - 20) + 1 by omega];exact f1
theorem q5s (w : WOrd lt cmp) (l : List S1079) (hn : l.length ≤ 30000) : ∃ Z, qsb l cmp = some Z ∧ Z.Perm l ∧ Srt lt Z := by
 obtain ⟨Z, q1, q2, q3⟩ := qy0 w l.length hn (l.length + 1) [] l (fun C hC => by simp at hC) (by simp) (by omega);refine ⟨Z, ?_, by simpa using q2, q3⟩;unfold qsb qy1;rw [show (((l.length : Int) + 20 - 20).toNat + 1) = l.length + 1 by omega]
 have q1 : qa6 (l.length : Int) cmp (l.length + 1) 0 20 l = some Z := by simpa using q1
 rw [q1]; rfl
theorem q27 : ∀ x : List UInt8, Op.bytesLess x x = false
 | [] => rfl
 | a :: x => by simp [Op.bytesLess, q27 x]
theorem q89 : ∀ x y z : List UInt8, Op.bytesLess x y = true → Op.bytesLess y z = true → Op.bytesLess x z = true
 | _, _, [], _, h => by cases ‹List UInt8› <;> simp [Op.bytesLess] at h
 | _, [], _ :: _, h, _ => by cases ‹List UInt8› <;> simp [Op.bytesLess] at h
 | [], _ :: _, _ :: _, _, _ => rfl
 | a :: x, b :: y, c :: z, h, k => by
  simp only [Op.bytesLess, Bool.or_eq_true, decide_eq_true_eq, Bool.and_eq_true, beq_iff_eq] at h k ⊢
  rcases h with h | ⟨rfl, h⟩
  ·rcases k with k | ⟨rfl, k⟩
   ·exact .inl (UInt8.lt_trans h k)
   ·exact .inl h
  ·rcases k with k | ⟨rfl, k⟩
   ·exact .inl k
   ·exact .inr ⟨U, q89 x y z h k⟩
theorem q28 : ∀ x y : List UInt8, Op.bytesLess x y = false → Op.bytesLess y x = false → x = y
 | [], [], _, _ => rfl
 | [], _ :: _, h, _ => by simp [Op.bytesLess] at h
 | _ :: _, [], _, h => by simp [Op.bytesLess] at h
 | a :: x, b :: y, h, k => by
  simp only [Op.bytesLess, Bool.or_eq_false_iff, decide_eq_false_iff_not, Bool.and_eq_false_iff, beq_eq_false_iff_ne] at h k;have e : a = b := UInt8.le_antisymm (UInt8.not_lt.1 k.1) (UInt8.not_lt.1 h.1);subst e;rw [q28 x y (h.2.resolve_left fun g => g rfl) (k.2.resolve_left fun g => g rfl)]
theorem qsr (a : ByteArray) : qa9 a a = false := q27 _
theorem qz4 {a b c : ByteArray} (h : qa9 a b = true) (k : qa9 b c = true) : qa9 a c = true := q89 _ _ _ h k
theorem q29 {a b : ByteArray} (h : qa9 a b = false) (k : qa9 b a = false) : a = b := by
 have := q28 _ _ h k;have e := toList_inj (s := a) (s' := b);rw [this] at e
 simpa using e.symm
theorem zaz {a b : ByteArray} (h : qa9 a b = true) (k : qa9 b a = true) : False := by
 have := qz4 h k;rw [qsr] at this; cases this
theorem qrb (a b : ByteArray) : s133 a b = bif qa9 a b then -1 else bif decide (a = b) then 0 else 1 := by
 have h : ∀ x, s183 x = false := fun x => by unfold s183; simp
 unfold s133;rw [h, h]
 cases h1 : qa9 a b
 ·by_cases h2 : a = b <;> simp [h2]
 ·rfl
def LtM (x y : S1079) : Prop := x.Moment < y.Moment ∨ (x.Moment = y.Moment ∧ (qa9 x.Kind y.Kind = true ∨ (x.Kind = y.Kind ∧ qa9 x.Name y.Name = true)))
def ltM (x y : S1079) : Bool := decide (qqq x y < 0)
theorem qv0 (a b : Int) : s167 a b = bif decide (a < b) then -1 else bif decide (b < a) then 1 else 0 := by
 have h : ∀ x, s202 x = false := fun x => by unfold s202; simp
 unfold s167;rw [h, h]; rfl
theorem q9a (a b c : Int) : s176 [a, b, c] = bif decide (a ≠ 0) then a else bif decide (b ≠ 0) then b else bif decide (c ≠ 0) then c else 0 := rfl
theorem qgp (x y : S1079) : ltM x y = true ↔ LtM x y := by
 unfold ltM LtM qqq;rw [decide_eq_true_iff, q9a, qv0, qrb, qrb]
 by_cases h1 : x.Moment < y.Moment
 ·simp [h1]
 ·by_cases h2 : y.Moment < x.Moment
  ·have : ¬ x.Moment = y.Moment := by omega
   simp [h1, h2, this]
  ·have h3 : x.Moment = y.Moment := by omega
   simp only [h1, h2, h3, decide_false, cond_false, true_and, false_or]
   cases hk : qa9 x.Kind y.Kind with
   | true => simp
   | false =>
    by_cases hke : x.Kind = y.Kind
    ·simp only [hke, decide_true, cond_true, cond_false]
     cases hn : qa9 x.Name y.Name with
     | true => simp
     | false =>
      by_cases hne : x.Name = y.Name
      ·simp [hne]
      ·simp [hne]
    ·simp [hke]
theorem LtM.tr {x y z : S1079} (h : LtM x y) (k : LtM y z) : LtM x z := by
 rcases h with h | ⟨h1, h⟩ <;> rcases k with k | ⟨k1, k⟩
 ·exact .inl (by omega)
 ·exact .inl (by omega)
 ·exact .inl (by omega)
 ·refine .inr ⟨by omega, ?_⟩
  rcases h with h | ⟨h2, h⟩ <;> rcases k with k | ⟨k2, k⟩
  ·exact .inl (qz4 h k)
  ·exact .inl (by rw [← k2]; exact h)
  ·exact .inl (by rw [h2]; exact k)
  ·exact .inr ⟨h2.trans k2, qz4 h k⟩
theorem LtM.irr (x : S1079) : ¬ LtM x x := by
 rintro (h | ⟨_, h | ⟨_, h⟩⟩)
 ·omega
 ·rw [qsr] at h; cases h
 ·rw [qsr] at h; cases h
theorem LtM.tri (x y : S1079) : LtM x y ∨ LtM y x ∨ (x.Moment = y.Moment ∧ x.Kind = y.Kind ∧ x.Name = y.Name) := by
 by_cases h1 : x.Moment < y.Moment
 ·exact .inl (.inl h1)
 ·by_cases h2 : y.Moment < x.Moment
  ·exact .inr (.inl (.inl h2))
  ·have h3 : x.Moment = y.Moment := by omega
   cases hk : qa9 x.Kind y.Kind with
   | true => exact .inl (.inr ⟨h3, .inl hk⟩)
   | false =>
    cases hk2 : qa9 y.Kind x.Kind with
    | true => exact .inr (.inl (.inr ⟨h3.symm, .inl hk2⟩))
    | false =>
     have hke := q29 hk hk2
     cases hn : qa9 x.Name y.Name with
     | true => exact .inl (.inr ⟨h3, .inr ⟨hke, hn⟩⟩)
     | false =>
      cases hn2 : qa9 y.Name x.Name with
      | true => exact .inr (.inl (.inr ⟨h3.symm, .inr ⟨hke.symm, hn2⟩⟩))
      | false => exact .inr (.inr ⟨h3, hke, q29 hn hn2⟩)
theorem zd4 : WOrd ltM (fun x y => some (qqq x y)) where
 c := fun x y => ⟨_, rfl, rfl⟩
 asy := fun x y h => by
  cases hc : ltM y x with
  | false => rfl
  | true => exact absurd (((qgp x y).1 h).tr ((qgp y x).1 hc)) (LtM.irr x)
 tr := fun x y z h1 h2 => by
  cases hc : ltM z x with
  | false => rfl
  | true =>
   have hz := (qgp z x).1 hc
   rcases LtM.tri x y with h | h | ⟨e1, e2, e3⟩
   ·rw [(qgp z y).2 (hz.tr h)] at h2; cases h2
   ·rw [(qgp y x).2 h] at h1; cases h1
   ·have : LtM z y := by unfold LtM at hz ⊢; rw [← e1, ← e2, ← e3]; exact hz
    rw [(qgp z y).2 this] at h2; cases h2
theorem q0d {a b : List S1079} (ha : qal a = some 0) (hb : qal b = some 0) (hl : a.length + b.length ≤ 30000) : ∃ Z, qpt a b = some (Z, 0) ∧ Z.Perm (a ++ b) ∧ Srt ltM Z ∧ qal Z = some 0 := by
 obtain ⟨Z, q1, q2, q3⟩ := q5s zd4 (a ++ b) (by rw [List.length_append]; exact hl)
 have hz : Z.length ≤ 30000 := by rw [q2.length_eq, List.length_append]; exact hl
 refine ⟨Z, ?_, q2, q3, ?_⟩
 ·unfold qpt;rw [ha, hb];simp only [qz]
  have h0 : vo [0, 0, (xa (decide (30000 < IntKind.i64.wrap ((List.length a : Int) + (List.length b : Int)))) 5)] = 0 := by
   refine jx.2 fun x hx => ?_;simp only [List.mem_cons, List.not_mem_nil, or_false] at hx
   rcases hx with rfl | rfl | rfl
   ·rfl
   ·rfl
   ·refine (xk (by decide)).2 (decide_eq_false ?_);rw [wrap_i64 (by unfold I64; omega)]; omega
  rw [h0, decide_eq_false (by simp), cond_false, q1]
 ·refine (qhp hz).2 ⟨fun m hm => ?_, ?_⟩
  ·have := q2.mem_iff.1 hm
   rcases List.mem_append.1 this with h | h
   ·exact ((qhp (by omega)).1 ha).1 m h
   ·exact ((qhp (by omega)).1 hb).1 m h
  ·refine List.pairwise_map.2 (q3.imp fun {x y} h => ?_)
   by_cases hlt : y.Moment < x.Moment
   ·rw [(qgp y x).2 (.inl hlt)] at h; cases h
   ·omega
theorem qtr : ∀ {l : List Int} (k : Nat), qcv l k = 0 ↔ ∀ x ∈ l, x = 0
 | [], k => by simp [qcv]
 | y :: t, k => by
  rw [qcv]
  by_cases h : y = 0
  ·subst h; simp [qtr (l := t) (k + 1)]
  ·simp [h]
theorem ke {l : List Int} : j7 l = 0 ↔ ∀ x ∈ l, x = 0 := qtr 0
theorem zd5 {r : S115} (h : qbz r = 0) : s102 r.Period = 0 ∧ 0 ≤ r.Minute ∧ r.Minute ≤ 1439 := by
 unfold qbz at h;have h := jx.1 h;have h1 := h (s102 r.Period) (by simp);have h2 := h (xl r.Minute 0 (1440 - 1)) (by simp);exact ⟨h1, by have := wn.1 h2; omega⟩
theorem q5t {a0 : List S2062} {a1 : List S1079} {a2 : S115} (h0 : qbv a0 = 0) (h1 : qal a1 = some 0) (h2 : qbz a2 = 0) : qyj a0 a1 a2 = some (!inI a2.Minute (ivs a1 a2 a0)) := by
 obtain ⟨l1, l2⟩ := qow h0;obtain ⟨hp, m0, m1⟩ := zd5 h2;obtain ⟨F, g1, g2, g3⟩ := qyt (a1 := a1) (show a0.length ≤ 1000 by omega) l2 hp
 have hz : vo [vo [qbv a0, 0], qbz a2] = 0 := jx.2 fun x hx => by
  simp only [List.mem_cons, List.not_mem_nil, or_false] at hx
  rcases hx with rfl | rfl
  ·exact jx.2 fun y hy => by
    simp only [List.mem_cons, List.not_mem_nil, or_false] at hy
    rcases hy with rfl | rfl
    ·exact h0
    ·rfl
  ·exact h2
 unfold qyj q1f qi7;rw [h1];simp only [qz];rw [hz, decide_eq_false (by simp), cond_false, g1];simp only [qz];unfold qr2
 have : ixO F a2.Minute = some (inI a2.Minute (ivs a1 a2 a0)) := by
  unfold ixO;rw [decide_eq_true m0, cond_true];have := g3 a2.Minute.toNat (by omega)
  rwa [Int.toNat_of_nonneg m0] at this
 rw [this]
 simp [qz]
def qk1 (x : S115) : S5100 := S5100.mk x x.Carrier [] []
theorem qsp {a0 : List S2062} {a1 : S5042} {a2 : S115} {ms : List S1079} (h0 : qbv a0 = 0) (h1 : qjy a1 = some 0) (h2 : qec a2 = 0) (h3 : qlw a1 a2.Name = false) (h3' : a1.Slots.length < 64) (h4 : qgg a1 (-1) = some ms) (h5 : qal ms = some 0) (h6 : qbz a2 = 0)
  (h7 : ∀ x ∈ a1.Slots, x.Leases.length ≤ 1000000 ∧ x.Shares.length ≤ 1000000) : qnx a0 a1 a2 = some (bif inI a2.Minute (ivs ms a2 a0) then (S5042.mk [] [], 14) else (S5042.mk (a1.Slots ++ [qk1 a2]) a1.Waiting, 0)) := by
 unfold qnx;rw [h1];simp only [qz]
 have hz : j7 [qbv a0, 0] = 0 := ke.2 fun y hy => by
  simp only [List.mem_cons, List.not_mem_nil, or_false] at hy
  rcases hy with rfl | rfl
  ·exact h0
  ·rfl
 rw [hz, decide_eq_false (by simp), cond_false];unfold q1g
 have hz2 : j7 [(qec a2), (jg (qlw a1 a2.Name) 9), (jg (decide (64 ≤ (List.length a1.Slots : Int))) 5)] = 0 := ke.2 fun y hy => by
  simp only [List.mem_cons, List.not_mem_nil, or_false] at hy
  rcases hy with rfl | rfl | rfl
  ·exact h2
  ·rw [h3]; rfl
  ·rw [decide_eq_false (by omega)]; rfl
 rw [hz2, decide_eq_false (by simp), cond_false, h4];simp only [qz];rw [q5t h0 h5 h6];simp only [qz, Bool.not_not]
 cases inI a2.Minute (ivs ms a2 a0) with
 | true => rfl
 | false =>
  rw [cond_false, qis h7]
  rfl
end Go.Sim
