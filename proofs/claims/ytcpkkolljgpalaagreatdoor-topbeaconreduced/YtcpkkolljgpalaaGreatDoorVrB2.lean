/-
  What is proved: lemmas and contracts of functions on the way to the law topBeaconReduced (part 11).
-/
import Derived.Test.YtcpkkolljgpalaaGreatDoorVrB1
import Derived.Test.YtcpkkolljgpalaaGreatDoorVrA5
import Derived.Test.YtcpkkolljgpalaaGreatDoorVrA7
import Derived.Test.YtcpkkolljgpalaaGreatDoorVrA8
import Derived.Test.YtcpkkolljgpalaaGreatDoorVrA2
import Derived.Maps.RangeRun
import Derived.Test.YtcpkkolljgpalaaGreatDoorVrA4
set_option linter.unusedSectionVars false
set_option linter.unusedSimpArgs false
set_option linter.unusedVariables false
set_option linter.unnecessarySimpa false
set_option linter.deprecated false
set_option maxRecDepth 10000
namespace Go.Sim
open Go.Proofs
theorem q01 {g : List (Nat × List Value)} (a0 : S23) (a1 : List S151) (a2 : List S151) {R : List S154}  (hb1 : a1.length ≤ 1000) (hb2 : a2.length ≤ 1000) (hs1 : SortOk a1) (hs2 : SortOk a2) (hR : s115 a0 a1 a2 = some R) : ConN (EG g) 81 [G.agg [G.int a0.Before, G.int a0.After, G.int a0.Notice, G.int a0.Share, G.sl 1 (List.map cStr a0.Causes), G.int a0.Off, G.int a0.Run], G.sl 3 (List.map S151.c a1), G.sl 3 (List.map S151.c a2)] 167 2 (List.map S154.c R) := by
 unfold s115 at hR;refine xa Tryz.func81 rfl rfl fun w0 M0 => ?_;refine zj (f := S151.c) (l := a1) 1 rfl fun hla1 => ?_;refine zj (f := S151.c) (l := a2) 2 rfl fun hla2 => ?_;refine qb ?_;refine qa [.p, .w] ?_;refine su (zp rfl rfl) rfl ?_;refine sw (jz 6 167 2 rfl rfl rfl) rfl ?_;refine qc ?_;refine qb ?_;refine qa [.w, .p] ?_;refine sw (qek 14 rfl rfl) rfl ?_;refine su (qem rfl rfl) rfl ?_;refine qc ?_;refine qb ?_;obtain ⟨r1, br1, hR⟩ := qj hR;refine qa [.p, .p, .p] ?_;refine sm rfl rfl ?_;refine su (qf rfl K168 rfl (q02 a2 iA iA br1) (qe rfl qi)) rfl ?_;refine sa rfl rfl ?_;refine qc ?_;have hl1 := qvo br1;refine qb ?_;refine qa [.w] ?_;refine sw (jz 9 167 2 rfl rfl rfl) rfl ?_;refine qc ?_;refine qb ?_;refine qb ?_;obtain ⟨r2, br2, hR⟩ := qj hR;refine qa [.p, .p, .p, .p] ?_;refine sm rfl rfl ?_;refine su (qf rfl K168 rfl (q02 a1 iA iA br2) (qe rfl qi)) rfl ?_;refine su (zb (f := cInt) (l := r2) rfl Tryz.underlying64 rfl) rfl ?_;refine sm rfl rfl ?_;refine qc ?_;have hl2 := qvo br2;refine qm ?_;refine qr (γ := Nat × (List Int) × (List S154) × (List (Int × Bool))) (fun g => ([(1, .g (G.sl 3 (List.map S151.c a1))), (2, .g (G.sl 3 (List.map S151.c a2))), (3, .g (G.ref [G.int a0.Before, G.int a0.After, G.int a0.Notice, G.int a0.Share, G.sl 1 (List.map cStr a0.Causes), G.int a0.Off, G.int a0.Run])), (7, .omap 14), (8, .g (G.sl 1 (List.map cInt r1))), (9, .osl 9 2 0 (List.length g.2.2.1)), (18, .g (G.sl 1 (List.map cInt r2))), (19, .g (G.int (List.length r2 : Int))), (20, .g (G.int ((g.1 : Nat) : Int)))], [(9, .arr 167 2 (List.map S154.c g.2.2.1)), (14, mpB (K := Int) (V := Bool) (Value.int .i64) (fun v => G.bool v) g.2.2.2)])) (fun g => g.2.2.1.length ≤ g.1 ∧ r2.drop g.1 = g.2.1 ∧ s115_l1 a0 a1 a2 r1 g.2.1 g.1 g.2.2.1 g.2.2.2 = some R) (fun g => List.length g.2.1) ⟨rfl, (0, r2, [], []), ⟨rfl, rfl, rfl, rfl, rfl, rfl, rfl, rfl, rfl, trivial⟩, ⟨rfl, rfl, trivial⟩, rfl, ⟨iH, rfl, hR⟩, trivial⟩ ?_
 ·rintro ⟨k6, t8, x3, x5⟩ ⟨iv1_0, hd, hR⟩;replace hd : r2.drop k6 = t8 := hd;replace hR : s115_l1 a0 a1 a2 r1 t8 k6 x3 x5 = some R := hR;replace iv1_0 : x3.length ≤ k6 := iv1_0;refine qb ?_;refine qa [.p] ?_;refine su (qx rfl rfl rfl) rfl ?_;refine qc ?_;refine zj (f := cInt) (l := r2) 18 rfl fun hlz1 => ?_;refine qb ?_;refine qh _ rfl (fun h1 => ?_) (fun h1 => ?_)
  ·replace h1 : (decide (((k6 : Nat) : Int) < (List.length r2 : Int))) = true := h1;obtain ⟨y7, t8, rfl, hx1, hd⟩ := zk hd (decT h1);replace h1 := decT h1;rw [s115_l1] at hR;(try dsimp only at hR);refine ql ?_;refine j6 (γ := (List S154) × (List (Int × Bool))) (fun g => ([(1, .g (G.sl 3 (List.map S151.c a1))), (2, .g (G.sl 3 (List.map S151.c a2))), (3, .g (G.ref [G.int a0.Before, G.int a0.After, G.int a0.Notice, G.int a0.Share, G.sl 1 (List.map cStr a0.Causes), G.int a0.Off, G.int a0.Run])), (7, .omap 14), (8, .g (G.sl 1 (List.map cInt r1))), (9, .osl 9 2 0 (List.length g.1)), (18, .g (G.sl 1 (List.map cInt r2))), (19, .g (G.int (List.length r2 : Int))), (20, .g (G.int ((k6 : Nat) : Int)))], [(9, .arr 167 2 (List.map S154.c g.1)), (14, mpB (K := Int) (V := Bool) (Value.int .i64) (fun v => G.bool v) g.2)])) (fun g => g.1.length ≤ k6 + 1 ∧ s115_j1 (fun k_ z0_ z1_ => s115_l1 a0 a1 a2 r1 t8 k_ z0_ z1_) k6 g.1 g.2 = some R) ?_ ?_
   ·refine qm ?_;refine qb ?_;refine qa [.p, .p, .p] ?_;refine su (jb (f := cInt) (l := r2) (a := y7) rfl Tryz.underlying64 ty3 rfl rfl (Int.natCast_nonneg _) hx1) rfl ?_;refine su (qg rfl ty3 rfl) rfl ?_;refine sa rfl rfl ?_;refine qc ?_;refine qb ?_;refine qa [.p, .p, .p] ?_;refine sm rfl rfl ?_;refine su (zb (f := cInt) (l := r1) rfl Tryz.underlying64 rfl) rfl ?_;refine sm rfl rfl ?_;refine qc ?_;refine qm ?_;refine qr (γ := Nat × (List Int)) (fun g => ([(1, .g (G.sl 3 (List.map S151.c a1))), (2, .g (G.sl 3 (List.map S151.c a2))), (3, .g (G.ref [G.int a0.Before, G.int a0.After, G.int a0.Notice, G.int a0.Share, G.sl 1 (List.map cStr a0.Causes), G.int a0.Off, G.int a0.Run])), (7, .omap 14), (8, .g (G.sl 1 (List.map cInt r1))), (9, .osl 9 2 0 (List.length x3)), (11, .g (G.int y7)), (18, .g (G.sl 1 (List.map cInt r2))), (19, .g (G.int (List.length r2 : Int))), (20, .g (G.int ((k6 : Nat) : Int))), (24, .g (G.sl 1 (List.map cInt r1))), (25, .g (G.int (List.length r1 : Int))), (26, .g (G.int ((g.1 : Nat) : Int)))], [(9, .arr 167 2 (List.map S154.c x3)), (14, mpB (K := Int) (V := Bool) (Value.int .i64) (fun v => G.bool v) x5)])) (fun g => r1.drop g.1 = g.2 ∧ s115_l2 (fun k_ z0_ z1_ => s115_l1 a0 a1 a2 r1 t8 k_ z0_ z1_) a0 a1 a2 x3 x5 k6 y7 g.2 g.1 = some R) (fun g => List.length g.2) ⟨rfl, (0, r1), ⟨rfl, rfl, rfl, rfl, rfl, rfl, rfl, rfl, rfl, rfl, rfl, rfl, rfl, trivial⟩, ⟨rfl, rfl, trivial⟩, rfl, ⟨rfl, hR⟩, trivial⟩ ?_
    ·rintro ⟨k12, t14⟩ ⟨hd, hR⟩;replace hd : r1.drop k12 = t14 := hd;replace hR : s115_l2 (fun k_ z0_ z1_ => s115_l1 a0 a1 a2 r1 t8 k_ z0_ z1_) a0 a1 a2 x3 x5 k6 y7 t14 k12 = some R := hR;refine qb ?_;refine qa [.p] ?_;refine su (qx rfl rfl rfl) rfl ?_;refine qc ?_;refine zj (f := cInt) (l := r1) 8 rfl fun hlz2 => ?_;refine qb ?_;refine qh _ rfl (fun h3 => ?_) (fun h3 => ?_)
     ·replace h3 : (decide (((k12 : Nat) : Int) < (List.length r1 : Int))) = true := h3;obtain ⟨y13, t14, rfl, hx2, hd⟩ := zk hd (decT h3);replace h3 := decT h3;rw [s115_l2] at hR;(try dsimp only at hR);refine ql ?_;refine qb ?_;refine qm ?_;refine qb ?_;refine qa [.p, .p, .p] ?_;refine su (jb (f := cInt) (l := r1) (a := y13) rfl Tryz.underlying64 ty3 rfl rfl (Int.natCast_nonneg _) hx2) rfl ?_;refine su (qg rfl ty3 rfl) rfl ?_;refine sa rfl rfl ?_;refine qc ?_;refine qb ?_;obtain ⟨y15, by15, hR⟩ := qj hR;obtain ⟨y16, by16, hR⟩ := qj hR;refine jf [.p, .p, .r, .p, .p, .p, .p, .p, .p, .p, .p, .p, .p, .p, .p, .p] (by kernel_rfl) ?_;refine su (qak rfl rfl) rfl ?_;refine sm rfl rfl ?_;refine sr (qa2 (kf := Value.int .i64) (vf := (fun v => G.bool v)) (m := x5) (k := y13) (z := false) rfl Tryz.underlying226 Tryz.underlying3 zr4 (fun _ _ => rfl) rfl rfl rfl) rfl ?_;refine su (vc rfl rfl) rfl ?_;refine sm rfl rfl ?_;refine sg rfl rfl (fun h => qt rfl ty24 rfl rfl rfl) rfl ?_;refine sg rfl rfl (fun h => qk rfl rfl) rfl ?_;refine sg rfl rfl (fun h => qk rfl rfl) rfl ?_;refine sg rfl rfl (fun h => jb (f := S151.c) (l := a1) (a := y15) rfl Tryz.underlying39 kz (gd h rfl) (gd h rfl) (jd (ko by15 h)) (qv (ko by15 h))) rfl ?_;refine sg rfl rfl (fun h => qt rfl kz (gd h rfl) rfl rfl) rfl ?_;refine sg rfl rfl (fun h => qk rfl rfl) rfl ?_;refine sg rfl rfl (fun h => qk rfl rfl) rfl ?_;refine sg rfl rfl (fun h => jb (f := S151.c) (l := a2) (a := y16) rfl Tryz.underlying39 kz (gd h rfl) (gd h rfl) (jd (ko by16 h)) (qv (ko by16 h))) rfl ?_;refine sg rfl rfl (fun h => qt rfl kz (gd h rfl) rfl rfl) rfl ?_;refine sg rfl rfl (fun h => qf rfl K142 rfl (c142 a0 y15 y16) (qe (gd h rfl) (qe (gd h rfl) (qe (gd h rfl) qi)))) rfl ?_;refine su (zl rfl rfl rfl rfl) rfl ?_;refine qc ?_;refine qh _ rfl (fun h5 => ?_) (fun h5 => ?_)
      ·replace h5 : ((!(mgetD x5 y13 false)) && (s142 a0 y15 y16)) = true := h5;replace hR := zf hR h5;(try simp only [bB] at h5);refine qb ?_;refine qa [.p, .p, .w] ?_;refine su (qak rfl rfl) rfl ?_;refine sm rfl rfl ?_;refine ji rfl rfl (qfm (kf := Value.int .i64) (vf := (fun v => G.bool v)) (m := x5) (k := y13) (v := true) (ins := false) rfl Tryz.underlying226 Tryz.underlying3 rfl rfl rfl rfl) ?_;refine qc ?_;refine qb ?_;refine qa [.p, .p, .p, .p, .p, .k, .p] ?_;refine su (qp rfl rfl) rfl ?_;refine sm rfl rfl ?_;refine sm rfl rfl ?_;refine su (jy rfl z155 rfl q2r (zx rfl (zx rfl vy)) rfl) rfl ?_;refine su (qq rfl Tryz.underlying163 qr3 z155 rfl (qu rfl j5) rfl (by exact lens rfl) (by decide)) rfl ?_;refine st_k rfl rfl (vw (f := S154.c) (out := x3) (new := [(S154.mk y7 y13)]) rfl q2n rfl rfl (qab rfl (qac (by decide) (by simp [S154.c]))) (qd3 rfl) (by simp; omega)) rfl ?_;refine su (zh rfl rfl) rfl ?_;refine qc ?_;refine zc ?_;exact ⟨rfl, (x3 ++ [(S154.mk y7 y13)], mset x5 y13 true), ⟨rfl, rfl, rfl, rfl, rfl, rfl, rfl, rfl, rfl, trivial⟩, ⟨rfl, rfl, trivial⟩, rfl, ⟨iC, hR⟩, trivial⟩
      ·replace h5 : ((!(mgetD x5 y13 false)) && (s142 a0 y15 y16)) = false := h5;replace hR := zi hR h5;(try simp only [bB] at h5);refine ql ?_;refine qa [.p, .p] ?_;refine su (zg rfl rfl rfl iE) rfl ?_;refine sm rfl rfl ?_;refine qc ?_;exact ⟨rfl, (k12 + 1, t14), ⟨rfl, rfl, rfl, rfl, rfl, rfl, rfl, rfl, rfl, rfl, rfl, rfl, rfl, trivial⟩, ⟨rfl, rfl, trivial⟩, rfl, ⟨hd, hR⟩, by simp⟩
     ·replace h3 : (decide (((k12 : Nat) : Int) < (List.length r1 : Int))) = false := h3;obtain rfl := zt hd (decF h3);rw [s115_l2] at hR;refine zc ?_;exact ⟨rfl, (x3, x5), ⟨rfl, rfl, rfl, rfl, rfl, rfl, rfl, rfl, rfl, trivial⟩, ⟨rfl, rfl, trivial⟩, rfl, ⟨iC, hR⟩, trivial⟩
   ·rintro ⟨x9, x10⟩ ⟨jv1_0, hR⟩;replace jv1_0 : x9.length ≤ k6 + 1 := jv1_0;replace hR : s115_j1 (fun k_ z0_ z1_ => s115_l1 a0 a1 a2 r1 t8 k_ z0_ z1_) k6 x9 x10 = some R := hR;unfold s115_j1 at hR;refine qa [.p, .p] ?_;refine su (zg rfl rfl rfl iE) rfl ?_;refine sm rfl rfl ?_;refine qc ?_;exact ⟨rfl, (k6 + 1, t8, x9, x10), ⟨rfl, rfl, rfl, rfl, rfl, rfl, rfl, rfl, rfl, trivial⟩, ⟨rfl, rfl, trivial⟩, rfl, ⟨iB, hd, hR⟩, by simp⟩
  ·replace h1 : (decide (((k6 : Nat) : Int) < (List.length r2 : Int))) = false := h1;obtain rfl := zt hd (decF h1);rw [s115_l1] at hR;refine zc ?_;refine qb ?_;refine qa [.p, .p] ?_;refine su (qp rfl rfl) rfl ?_;refine su (zh rfl rfl) rfl ?_;refine qc ?_;refine qo ?_;obtain rfl := Option.some.inj hR;exact xt rfl rfl rfl ((List.length_map ..).trans rfl)
end Go.Sim
set_option maxRecDepth 10000
namespace Go.Sim
open Go.Proofs
theorem q03 (a0 : S23) (a1 : List S151) (a2 : List S104) {R : List Int}  (hb1 : a1.length ≤ 1000) (hb2 : a2.length ≤ 12) (hs1 : SortOk a1) (hR : s124 a0 a1 a2 = some R) : ConN (EG glT) 37 [G.agg [G.int a0.Before, G.int a0.After, G.int a0.Notice, G.int a0.Share, G.sl 1 (List.map cStr a0.Causes), G.int a0.Off, G.int a0.Run], G.sl 3 (List.map S151.c a1), G.sl 8 (List.map S104.c a2)] 3 1 (List.map cInt R) := by
 unfold s124 at hR;refine xa Tryz.func37 rfl rfl fun w0 M0 => ?_;refine zj (f := S151.c) (l := a1) 1 rfl fun hla1 => ?_;refine zj (f := S104.c) (l := a2) 2 rfl fun hla2 => ?_;refine qb ?_;refine qa [.p, .w] ?_;refine su (zp rfl rfl) rfl ?_;refine sw (jz 6 3 1 rfl rfl rfl) rfl ?_;refine qc ?_;refine qb ?_;refine qa [.p, .p, .w, .p] ?_;refine sm rfl rfl ?_;refine su (zb (f := S151.c) (l := a1) rfl Tryz.underlying39 rfl) rfl ?_;refine sw (qej (f := cInt) (z := 0) 16 rfl mk82 rfl rfl rfl (by first | exact Int.le_refl _ | omega) (by first | decide | omega) rfl rfl rfl) rfl ?_;refine su (zh rfl rfl) rfl ?_;refine qc ?_;refine qb ?_;refine qa [.w] ?_;refine sw (jz 8 110 3 rfl rfl rfl) rfl ?_;refine qc ?_;refine qb ?_;refine qa [.w] ?_;refine sw (jz 9 3 1 rfl rfl rfl) rfl ?_;refine qc ?_;refine qb ?_;refine qb ?_;refine qa [.p, .p, .p] ?_;refine sm rfl rfl ?_;refine su (zb (f := S151.c) (l := a1) rfl Tryz.underlying39 rfl) rfl ?_;refine sm rfl rfl ?_;refine qc ?_;refine qm ?_;refine qr (γ := Nat × (List S151) × (List S151) × (List Int) × (List Int)) (fun g => ([(2, .g (G.sl 8 (List.map S104.c a2))), (3, .g (G.ref [G.int a0.Before, G.int a0.After, G.int a0.Notice, G.int a0.Share, G.sl 1 (List.map cStr a0.Causes), G.int a0.Off, G.int a0.Run])), (7, .osl 16 1 0 (List.length a1)), (8, .osl 8 3 0 (List.length g.2.2.1)), (9, .osl 9 1 0 (List.length g.2.2.2.1)), (17, .g (G.sl 3 (List.map S151.c a1))), (18, .g (G.int (List.length a1 : Int))), (19, .g (G.int ((g.1 : Nat) : Int)))], [(8, .arr 110 3 (List.map S151.c g.2.2.1)), (9, .arr 3 1 (List.map cInt g.2.2.2.1)), (16, .arr 3 1 (List.map cInt g.2.2.2.2))])) (fun g => g.2.2.1.length ≤ g.1 ∧ g.2.2.2.1.length ≤ g.1 ∧ g.1 ≤ a1.length ∧ g.2.2.1.Sublist (List.take g.1 a1) ∧ List.length g.2.2.2.2 = List.length a1 ∧ a1.drop g.1 = g.2.1 ∧ s124_l1 a0 a2 g.2.1 g.1 g.2.2.1 g.2.2.2.1 g.2.2.2.2 = some R) (fun g => List.length g.2.1) ⟨rfl, (0, a1, [], [], List.replicate (List.length a1) 0), ⟨rfl, rfl, rfl, rfl, rfl, rfl, rfl, rfl, trivial⟩, ⟨rfl, rfl, rfl, trivial⟩, rfl, ⟨iH, iH, iH, (List.nil_sublist _), List.length_replicate, rfl, hR⟩, trivial⟩ ?_
 ·rintro ⟨k6, t8, x1, x2, x4⟩ ⟨iv1_0, iv1_1, iv1_2, iv1_3, ln5, hd, hR⟩;replace hd : a1.drop k6 = t8 := hd;replace hR : s124_l1 a0 a2 t8 k6 x1 x2 x4 = some R := hR;replace iv1_0 : x1.length ≤ k6 := iv1_0;replace iv1_1 : x2.length ≤ k6 := iv1_1;replace iv1_2 : k6 ≤ a1.length := iv1_2;replace iv1_3 : x1.Sublist (List.take k6 a1) := iv1_3;replace ln5 : List.length x4 = List.length a1 := ln5;refine qb ?_;refine qa [.p] ?_;refine su (qx rfl rfl rfl) rfl ?_;refine qc ?_;refine zj (f := S151.c) (l := a1) 17 rfl fun hlz1 => ?_;refine qb ?_;refine qh _ rfl (fun h1 => ?_) (fun h1 => ?_)
  ·replace h1 : (decide (((k6 : Nat) : Int) < (List.length a1 : Int))) = true := h1;obtain ⟨y7, t8, rfl, hx1, hd⟩ := zk hd (decT h1);replace h1 := decT h1;rw [s124_l1] at hR;(try dsimp only at hR);refine ql ?_;refine j6 (γ := (List S151) × (List Int) × (List Int)) (fun g => ([(2, .g (G.sl 8 (List.map S104.c a2))), (3, .g (G.ref [G.int a0.Before, G.int a0.After, G.int a0.Notice, G.int a0.Share, G.sl 1 (List.map cStr a0.Causes), G.int a0.Off, G.int a0.Run])), (7, .osl 16 1 0 (List.length a1)), (8, .osl 8 3 0 (List.length g.1)), (9, .osl 9 1 0 (List.length g.2.1)), (17, .g (G.sl 3 (List.map S151.c a1))), (18, .g (G.int (List.length a1 : Int))), (19, .g (G.int ((k6 : Nat) : Int)))], [(8, .arr 110 3 (List.map S151.c g.1)), (9, .arr 3 1 (List.map cInt g.2.1)), (16, .arr 3 1 (List.map cInt g.2.2))])) (fun g => g.1.length ≤ k6 + 1 ∧ g.2.1.length ≤ k6 + 1 ∧ g.1.Sublist (List.take (k6 + 1) a1) ∧ List.length g.2.2 = List.length a1 ∧ s124_j1 (fun k_ z0_ z1_ z2_ => s124_l1 a0 a2 t8 k_ z0_ z1_ z2_) k6 g.1 g.2.1 g.2.2 = some R) ?_ ?_
   ·refine qm ?_;refine qb ?_;refine qa [.p, .p, .p, .w, .p, .w] ?_;refine sm rfl rfl ?_;refine su (jb (f := S151.c) (l := a1) (a := y7) rfl Tryz.underlying39 kz rfl rfl (Int.natCast_nonneg _) hx1) rfl ?_;refine su (qt rfl kz rfl rfl rfl) rfl ?_;refine sw (zr 11 rfl z152 rfl rfl) rfl ?_;refine sa rfl rfl ?_;refine ji rfl rfl (qy (tv := .g (G.agg [G.str y7.Name, G.int y7.Moment, G.str y7.Kind])) rfl kz rfl rfl rfl rfl rfl) ?_;refine qc ?_;refine j6 (γ := (List Int)) (fun g => ([(2, .g (G.sl 8 (List.map S104.c a2))), (3, .g (G.ref [G.int a0.Before, G.int a0.After, G.int a0.Notice, G.int a0.Share, G.sl 1 (List.map cStr a0.Causes), G.int a0.Off, G.int a0.Run])), (7, .osl 16 1 0 (List.length a1)), (8, .osl 8 3 0 (List.length x1)), (9, .osl 9 1 0 (List.length x2)), (10, .g (G.int ((k6 : Nat) : Int))), (11, .ptr 11 0), (17, .g (G.sl 3 (List.map S151.c a1))), (18, .g (G.int (List.length a1 : Int))), (19, .g (G.int ((k6 : Nat) : Int)))], [(8, .arr 110 3 (List.map S151.c x1)), (9, .arr 3 1 (List.map cInt x2)), (11, .box [.g (G.str y7.Name), .g (G.int y7.Moment), .g (G.str y7.Kind)]), (16, .arr 3 1 (List.map cInt g))])) (fun g => List.length g = List.length a1 ∧ s124_j2 (fun k_ z0_ z1_ z2_ => s124_l1 a0 a2 t8 k_ z0_ z1_ z2_) x1 x2 k6 y7 g = some R) ?_ ?_
    ·refine qm ?_;refine qb ?_;refine qa [.p, .r, .p, .p, .p] ?_;refine su (qt rfl ty24 rfl rfl rfl) rfl ?_;refine sr (zw rfl kz rfl rfl rfl rfl) rfl ?_;refine sm rfl rfl ?_;refine su (qf rfl K177 rfl (c177 a0 y7 a2) (qe rfl (qe rfl (qe rfl qi)))) rfl ?_;refine sa rfl rfl ?_;refine qc ?_;refine qh _ rfl (fun h5 => ?_) (fun h5 => ?_)
     ·replace h5 : ((s177 a0 y7 a2)) = true := h5;replace hR := zf hR h5;(try simp only [bB] at h5);refine qb ?_;obtain ⟨y25, by25, hR⟩ := qj hR;refine qa [.p, .p, .p, .w] ?_;refine su (qp rfl rfl) rfl ?_;refine sm rfl rfl ?_;refine su (jv rfl Tryz.underlying64 ty3 rfl rfl (jd by25) (Nat.lt_of_lt_of_eq (jp (qv by25)) ln5)) rfl ?_;refine ji rfl rfl (xf (f := cInt) (l := x4) (a' := 0) rfl ty3 rfl rfl rfl (Nat.lt_of_lt_of_eq (Nat.lt_of_lt_of_eq (jp (qv by25)) ln5) (Eq.symm ln5)) rfl (fun _ => rfl)) ?_;refine qc ?_;refine zc ?_;exact ⟨rfl, (x1, x2, List.set x4 (Int.toNat ((k6 : Nat) : Int)) 0), ⟨rfl, rfl, rfl, rfl, rfl, rfl, rfl, rfl, trivial⟩, ⟨rfl, rfl, rfl, trivial⟩, rfl, ⟨iC, iC, (by first | exact qlw iv1_3 | exact qlx iv1_3 hx1), ((List.length_set ..).trans ln5), hR⟩, trivial⟩
     ·replace h5 : ((s177 a0 y7 a2)) = false := h5;replace hR := zi hR h5;(try simp only [bB] at h5);refine qb ?_;refine qa [.p, .r, .p, .p, .p] ?_;refine su (qt rfl ty24 rfl rfl rfl) rfl ?_;refine sr (zw rfl kz rfl rfl rfl rfl) rfl ?_;refine sm rfl rfl ?_;refine su (qf rfl K178 rfl (c178 a0 y7 a2) (qe rfl (qe rfl (qe rfl qi)))) rfl ?_;refine sa rfl rfl ?_;refine qc ?_;refine qh _ rfl (fun h6 => ?_) (fun h6 => ?_)
      ·replace h6 : ((s178 a0 y7 a2)) = true := h6;replace hR := zf hR h6;(try simp only [bB] at h6);obtain ⟨y26, by26, hR⟩ := qj hR;refine qa [.p, .p, .p, .w] ?_;refine su (qp rfl rfl) rfl ?_;refine sm rfl rfl ?_;refine su (jv rfl Tryz.underlying64 ty3 rfl rfl (jd by26) (Nat.lt_of_lt_of_eq (jp (qv by26)) ln5)) rfl ?_;refine ji rfl rfl (xf (f := cInt) (l := x4) (a' := 2) rfl ty3 rfl rfl rfl (Nat.lt_of_lt_of_eq (Nat.lt_of_lt_of_eq (jp (qv by26)) ln5) (Eq.symm ln5)) rfl (fun _ => rfl)) ?_;refine qc ?_;exact ⟨rfl, List.set x4 (Int.toNat ((k6 : Nat) : Int)) 2, ⟨rfl, rfl, rfl, rfl, rfl, rfl, rfl, rfl, rfl, rfl, trivial⟩, ⟨rfl, rfl, rfl, rfl, trivial⟩, rfl, ⟨((List.length_set ..).trans ln5), hR⟩, trivial⟩
      ·replace h6 : ((s178 a0 y7 a2)) = false := h6;replace hR := zi hR h6;(try simp only [bB] at h6);obtain ⟨y27, by27, hR⟩ := qj hR;refine qa [.p, .p, .p, .w] ?_;refine su (qp rfl rfl) rfl ?_;refine sm rfl rfl ?_;refine su (jv rfl Tryz.underlying64 ty3 rfl rfl (jd by27) (Nat.lt_of_lt_of_eq (jp (qv by27)) ln5)) rfl ?_;refine ji rfl rfl (xf (f := cInt) (l := x4) (a' := 3) rfl ty3 rfl rfl rfl (Nat.lt_of_lt_of_eq (Nat.lt_of_lt_of_eq (jp (qv by27)) ln5) (Eq.symm ln5)) rfl (fun _ => rfl)) ?_;refine qc ?_;exact ⟨rfl, List.set x4 (Int.toNat ((k6 : Nat) : Int)) 3, ⟨rfl, rfl, rfl, rfl, rfl, rfl, rfl, rfl, rfl, rfl, trivial⟩, ⟨rfl, rfl, rfl, rfl, trivial⟩, rfl, ⟨((List.length_set ..).trans ln5), hR⟩, trivial⟩
    ·rintro x23 ⟨ln24, hR⟩;replace ln24 : List.length x23 = List.length a1 := ln24;replace hR : s124_j2 (fun k_ z0_ z1_ z2_ => s124_l1 a0 a2 t8 k_ z0_ z1_ z2_) x1 x2 k6 y7 x23 = some R := hR;unfold s124_j2 at hR;refine qa [.p, .r, .p, .k, .p, .p, .p, .k, .p, .p] ?_;refine su (qp rfl rfl) rfl ?_;refine sr (zw rfl kz rfl rfl rfl rfl) rfl ?_;refine su (qq rfl Tryz.underlying39 kz z152 rfl (qu rfl j5) rfl (by simp [S151.c]) (by decide)) rfl ?_;refine st_k rfl rfl (vw (f := S151.c) (out := x1) (new := [y7]) rfl qz2 rfl rfl (qab rfl (qac (by decide) (by simp [S151.c]))) (qd3 rfl) (by simp; omega)) rfl ?_;refine su (qp rfl rfl) rfl ?_;refine sm rfl rfl ?_;refine su (qq rfl Tryz.underlying64 ty3 z3 rfl (qu rfl j5) rfl (by simp []) (by decide)) rfl ?_;refine st_k rfl rfl (vw (f := cInt) (out := x2) (new := [((k6 : Nat) : Int)]) rfl qz4 rfl rfl (qab rfl (qac (by decide) (by simp []))) (qd3 rfl) (by simp; omega)) rfl ?_;refine su (zh rfl rfl) rfl ?_;refine su (zh rfl rfl) rfl ?_;refine qc ?_;exact ⟨rfl, (x1 ++ [y7], x2 ++ [((k6 : Nat) : Int)], x23), ⟨rfl, rfl, rfl, rfl, rfl, rfl, rfl, rfl, trivial⟩, ⟨rfl, rfl, rfl, trivial⟩, rfl, ⟨iC, iC, (by first | exact qlw iv1_3 | exact qlx iv1_3 hx1), ln24, hR⟩, trivial⟩
   ·rintro ⟨x19, x20, x21⟩ ⟨jv2_0, jv2_1, jv2_2, ln22, hR⟩;replace jv2_0 : x19.length ≤ k6 + 1 := jv2_0;replace jv2_1 : x20.length ≤ k6 + 1 := jv2_1;replace jv2_2 : x19.Sublist (List.take (k6 + 1) a1) := jv2_2;replace ln22 : List.length x21 = List.length a1 := ln22;replace hR : s124_j1 (fun k_ z0_ z1_ z2_ => s124_l1 a0 a2 t8 k_ z0_ z1_ z2_) k6 x19 x20 x21 = some R := hR;unfold s124_j1 at hR;refine qa [.p, .p] ?_;refine su (zg rfl rfl rfl iE) rfl ?_;refine sm rfl rfl ?_;refine qc ?_;exact ⟨rfl, (k6 + 1, t8, x19, x20, x21), ⟨rfl, rfl, rfl, rfl, rfl, rfl, rfl, rfl, trivial⟩, ⟨rfl, rfl, rfl, trivial⟩, rfl, ⟨iB, iB, iB, (by assumption), ln22, hd, hR⟩, by simp⟩
  ·replace h1 : (decide (((k6 : Nat) : Int) < (List.length a1 : Int))) = false := h1;obtain rfl := zt hd (decF h1);rw [s124_l1] at hR;refine zc ?_;refine qb ?_;refine qb ?_;obtain ⟨r9, br9, hR⟩ := qj hR;obtain ⟨r10, br10, hR⟩ := qj hR;have hl9 := q04 br9;refine jf [.p, .p, .p, .p, .r, .p, .p] (by kernel_rfl) ?_;refine su (qt rfl ty24 rfl rfl rfl) rfl ?_;refine su (qp rfl rfl) rfl ?_;refine sm rfl rfl ?_;refine su (qf rfl K121 rfl (c121 a2 iA br9) (qe rfl qi)) rfl ?_;refine sr (qnh rfl K115 rfl (q01 a0 x1 r9 iA iA (qni iv1_3 hs1) (.inl (by omega)) br10) (by decide) (qng fun _ => qfo (qfo (qp6))) (qgx rfl (qkn rfl rfl (qgx rfl qkm)))) rfl ?_;refine su (zb (f := S154.c) (l := r10) rfl Tryz.underlying163 rfl) rfl ?_;refine sm rfl rfl ?_;refine qc ?_;refine qm ?_;refine qr (γ := Nat × (List S154) × (List Int)) (fun g => ([(7, .osl 16 1 0 (List.length a1)), (9, .osl 9 1 0 (List.length x2)), (56, .g (G.sl 2 (List.map S154.c r10))), (57, .g (G.int (List.length r10 : Int))), (58, .g (G.int ((g.1 : Nat) : Int)))], [(9, .arr 3 1 (List.map cInt x2)), (16, .arr 3 1 (List.map cInt g.2.2))])) (fun g => List.length g.2.2 = List.length a1 ∧ r10.drop g.1 = g.2.1 ∧ s124_l2 x2 g.2.1 g.1 g.2.2 = some R) (fun g => List.length g.2.1) ⟨rfl, (0, r10, x4), ⟨rfl, rfl, rfl, rfl, rfl, trivial⟩, ⟨rfl, rfl, trivial⟩, rfl, ⟨ln5, rfl, hR⟩, trivial⟩ ?_
   ·rintro ⟨k14, t16, x12⟩ ⟨ln13, hd, hR⟩;replace hd : r10.drop k14 = t16 := hd;replace hR : s124_l2 x2 t16 k14 x12 = some R := hR;replace ln13 : List.length x12 = List.length a1 := ln13;refine qb ?_;refine qa [.p] ?_;refine su (qx rfl rfl rfl) rfl ?_;refine qc ?_;refine zj (f := S154.c) (l := r10) 56 rfl fun hlz2 => ?_;refine qb ?_;refine qh _ rfl (fun h3 => ?_) (fun h3 => ?_)
    ·replace h3 : (decide (((k14 : Nat) : Int) < (List.length r10 : Int))) = true := h3;obtain ⟨y15, t16, rfl, hx2, hd⟩ := zk hd (decT h3);replace h3 := decT h3;rw [s124_l2] at hR;(try dsimp only at hR);refine ql ?_;refine qb ?_;refine qm ?_;refine qb ?_;refine qa [.p, .p, .w, .w] ?_;refine su (jb (f := S154.c) (l := r10) (a := y15) rfl Tryz.underlying163 qr3 rfl rfl (Int.natCast_nonneg _) hx2) rfl ?_;refine su (qt rfl qr3 rfl rfl rfl) rfl ?_;refine sw (zr 13 rfl z155 rfl rfl) rfl ?_;refine ji rfl rfl (qy (tv := .g (G.agg [G.int y15.Slot, G.int y15.Record])) rfl qr3 rfl rfl rfl rfl rfl) ?_;refine qc ?_;obtain ⟨y17, by17, hR⟩ := qj hR;obtain ⟨y18, by18, hR⟩ := qj hR;refine qa [.p, .p, .p, .r, .p, .r, .p, .w] ?_;refine su (qp rfl rfl) rfl ?_;refine su (qp rfl rfl) rfl ?_;refine su (zo rfl qwd rfl) rfl ?_;refine sr (jl rfl ty3 rfl rfl rfl) rfl ?_;refine su (jv rfl Tryz.underlying64 ty3 rfl rfl (jd by17) (Nat.lt_of_lt_of_eq (jp (qv by17)) rfl)) rfl ?_;refine sr (vp (f := cInt) (l := x2) (a := y17) rfl ty3 rfl rfl (qv by17) rfl) rfl ?_;refine su (jv rfl Tryz.underlying64 ty3 rfl rfl (jd by18) (Nat.lt_of_lt_of_eq (jp (qv by18)) ln13)) rfl ?_;refine ji rfl rfl (xf (f := cInt) (l := x12) (a' := 1) rfl ty3 rfl rfl rfl (Nat.lt_of_lt_of_eq (Nat.lt_of_lt_of_eq (jp (qv by18)) ln13) (Eq.symm ln13)) rfl (fun _ => rfl)) ?_;refine qc ?_;refine qa [.p, .p] ?_;refine su (zg rfl rfl rfl iE) rfl ?_;refine sm rfl rfl ?_;refine qc ?_;exact ⟨rfl, (k14 + 1, t16, List.set x12 (Int.toNat y17) 1), ⟨rfl, rfl, rfl, rfl, rfl, trivial⟩, ⟨rfl, rfl, trivial⟩, rfl, ⟨((List.length_set ..).trans ln13), hd, hR⟩, by simp⟩
    ·replace h3 : (decide (((k14 : Nat) : Int) < (List.length r10 : Int))) = false := h3;obtain rfl := zt hd (decF h3);rw [s124_l2] at hR;refine zc ?_;refine qb ?_;refine qa [.p, .p] ?_;refine su (qp rfl rfl) rfl ?_;refine su (zh rfl rfl) rfl ?_;refine qc ?_;refine qo ?_;obtain rfl := Option.some.inj hR;exact xt rfl rfl rfl ((List.length_map ..).trans ln13)
theorem q05 (a0 : S23) (a1 : List S151) (a2 : List S104) {R : List Int}  (hb1 : a1.length ≤ 1000) (hb2 : a2.length ≤ 12) (hs1 : SortOk a1) (hR : s124 a0 a1 a2 = some R) : Con (EG glT) 37 [G.agg [G.int a0.Before, G.int a0.After, G.int a0.Notice, G.int a0.Share, G.sl 1 (List.map cStr a0.Causes), G.int a0.Off, G.int a0.Run], G.sl 3 (List.map S151.c a1), G.sl 8 (List.map S104.c a2)] (G.sl 1 (List.map cInt R)) :=
 ConN.con (by decide) (q03 a0 a1 a2 hb1 hb2 hs1 hR)
def s162_l1  : Nat → Int → Option Int
 | 0, _ => none
 | k2 + 1, x1 => (bif decide ((s180 x1) ≠ 6) then s162_l1 k2 (IntKind.i64.wrap (x1 - 1)) else some x1)
def s162 (a0 : Int) (a1 : Int) : Option Int :=
 s162_l1 (((((s200 a0 a1 31) + 6) % 7).toNat) + 1) (s200 a0 a1 31)
def s111 (a0 : S67) : Option S45 :=
 (bif decide (a0.Kind = (⟨#[83]⟩)) then bindO (s162 a0.Year 3) fun r1 => bindO (s162 a0.Year 10) fun r2 => some (S45.mk r1 (IntKind.i64.wrap (r2 - 1)) 127) else bindO (s162 a0.Year 10) fun r3 => bindO (s162 (IntKind.i64.wrap (a0.Year + 1)) 3) fun r4 => some (S45.mk r3 (IntKind.i64.wrap (r4 - 1)) 127))
def s110_l2 (rec1 : Int → Option (S67 × Bool)) (a0 : Int) (x2 : Int) : Nat → Int → Option (S67 × Bool)
 | 0, x4 => rec1 (x2 + 1)
 | k6 + 1, x4 => bindO (s111 (S67.mk x2 (ByteArray.extract (⟨#[83, 87]⟩) (Int.toNat x4) (Int.toNat (IntKind.i64.wrap (x4 + 1)))))) fun r7 => (bif (s157 r7 a0) then some ((S67.mk x2 (ByteArray.extract (⟨#[83, 87]⟩) (Int.toNat x4) (Int.toNat (IntKind.i64.wrap (x4 + 1))))), true) else s110_l2 rec1 a0 x2 k6 (x4 + 1))
def s110_l1 (a0 : Int) : Nat → Int → Option (S67 × Bool)
 | 0, x2 => some ((S67.mk 0 ByteArray.empty), false)
 | k3 + 1, x2 => s110_l2 (fun z0_ => s110_l1 a0 k3 z0_) a0 x2 (((2 : Int) - 0).toNat) 0
def s110 (a0 : Int) : Option (S67 × Bool) :=
 bindO (s161 a0) fun r1 => s110_l1 a0 ((((min 2272 r1.1) + 1) - (max 2000 (IntKind.i64.wrap (r1.1 - 1)))).toNat) (max 2000 (IntKind.i64.wrap (r1.1 - 1)))
def s164_l1 (a1 : Int) : List Int → Nat → Int → Int
 | [], k3, x1 => x1
 | y4 :: t5, k3, x1 => (bif decide ((s163 y4) = a1) then s164_l2 (fun k_ z0_ => s164_l1 a1 t5 k_ z0_) x1 k3 (((s180 y4) - 0).toNat) 1 0 else s164_j1 (fun k_ z0_ => s164_l1 a1 t5 k_ z0_) k3 x1)
def s164 (a0 : List Int) (a1 : Int) : Int :=
 s164_l1 a1 a0 0 0
def s112_l1 (a0 : List Int) : List Int → Nat → (List S45) → Int → Option (List S45)
 | [], k4, x1, x2 => some x1
 | y5 :: t6, k4, x1, x2 => bindO (bif decide (0 < ((k4 : Nat) : Int)) then ixO a0 (IntKind.i64.wrap (((k4 : Nat) : Int) - 1)) else some default) fun y9 => (bif (decide (0 < ((k4 : Nat) : Int))) && (decide ((s163 y9) = (s163 y5))) then bindO (ixO x1 (IntKind.i64.wrap ((List.length x1 : Int) - 1))) fun y10 => s112_j1 (fun k_ z0_ z1_ => s112_l1 a0 t6 k_ z0_ z1_) k4 (List.set x1 (Int.toNat (IntKind.i64.wrap ((List.length x1 : Int) - 1))) (S45.mk y10.fFrom y5 y10.Days)) x2 else bindO (bif decide (0 < ((k4 : Nat) : Int)) then ixO a0 (IntKind.i64.wrap (((k4 : Nat) : Int) - 1)) else some default) fun y11 => bindO (bif (decide (0 < ((k4 : Nat) : Int))) && (decide ((s163 y11) = IntKind.i64.wrap ((s163 y5) - 1))) then ixO x1 (IntKind.i64.wrap ((List.length x1 : Int) - 1)) else some default) fun y12 => (bif (((decide (0 < ((k4 : Nat) : Int))) && (decide ((s163 y11) = IntKind.i64.wrap ((s163 y5) - 1)))) && (decide (y12.Days = (s164 a0 (s163 y5))))) && (decide (x2 < 57)) then bindO (ixO x1 (IntKind.i64.wrap ((List.length x1 : Int) - 1))) fun y13 => s112_j1 (fun k_ z0_ z1_ => s112_l1 a0 t6 k_ z0_ z1_) k4 (List.set x1 (Int.toNat (IntKind.i64.wrap ((List.length x1 : Int) - 1))) (S45.mk y13.fFrom y5 y13.Days)) (IntKind.i64.wrap (x2 + 1)) else s112_j1 (fun k_ z0_ z1_ => s112_l1 a0 t6 k_ z0_ z1_) k4 (x1 ++ [(S45.mk y5 y5 (s164 a0 (s163 y5)))]) 1))
def s112 (a0 : List Int) : Option (List S45) :=
 s112_l1 a0 a0 0 [] 0
def s42_l2 (a1 : S67) (x2 : Int) (x3 : ByteArray) : List Int → Nat → (List Int) → Option ((List S45) × Int)
 | [], k9, x7 => bindO (s112 x7) fun r12 => some (r12, 0)
 | y10 :: t11, k9, x7 => bindO (s111 (S67.mk x2 x3)) fun r14 => bindO (s111 a1) fun r15 => bindO (s111 a1) fun r16 => (bif decide (IntKind.i64.wrap ((IntKind.i64.wrap (y10 - r14.fFrom)) + r15.fFrom) ≤ r16.fTo) then s42_j1 (fun k_ z0_ => s42_l2 a1 x2 x3 t11 k_ z0_) k9 (x7 ++ [IntKind.i64.wrap ((IntKind.i64.wrap (y10 - r14.fFrom)) + r15.fFrom)]) else s42_j1 (fun k_ z0_ => s42_l2 a1 x2 x3 t11 k_ z0_) k9 x7)
def sun (n : Int) : Int := n - (n + 6) % 7
theorem xb (n : Int) : n - 6 ≤ sun n ∧ sun n ≤ n := by unfold sun; omega
theorem qiq {x : Int} (h : 0 ≤ x) (h' : x ≤ 1000000000) : s188 x = (x + 5) % 7 := by
 unfold s188;rw [wrap_i64 ⟨by omega, by omega⟩, Int.tmod_eq_emod_of_nonneg (by omega)]
theorem qen : ∀ (k : Nat) (x : Int), (x + 6) % 7 < (k : Int) → 7 ≤ x - (x + 6) % 7 → x ≤ 1000000000 → s162_l1 k x = some (sun x)
 | 0, x, h, _, _ => by omega
 | k + 1, x, h, h1, h2 => by
  rw [s162_l1, qeo (by omega) h2]
  by_cases h3 : (x + 5) % 7 = 6
  ·rw [decide_eq_false (by simpa using h3), cond_false];unfold sun
   congr 1
   omega
  ·rw [decide_eq_true h3, cond_true, wrap_i64 ⟨by omega, by omega⟩, qen k (x - 1) (by omega) (by omega) (by omega)];unfold sun
   congr 1
   omega
theorem qvp {y : Int} (h : 2000 ≤ y) (h' : y ≤ 3000) : s162 y 3 = some (sun (N3 y)) := by
 have := qir h h';unfold s162;rw [q06 h h'];exact qen _ _ (by omega) (by omega) (by omega)
theorem qp8 {y : Int} (h : 2000 ≤ y) (h' : y ≤ 3000) : s162 y 10 = some (sun (N10 y)) := by
 have := qir h h';unfold s162;rw [qxx h h'];exact qen _ _ (by omega) (by omega) (by omega)
theorem qp9 (y : Int) : s223 y 2 = some (28 + lp y) := by
 have h : s248 y = s224 y := rfl;unfold s223 lp;rw [h]
 cases s224 y <;> rfl
theorem vt {y m r : Int} (hm : m ≠ 2) (h : ixO lenL (IntKind.i64.wrap (m - 1)) = some r) : s223 y m = some r := by
 unfold s223;rw [decide_eq_false hm, Bool.false_and, cond_false, h]
 rfl
theorem qvq {y m : Int} (h : 2000 ≤ y) (h' : y ≤ 3000) : s221 y m 31 = s221_l2 y ((m - 1).toNat) (30 + Dy (y - 2000).toNat) 1 := by
 have hn := wn h;unfold s221;rw [wrap_i64 (n := y - 2000) ⟨by omega, by omega⟩, wrap_i64 (n := (31 : Int) - 1) ⟨by omega, by omega⟩];have := qfp y m (y - 2000).toNat 0 30 (by omega) (by omega) (by omega);simp only [Nat.zero_add, Dy] at this
 have e : (y - 2000 - 0).toNat = (y - 2000).toNat := by simp
 rw [e];show s221_l1 y m (y - 2000).toNat 30 ((0 : Nat) : Int) = _;rw [this]
 congr 1
 omega
theorem q07 {y : Int} (h : 2000 ≤ y) (h' : y ≤ 3000) : s221 y 3 31 = some (N3 y) := by
 have hn := wn h;have h1 := xu y;have h2 := qep (y - 2000).toNat;rw [qvq h h'];show s221_l2 y 2 _ 1 = _;rw [s221_l2, vt (y := y) (m := 1) (r := 31) (by decide) rfl];simp only [bindO];rw [wrap_i64 ⟨by omega, by omega⟩, s221_l2, show (1 : Int) + 1 = 2 from rfl, qp9];simp only [bindO];rw [wrap_i64 ⟨by omega, by omega⟩, s221_l2];unfold N3
 congr 1
 omega
theorem qxy {y : Int} (h : 2000 ≤ y) (h' : y ≤ 3000) : s221 y 10 31 = some (N10 y) := by
 have hn := wn h;have h1 := xu y;have h2 := qep (y - 2000).toNat;rw [qvq h h'];show s221_l2 y 9 _ 1 = _;rw [s221_l2, vt (y := y) (m := 1) (r := 31) (by decide) rfl];simp only [bindO];rw [wrap_i64 ⟨by omega, by omega⟩, s221_l2, show (1 : Int) + 1 = 2 from rfl, qp9];simp only [bindO];rw [wrap_i64 ⟨by omega, by omega⟩, s221_l2, show (2 : Int) + 1 = 3 from rfl, vt (y := y) (m := 3) (r := 31) (by decide) rfl];simp only [bindO];rw [wrap_i64 ⟨by omega, by omega⟩, s221_l2, show (3 : Int) + 1 = 4 from rfl, vt (y := y) (m := 4) (r := 30) (by decide) rfl];simp only [bindO];rw [wrap_i64 ⟨by omega, by omega⟩, s221_l2, show (4 : Int) + 1 = 5 from rfl, vt (y := y) (m := 5) (r := 31) (by decide) rfl];simp only [bindO];rw [wrap_i64 ⟨by omega, by omega⟩, s221_l2, show (5 : Int) + 1 = 6 from rfl, vt (y := y) (m := 6) (r := 30) (by decide) rfl];simp only [bindO];rw [wrap_i64 ⟨by omega, by omega⟩, s221_l2, show (6 : Int) + 1 = 7 from rfl, vt (y := y) (m := 7) (r := 31) (by decide) rfl];simp only [bindO];rw [wrap_i64 ⟨by omega, by omega⟩, s221_l2, show (7 : Int) + 1 = 8 from rfl, vt (y := y) (m := 8) (r := 31) (by decide) rfl];simp only [bindO];rw [wrap_i64 ⟨by omega, by omega⟩, s221_l2, show (8 : Int) + 1 = 9 from rfl, vt (y := y) (m := 9) (r := 30) (by decide) rfl];simp only [bindO];rw [wrap_i64 ⟨by omega, by omega⟩, s221_l2];unfold N10
 congr 1
 omega
theorem qqa {y m n : Int} (h : s221 y m 31 = some n) (h0 : 0 ≤ n) (h1 : n ≤ 1000000) : s189 y m = some (sun n) := by
 unfold s189;rw [h];simp only [bindO];rw [qiq h0 (by omega), wrap_i64 (n := (n + 5) % 7 + 7) ⟨by omega, by omega⟩, wrap_i64 (n := (n + 5) % 7 + 7 - 6) ⟨by omega, by omega⟩, Int.tmod_eq_emod_of_nonneg (by omega), wrap_i64 ⟨by omega, by omega⟩];unfold sun
 congr 1
 omega
theorem qvr {y : Int} (h : 2000 ≤ y) (h' : y ≤ 3000) : s189 y 3 = some (sun (N3 y)) := by
 have := qir h h';exact qqa (q07 h h') (by omega) (by omega)
theorem qqb {y : Int} (h : 2000 ≤ y) (h' : y ≤ 3000) : s189 y 10 = some (sun (N10 y)) := by
 have := qir h h';exact qqa (qxy h h') (by omega) (by omega)
def QD (y m R : Int) : Prop := ∀ (k : Nat) (x : Int), 0 ≤ x → x < R → x.toNat < k → ∃ t, s195_l2 y k x m = some (y, t)
theorem qxz {y m r : Int} (h : s223 y m = some r) : QD y m r
 | 0, x, _, _, hk => by omega
 | k + 1, x, h0, h1, hk => by
  rw [s195_l2, h];simp only [bindO];rw [decide_eq_false (by omega), cond_false];exact ⟨_, rfl⟩
theorem xv {y m r R : Int} (h : s223 y m = some r) (hr : 0 < r) (hR : r + R ≤ 1000) (hm : 0 ≤ m ∧ m ≤ 100) (hq : QD y (m + 1) R) : QD y m (r + R)
 | 0, x, _, _, hk => by omega
 | k + 1, x, h0, h1, hk => by
  rw [s195_l2, h];simp only [bindO]
  by_cases hx : r ≤ x
  ·rw [decide_eq_true hx, cond_true, wrap_i64 (n := x - r) ⟨by omega, by omega⟩, wrap_i64 (n := m + 1) ⟨by omega, by omega⟩];exact hq k (x - r) (by omega) (by omega) (by omega)
  ·rw [decide_eq_false hx, cond_false];exact ⟨_, rfl⟩
theorem qx0 (y : Int) : QD y 1 (365 + lp y) := by
 have hl := xu y;have q12 : QD y 12 31 := qxz (vt (by decide) rfl);have q11 := xv (R := 31) (vt (y := y) (m := 11) (r := 30) (by decide) rfl) (by decide) (by decide) (by decide) q12;have q10 := xv (R := 30 + 31) (vt (y := y) (m := 10) (r := 31) (by decide) rfl) (by decide) (by decide) (by decide) q11;have q9 := xv (R := 31 + (30 + 31)) (vt (y := y) (m := 9) (r := 30) (by decide) rfl) (by decide) (by decide) (by decide) q10;have q8 := xv (R := 30 + (31 + (30 + 31))) (vt (y := y) (m := 8) (r := 31) (by decide) rfl) (by decide) (by decide) (by decide) q9;have q7 := xv (R := 31 + (30 + (31 + (30 + 31)))) (vt (y := y) (m := 7) (r := 31) (by decide) rfl) (by decide) (by decide) (by decide) q8;have q6 := xv (R := 31 + (31 + (30 + (31 + (30 + 31))))) (vt (y := y) (m := 6) (r := 30) (by decide) rfl) (by decide) (by decide) (by decide) q7;have q5 := xv (R := 30 + (31 + (31 + (30 + (31 + (30 + 31)))))) (vt (y := y) (m := 5) (r := 31) (by decide) rfl) (by decide) (by decide) (by decide) q6;have q4 := xv (R := 31 + (30 + (31 + (31 + (30 + (31 + (30 + 31))))))) (vt (y := y) (m := 4) (r := 30) (by decide) rfl) (by decide) (by decide) (by decide) q5;have q3 := xv (R := 30 + (31 + (30 + (31 + (31 + (30 + (31 + (30 + 31)))))))) (vt (y := y) (m := 3) (r := 31) (by decide) rfl) (by decide) (by decide) (by decide) q4;have q2 := xv (qp9 y) (by omega) (by omega) (by decide) q3;have q1 := xv (vt (y := y) (m := 1) (r := 31) (by decide) rfl) (by decide) (by omega) (by decide) q2;intro k x h0 h1 hk;exact q1 k x h0 (by omega) hk
theorem qfq (y : Int) : ∀ (k : Nat) (x m : Int), 0 ≤ x → x ≤ 1000000 → x.toNat < k → ∃ t, s161_l2 y k x m = some (y, t)
 | 0, x, m, _, _, hk => by omega
 | k + 1, x, m, h0, h1, hk => by
  have hr := qs8 y m;rw [s161_l2]
  by_cases hx : s199 y m ≤ x
  ·rw [decide_eq_true hx, cond_true, wrap_i64 (n := x - s199 y m) ⟨by omega, by omega⟩];exact qfq y k _ _ (by omega) (by omega) (by omega)
  ·rw [decide_eq_false hx, cond_false];exact ⟨_, rfl⟩
theorem qis (day : Int) (hd : day ≤ 1000000) : ∀ (k k' n : Nat), Dy n ≤ day → (day - Dy n).toNat < k → (day - Dy n).toNat < k' →
  ∃ (N : Nat) (t1 t2 : Int × Int), s195_l1 k (day - Dy n) (2000 + (n : Int)) = some (2000 + (N : Int), t1) ∧ s161_l1 k' (day - Dy n) (2000 + (n : Int)) = some (2000 + (N : Int), t2) ∧ Dy N ≤ day ∧ day < Dy (N + 1)
 | 0, _, n, _, hk, _ => by omega
 | _ + 1, 0, n, _, _, hk => by omega
 | k + 1, k' + 1, n, h0, hk, hk' => by
  have hr := qcf (2000 + (n : Int));have hn := qep n;rw [s195_l1, s161_l1, qqc]
  by_cases hx : s198 (2000 + (n : Int)) ≤ day - Dy n
  ·rw [decide_eq_true hx, cond_true, cond_true, wrap_i64 (n := day - Dy n - s198 (2000 + (n : Int))) ⟨by omega, by omega⟩, wrap_i64 (n := 2000 + (n : Int) + 1) ⟨by omega, by omega⟩]
   have e1 : day - Dy n - s198 (2000 + (n : Int)) = day - Dy (n + 1) := by rw [Dy]; omega
   have e2 : 2000 + (n : Int) + 1 = 2000 + ((n + 1 : Nat) : Int) := by omega
   rw [e1, e2];have e3 : Dy (n + 1) = Dy n + s198 (2000 + (n : Int)) := rfl;exact qis day hd k k' (n + 1) (by omega) (by omega) (by omega)
  ·rw [decide_eq_false hx, cond_false, cond_false];have e3 : Dy (n + 1) = Dy n + s198 (2000 + (n : Int)) := rfl;have e4 := qqd (2000 + (n : Int));obtain ⟨t1, g1⟩ := qx0 (2000 + (n : Int)) ((day - Dy n).toNat + 1) (day - Dy n) (by omega) (by omega) (by omega);obtain ⟨t2, g2⟩ := qfq (2000 + (n : Int)) ((day - Dy n).toNat + 1) (day - Dy n) 1 (by omega) (by omega) (by omega);exact ⟨n, t1, t2, g1, g2, h0, by omega⟩
theorem qx1 {day : Int} (h0 : 0 ≤ day) (h1 : day ≤ 1000000) : ∃ (N : Nat) (t1 t2 : Int × Int), s195 day = some (2000 + (N : Int), t1) ∧ s161 day = some (2000 + (N : Int), t2) ∧ Dy N ≤ day ∧ day < Dy (N + 1) := by
 have := qis day h1 (day.toNat + 1) (day.toNat + 1) 0 (by simpa [Dy] using h0) (by simp [Dy]) (by simp [Dy])
 simpa [Dy, s195, s161] using this
abbrev kS : ByteArray := ⟨#[83]⟩
abbrev kW : ByteArray := ⟨#[87]⟩
theorem kSW : ¬ kW = kS := by decide
theorem qs9 {w : Int} (h : 0 ≤ w) (h' : w < 7) : s192 127 w = true := by
 have : w = 0 ∨ w = 1 ∨ w = 2 ∨ w = 3 ∨ w = 4 ∨ w = 5 ∨ w = 6 := by omega
 rcases this with rfl | rfl | rfl | rfl | rfl | rfl | rfl <;> rfl
theorem qly {y : Int} (h : 2000 ≤ y) (h' : y ≤ 3000) : s138 ⟨y, kS⟩ = some (sun (N3 y)) := by
 unfold s138;rw [decide_eq_true rfl, cond_true, qvr h h']; rfl
theorem qvs {y : Int} (h : 2000 ≤ y) (h' : y ≤ 3000) : s138 ⟨y, kW⟩ = some (sun (N10 y)) := by
 unfold s138;rw [decide_eq_false kSW, cond_false, qqb h h']; rfl
theorem qvt {y : Int} (h : 2000 ≤ y) (h' : y ≤ 2999) : s111 ⟨y, kS⟩ = some ⟨sun (N3 y), sun (N10 y) - 1, 127⟩ := by
 have h1 := qir h (by omega);have h2 := xb (N10 y);unfold s111;rw [decide_eq_true rfl, cond_true, qvp h (by omega), qp8 h (by omega)];simp only [bindO];rw [wrap_i64 ⟨by omega, by omega⟩]
theorem qvu {y : Int} (h : 2000 ≤ y) (h' : y ≤ 2999) : s111 ⟨y, kW⟩ = some ⟨sun (N10 y), sun (N3 (y + 1)) - 1, 127⟩ := by
 have h1 := qir (y := y + 1) (by omega) (by omega);have h2 := xb (N3 (y + 1));unfold s111;rw [decide_eq_false kSW, cond_false, qp8 h (by omega)];simp only [bindO];rw [wrap_i64 (n := y + 1) ⟨by omega, by omega⟩, qvp (by omega) (by omega)]
 simp only
 rw [wrap_i64 ⟨by omega, by omega⟩]
theorem qqe {f t d : Int} (h0 : 0 ≤ d) (h1 : d ≤ 1000000) : s157 ⟨f, t, 127⟩ d = decide (f ≤ d ∧ d ≤ t) := by
 unfold s157;rw [qeo h0 (by omega), qs9 (by omega) (by omega), Bool.and_true]
 simp
theorem qal (rec1 : Int → Option (S67 × Bool)) {day y : Int} (h0 : 0 ≤ day) (h1 : day ≤ 99999) (h : 2000 ≤ y) (h' : y ≤ 2999) : s110_l2 rec1 day y 2 0 =
  bif decide (sun (N3 y) ≤ day ∧ day ≤ sun (N10 y) - 1) then some (⟨y, kS⟩, true) else bif decide (sun (N10 y) ≤ day ∧ day ≤ sun (N3 (y + 1)) - 1) then some (⟨y, kW⟩, true) else rec1 (y + 1) := by
 have e1 : ByteArray.extract (⟨#[83, 87]⟩) (Int.toNat 0) (Int.toNat (IntKind.i64.wrap (0 + 1))) = kS := rfl;have e2 : ByteArray.extract (⟨#[83, 87]⟩) (Int.toNat (0 + 1)) (Int.toNat (IntKind.i64.wrap (0 + 1 + 1))) = kW := rfl;rw [s110_l2, e1, qvt h h'];simp only [bindO];rw [qqe h0 (by omega)]
 cases decide (sun (N3 y) ≤ day ∧ day ≤ sun (N10 y) - 1)
 ·rw [cond_false, cond_false, s110_l2, e2, qvu h h'];simp only [bindO];rw [qqe h0 (by omega)]
  cases decide (sun (N10 y) ≤ day ∧ day ≤ sun (N3 (y + 1)) - 1)
  ·rw [cond_false, cond_false, s110_l2]
  ·rfl
 ·rfl
theorem qkq {m n : Nat} (h : m ≤ n) : Dy m ≤ Dy n := by
 induction n with
 | zero => rw [Nat.le_zero.1 h]; exact Int.le_refl _
 | succ n ih =>
  have hr := qcf (2000 + (n : Int))
  rcases Nat.lt_or_ge n m with h' | h'
  ·have : m = n + 1 := by omega
   rw [this]; exact Int.le_refl _
  ·have := ih h';rw [Dy]; omega
def beg (s : S67) : Int := if s.Kind = kS then sun (N3 s.Year) else sun (N10 s.Year)
def nxt (s : S67) : Int := if s.Kind = kS then sun (N10 s.Year) else sun (N3 (s.Year + 1))
def okS (s : S67) : Prop := 2000 ≤ s.Year ∧ s.Year ≤ 2272 ∧ (s.Kind = kS ∨ s.Kind = kW)
theorem qqf (n : Nat) : N3 (2000 + (n : Int)) = 89 + lp (2000 + (n : Int)) + Dy n := by
 unfold N3
 have : (2000 + (n : Int) - 2000).toNat = n := by omega
 rw [this]
theorem qlz (n : Nat) : N10 (2000 + (n : Int)) = 303 + lp (2000 + (n : Int)) + Dy n := by
 unfold N10
 have : (2000 + (n : Int) - 2000).toNat = n := by omega
 rw [this]
theorem qeq (n : Nat) : Dy (n + 1) = Dy n + (365 + lp (2000 + (n : Int))) := by rw [Dy, qqd]
theorem qqg {day : Int} (h0 : 0 ≤ day) (h1 : day ≤ 99999) :
  (∃ s, s158 day = some (s, 0) ∧ s110 day = some (s, true) ∧ okS s ∧ beg s ≤ day ∧ day < nxt s) ∨ ((∃ s, s158 day = some (s, 30)) ∧ ∃ s, s110 day = some (s, false)) := by
 obtain ⟨N, t1, t2, g1, g2, g3, g4⟩ := qx1 h0 (by omega);have hN := qep N
 have hn : (N : Int) ≤ 273 := by omega
 have hl := xu (2000 + (N : Int));have a3 := qqf N;have a10 := qlz N;have s3 := xb (N3 (2000 + (N : Int)));have s10 := xb (N10 (2000 + (N : Int)));have dn := qeq N;have b3 := qqf (N + 1);have bl := xu (2000 + ((N + 1 : Nat) : Int));have bs := xb (N3 (2000 + ((N + 1 : Nat) : Int)))
 have ec : 2000 + (N : Int) + 1 = 2000 + ((N + 1 : Nat) : Int) := by omega
 have hE0 : sun (N3 2000) = 85 := rfl;have hE1 := qqf 273;have hEl := xu (2000 + ((273 : Nat) : Int));have hEs := xb (N3 (2000 + ((273 : Nat) : Int)))
 have h153 : s153 day = 0 := by
  unfold s153 s155 s154;rw [decide_eq_false (by omega : ¬ day < 0), decide_eq_false (by omega : ¬ 99999 < day)]
  rfl
 -- the program
 have p1 : s138 s193 = some (sun (N3 2000)) := qly (by omega) (by omega);have p2 : s138 (s139 s194) = some (sun (N3 2273)) := qly (y := 2273) (by omega) (by omega)
 have c273 : (2000 + ((273 : Nat) : Int)) = 2273 := by omega
 rw [c273] at hE1 hEl hEs
 have eP : s158 day = (bif (decide (day < sun (N3 2000))) || (decide (sun (N3 2273) ≤ day)) then some ((S67.mk 0 ByteArray.empty), 30) else bif decide (day < sun (N3 (2000 + (N : Int)))) then some ((S67.mk (2000 + (N : Int) - 1) kW), 0) else bif decide (day < sun (N10 (2000 + (N : Int)))) then some ((S67.mk (2000 + (N : Int)) kS), 0) else some ((S67.mk (2000 + (N : Int)) kW), 0)) := by
  unfold s158;rw [h153, decide_eq_false (by decide : ¬ (0 : Int) ≠ 0), cond_false, p1];simp only [bindO]
  by_cases hA : day < sun (N3 2000)
  ·rw [decide_eq_true hA, Bool.not_true, cond_false];simp only [Bool.true_or, cond_true]
  ·rw [decide_eq_false hA, Bool.not_false, cond_true, p2];simp only [Bool.false_or]
   cases decide (sun (N3 2273) ≤ day)
   ·rw [cond_false, cond_false, g1]
    simp only
    rw [qvr (by omega) (by omega), qqb (by omega) (by omega), wrap_i64 (n := 2000 + (N : Int) - 1) ⟨by omega, by omega⟩]
   ·rw [cond_true, cond_true]
 -- the reference
 have eR : s110 day = s110_l1 day (((min 2272 (2000 + (N : Int))) + 1) - (max 2000 (2000 + (N : Int) - 1))).toNat (max 2000 (2000 + (N : Int) - 1)) := by
  unfold s110;rw [g2];simp only [bindO];rw [wrap_i64 (n := 2000 + (N : Int) - 1) ⟨by omega, by omega⟩]
 have l2 : ∀ (r : Int → Option (S67 × Bool)) (y : Int), s110_l2 r day y ((2 : Int) - 0).toNat 0 = s110_l2 r day y 2 0 := fun r y => rfl
 by_cases hA : day < 85
 ·-- before the first season
  right
  refine ⟨⟨_, by rw [eP, decide_eq_true (by omega : day < sun (N3 2000))]; rfl⟩, ?_⟩
  have hN0 : N = 0 := by
   rcases Nat.eq_zero_or_pos N with h | h
   ·exact h
   ·have := qkq (show 1 ≤ N from h);have : Dy 1 = 366 := rfl
    omega
  subst hN0;rw [eR];show ∃ s, s110_l1 day 1 2000 = some (s, false);rw [s110_l1, l2, qal _ h0 h1 (by omega) (by omega)];have q := xb (N10 2000);have q1 : N10 2000 = 304 := rfl;rw [decide_eq_false (by omega), cond_false, decide_eq_false (by omega), cond_false];exact ⟨_, by rw [s110_l1]⟩
 ·by_cases hB : sun (N3 2273) ≤ day
  ·-- behind the last one
   right
   refine ⟨⟨_, by rw [eP, decide_eq_true hB, Bool.or_true]; rfl⟩, ?_⟩
   have hN0 : N = 273 := by
    by_cases h : N = 273
    ·exact h
    ·have := qkq (show N + 1 ≤ 273 by omega)
     omega
   subst hN0;rw [eR];show ∃ s, s110_l1 day 1 2272 = some (s, false);rw [s110_l1, l2, qal _ h0 h1 (by omega) (by omega)];have q := xb (N10 2272);have q1 := qlz 272;have q2 := xu (2000 + ((272 : Nat) : Int));have q3 := qeq 272
   have q4 : (2000 + ((272 : Nat) : Int)) = 2272 := by omega
   have q5 : (272 + 1 : Nat) = 273 := rfl;rw [q4] at q1 q2 q3;rw [q5] at q3
   have q6 : (2272 : Int) + 1 = 2273 := by omega
   rw [q6];rw [decide_eq_false (by omega), cond_false, decide_eq_false (by omega), cond_false];exact ⟨_, by rw [s110_l1]⟩
  ·left
   have eP' : s158 day = (bif decide (day < sun (N3 (2000 + (N : Int)))) then some ((S67.mk (2000 + (N : Int) - 1) kW), 0) else bif decide (day < sun (N10 (2000 + (N : Int)))) then some ((S67.mk (2000 + (N : Int)) kS), 0) else some ((S67.mk (2000 + (N : Int)) kW), 0)) := by
    rw [eP, decide_eq_false (by omega : ¬ day < sun (N3 2000)), decide_eq_false hB]; rfl
   by_cases hC : day < sun (N3 (2000 + (N : Int)))
   ·-- the winter that began the year before
    obtain ⟨M, rfl⟩ : ∃ M, N = M + 1 := by
     cases N with
     | zero => exact absurd hC (by show ¬ day < sun (N3 2000); omega)
     | succ M => exact ⟨M, rfl⟩
    have m10 := qlz M;have m3 := qqf M;have ml := xu (2000 + (M : Int));have ms := xb (N10 (2000 + (M : Int)));have md := qeq M
    have e9 : 2000 + ((M + 1 : Nat) : Int) - 1 = 2000 + (M : Int) := by omega
    have e10 : 2000 + (M : Int) + 1 = 2000 + ((M + 1 : Nat) : Int) := by omega
    rw [e9] at eP' eR;refine ⟨⟨2000 + (M : Int), kW⟩, by rw [eP', decide_eq_true hC]; rfl, ?_, ⟨by show 2000 ≤ 2000 + (M : Int); omega, by show 2000 + (M : Int) ≤ 2272; omega, .inr rfl⟩, ?_, ?_⟩
    ·have e11 : max 2000 (2000 + (M : Int)) = 2000 + (M : Int) := by omega
     rw [eR, e11];obtain ⟨k, hk⟩ : ∃ k, ((min 2272 (2000 + ((M + 1 : Nat) : Int))) + 1 - (2000 + (M : Int))).toNat = k + 1 := ⟨((min 2272 (2000 + ((M + 1 : Nat) : Int))) + 1 - (2000 + (M : Int))).toNat - 1, by omega⟩;rw [hk, s110_l1, l2, qal _ h0 h1 (by omega) (by omega), e10];rw [decide_eq_false (by omega), cond_false, decide_eq_true (by omega), cond_true]
    ·show (if kW = kS then _ else sun (N10 (2000 + (M : Int)))) ≤ day;rw [if_neg kSW]; omega
    ·show day < (if kW = kS then _ else sun (N3 (2000 + (M : Int) + 1)));rw [if_neg kSW, e10]; exact hC
   ·have hN2 : (N : Int) ≤ 272 := by
     by_cases h : N = 273
     ·subst h;rw [c273] at hC
      omega
     ·omega
    -- the year before has no season with this day
    have step : s110 day = s110_l2 (fun z0_ => s110_l1 day 0 z0_) day (2000 + (N : Int)) 2 0 := by
     rw [eR]
     cases N with
     | zero => rfl
     | succ M =>
      have m10 := qlz M;have m3 := qqf M;have ml := xu (2000 + (M : Int));have ms := xb (N10 (2000 + (M : Int)));have md := qeq M
      have e9 : 2000 + ((M + 1 : Nat) : Int) - 1 = 2000 + (M : Int) := by omega
      have e10 : 2000 + (M : Int) + 1 = 2000 + ((M + 1 : Nat) : Int) := by omega
      have e11 : max 2000 (2000 + ((M + 1 : Nat) : Int) - 1) = 2000 + (M : Int) := by omega
      have e12 : (min 2272 (2000 + ((M + 1 : Nat) : Int)) + 1 - (2000 + (M : Int))).toNat = 2 := by omega
      rw [e11, e12, s110_l1, l2, qal _ h0 h1 (by omega) (by omega), e10];rw [decide_eq_false (by omega), cond_false, decide_eq_false (by omega), cond_false, s110_l1, l2]
    rw [qal _ h0 h1 (by omega) (by omega), ec] at step
    by_cases hD : day < sun (N10 (2000 + (N : Int)))
    ·refine ⟨⟨2000 + (N : Int), kS⟩, by rw [eP', decide_eq_false hC, cond_false, decide_eq_true hD]; rfl, ?_, ⟨by show 2000 ≤ 2000 + (N : Int); omega, by show 2000 + (N : Int) ≤ 2272; omega, .inl rfl⟩, ?_, ?_⟩
     ·rw [step, decide_eq_true (by omega), cond_true]
     ·show (if kS = kS then sun (N3 (2000 + (N : Int))) else _) ≤ day;rw [if_pos rfl]; omega
     ·show day < (if kS = kS then sun (N10 (2000 + (N : Int))) else _);rw [if_pos rfl]; omega
    ·refine ⟨⟨2000 + (N : Int), kW⟩, by rw [eP', decide_eq_false hC, cond_false, decide_eq_false hD]; rfl, ?_, ⟨by show 2000 ≤ 2000 + (N : Int); omega, by show 2000 + (N : Int) ≤ 2272; omega, .inr rfl⟩, ?_, ?_⟩
     ·rw [step, decide_eq_false (by omega), cond_false, decide_eq_true (by omega), cond_true]
     ·show (if kW = kS then _ else sun (N10 (2000 + (N : Int)))) ≤ day;rw [if_neg kSW]; omega
     ·show day < (if kW = kS then _ else sun (N3 (2000 + (N : Int) + 1)));rw [if_neg kSW, ec]; omega
theorem qqh {s : S67} (h : okS s) : s138 s = some (beg s) := by
 obtain ⟨y, k⟩ := s;obtain ⟨h1, h2, h3⟩ := h;have h1 : 2000 ≤ y := h1;have h2 : y ≤ 2272 := h2
 rcases h3 with h3 | h3
 ·have h3 : k = kS := h3;subst h3;rw [qly h1 (by omega)];unfold beg; rw [if_pos rfl]
 ·have h3 : k = kW := h3;subst h3;rw [qvs h1 (by omega)];unfold beg; rw [if_neg kSW]
theorem qx2 {s : S67} (h : okS s) : s138 (s139 s) = some (nxt s) := by
 obtain ⟨y, k⟩ := s;obtain ⟨h1, h2, h3⟩ := h;have h1 : 2000 ≤ y := h1;have h2 : y ≤ 2272 := h2
 rcases h3 with h3 | h3
 ·have h3 : k = kS := h3;subst h3
  have e : s139 ⟨y, kS⟩ = ⟨y, kW⟩ := by unfold s139; rw [decide_eq_true rfl, cond_true]
  rw [e, qvs h1 (by omega)];unfold nxt; rw [if_pos rfl]
 ·have h3 : k = kW := h3;subst h3
  have e : s139 ⟨y, kW⟩ = ⟨y + 1, kS⟩ := by unfold s139; rw [decide_eq_false kSW, cond_false, wrap_i64 ⟨by show _ ≤ y + 1; omega, by show y + 1 ≤ _; omega⟩]
  rw [e, qly (by omega) (by omega)];unfold nxt; rw [if_neg kSW]
theorem qqi {s : S67} (h : okS s) : s111 s = some ⟨beg s, nxt s - 1, 127⟩ := by
 obtain ⟨y, k⟩ := s;obtain ⟨h1, h2, h3⟩ := h;have h1 : 2000 ≤ y := h1;have h2 : y ≤ 2272 := h2
 rcases h3 with h3 | h3
 ·have h3 : k = kS := h3;subst h3;rw [qvt h1 (by omega)];unfold beg nxt; rw [if_pos rfl, if_pos rfl]
 ·have h3 : k = kW := h3;subst h3;rw [qvu h1 (by omega)];unfold beg nxt; rw [if_neg kSW, if_neg kSW]
theorem qbu {s : S67} (h : okS s) : 0 ≤ beg s ∧ beg s ≤ 1000000 ∧ 0 ≤ nxt s ∧ nxt s ≤ 99999 := by
 obtain ⟨y, k⟩ := s;obtain ⟨h1, h2, _⟩ := h;have h1 : 2000 ≤ y := h1;have h2 : y ≤ 2272 := h2;have a := qir h1 (by omega);have b := qir (y := y + 1) (by omega) (by omega);have c1 := xb (N3 y);have c2 := xb (N10 y);have c3 := xb (N3 (y + 1))
 have e0 : (y + 1 - 2000).toNat = (y - 2000).toNat + 1 := by omega
 have d0 := qep (y - 2000).toNat;have d1 := qeq (y - 2000).toNat;have d2 := qkq (show (y - 2000).toNat + 1 ≤ 273 by omega)
 have d3 : Dy 273 = 99712 := by decide +kernel
 have l0 := xu (2000 + ((y - 2000).toNat : Int));have l1 := xu y;have l2 := xu (y + 1);have e1 : N10 y = 303 + lp y + Dy (y - 2000).toNat := rfl;have e2 : N3 (y + 1) = 89 + lp (y + 1) + Dy (y + 1 - 2000).toNat := rfl;rw [e0] at e2;unfold beg nxt
 by_cases hk : k = kS
 ·simp only [hk, if_true]
  omega
 ·simp only [hk, if_false]
  omega
def eqv (own s : S67) (d : Int) : Int := beg s + d - beg own
theorem qkr {s : S67} (h : okS s) : s107 s = 0 := by
 obtain ⟨y, k⟩ := s;obtain ⟨h1, h2, h3⟩ := h;have h1 : 2000 ≤ y := h1;have h2 : y ≤ 2272 := h2;unfold s107 s155 s154;rw [decide_eq_false (by show ¬ y < 2000; omega), decide_eq_false (by show ¬ 2272 < y; omega)]
 rcases h3 with h3 | h3
 ·have h3 : k = kS := h3;subst h3
  rfl
 ·have h3 : k = kW := h3;subst h3
  rfl
theorem qta {own s : S67} {d : Int} (hs : okS s) (ho : okS own) (h : s158 d = some (own, 0)) (hk : own.Kind = s.Kind) (hd : 0 ≤ d ∧ d ≤ 99999) : s159 d s = some (bif decide (nxt s ≤ eqv own s d) then (0, 7) else (eqv own s d, 0)) := by
 have a := qbu hs;have b := qbu ho;unfold s159;rw [h];simp only [bindO];rw [qkr hs, qqh hs, qqh ho, qx2 hs, decide_eq_true hk];have e : s152 [0, 0, s154 (!true) 13] = 0 := rfl;rw [e, decide_eq_false (by decide), cond_false]
 simp only
 rw [wrap_i64 (n := beg s + d) ⟨by omega, by omega⟩, wrap_i64 (n := beg s + d - beg own) ⟨by omega, by omega⟩];show (bif decide (nxt s ≤ eqv own s d) then some (0, 7) else some (eqv own s d, 0)) = _
 cases decide (nxt s ≤ eqv own s d) <;> rfl
def eqvL (own s : S67) (l : List Int) : List Int := (l.map (eqv own s)).filter (fun v => decide (v < nxt s))
theorem q08 {own s : S67} (hs : okS s) (ho : okS own) (hk : own.Kind = s.Kind) : ∀ (l : List Int) (k k' : Nat) (x : List Int), (∀ d ∈ l, s158 d = some (own, 0) ∧ 0 ≤ d ∧ d ≤ 99999) →
  s108_l2 s l k x = (bindO (s160 (x ++ eqvL own s l)) fun r => some (r.1, r.2)) ∧ s42_l2 s own.Year own.Kind l k' x = (bindO (s112 (x ++ eqvL own s l)) fun r => some (r, 0))
 | [], k, k', x, _ => by
  rw [s108_l2, s42_l2]
  simp [eqvL]
 | d :: l, k, k', x, h => by
  obtain ⟨h1, h2, h3⟩ := h d List.mem_cons_self;have a := qbu hs;have b := qbu ho;have ih := fun k k' x => q08 hs ho hk l k k' x fun z hz => h z (List.mem_cons_of_mem _ hz);rw [s108_l2, s42_l2, qta hs ho h1 hk ⟨h2, h3⟩, qqi (s := S67.mk own.Year own.Kind) ho, qqi hs];simp only [bindO];rw [wrap_i64 (n := d - beg (S67.mk own.Year own.Kind)) ⟨by show _ ≤ d - beg own; omega, by show d - beg own ≤ _; omega⟩];rw [wrap_i64 (n := d - beg (S67.mk own.Year own.Kind) + beg s) ⟨by show _ ≤ d - beg own + beg s; omega, by show d - beg own + beg s ≤ _; omega⟩]
  have e : d - beg (S67.mk own.Year own.Kind) + beg s = eqv own s d := by show d - beg own + beg s = beg s + d - beg own; omega
  rw [e]
  by_cases hc : nxt s ≤ eqv own s d
  ·have e2 : eqvL own s (d :: l) = eqvL own s l := by
    unfold eqvL;rw [List.map_cons, List.filter_cons, if_neg (by simp; omega)]
   rw [decide_eq_true hc, cond_true, e2];rw [decide_eq_false (by show ¬ (7 : Int) = 0; decide), cond_false, decide_eq_false (by omega), cond_false];exact ih (k + 1) (k' + 1) x
  ·have e2 : x ++ eqvL own s (d :: l) = (x ++ [eqv own s d]) ++ eqvL own s l := by
    unfold eqvL;rw [List.map_cons, List.filter_cons, if_pos (by simp; omega)]
    simp
   rw [decide_eq_false hc, cond_false, e2];rw [decide_eq_true (by show (0 : Int) = 0; rfl), cond_true, decide_eq_true (by omega), cond_true];exact ih (k + 1) (k' + 1) _
theorem w7 (m : Int) : ∀ (n : Nat) (d : Int), (dayL m n d).Pairwise (· < ·)
 | 0, d => by simp [dayL]
 | n + 1, d => by
  rw [dayL]
  split
  ·refine List.pairwise_cons.2 ⟨fun z hz => ?_, w7 m n (d + 1)⟩;have := vu m n (d + 1) z hz
   omega
  ·exact w7 m n (d + 1)
def JoinOk : Prop := ∀ l : List Int, l.Pairwise (· < ·) → (∀ d ∈ l, 0 ≤ d ∧ d ≤ 99999) → l.length ≤ 401 → ∃ R, s160 l = some (R, 0) ∧ s112 l = some R
def s103 (a0 a1 : ByteArray) (p : S45) (m : Int) : List S151 := slotsL a0 a1 (momL m (dayL p.Days (p.fTo + 1 - p.fFrom).toNat p.fFrom))
theorem q3c {g : List (Nat × List Value)} (a0 a1 : ByteArray) (p : S45) (m : Int) (hp : s102 p = 0) (hm0 : 0 ≤ m) (hm1 : m ≤ 1000000) : Con (EG g) 35 [G.str a0, G.str a1, G.agg [G.int p.fFrom, G.int p.fTo, G.int p.Days], G.int m] (G.sl 3 (List.map S151.c (s103 a0 a1 p m))) := by
 intro w M vs hM hgl hv;refine (q0h a0 a1 p m hp hm0 hm1 w M vs hM hgl hv).mono ?_;rintro e w' ⟨v, h1, h2, h3⟩;exact ⟨v, h1, h2, qow h3⟩
def dayP (p : S45) : List Int := dayL p.Days (p.fTo + 1 - p.fFrom).toNat p.fFrom
theorem qvv (a0 a1 : ByteArray) (p : S45) (m : Int) : (s103 a0 a1 p m).length = (dayP p).length := by simp [s103, slotsL, momL, dayP]
theorem q09 (a0 a1 : ByteArray) (p : S45) (m : Int) : UpS (s103 a0 a1 p m) := by
 unfold UpS s103 slotsL momL;rw [List.pairwise_map, List.pairwise_map]
 exact (w7 _ _ _).imp fun h => by show 1440 * _ + m ≤ 1440 * _ + m; omega
theorem q3d {a0 a1 : ByteArray} {p : S45} {m : Int} (h : (dayP p).length ≤ 100) : (s103 a0 a1 p m).length ≤ 1000 := by rw [qvv]; omega
structure RqOk (q : S115) : Prop where
 per : s102 q.Period = 0
 m0 : 0 ≤ q.Minute
 m1 : q.Minute ≤ 1439
 len : (dayP q.Period).length ≤ 100
end Go.Sim
set_option maxRecDepth 10000
namespace Go.Sim
open Go.Proofs
def s64_j1 (rec1 : Nat → (List S131) → Option ((List S131) × Int)) (k3 : Nat) (x6 : List S131) : Option ((List S131) × Int) :=
 rec1 (k3 + 1) x6
def s64_l2 (rec1 : Nat → (List S131) → Option ((List S131) × Int)) (a0 : S23) (a3 : S67) (x1 : List S131) (k3 : Nat) (y4 : S115) : List Int → Nat → Int → Int → Option ((List S131) × Int)
 | [], k11, x9, x10 => (bif !(s106 a0 (S55.mk x9 x10)) then s64_j1 rec1 k3 x1 else bindO (s108 (S45.mk y4.Period.fFrom y4.Period.fTo y4.Period.Days) a3) fun r14 => (bif decide (r14.2 ≠ 0) then some ([], r14.2) else s64_j1 rec1 k3 (x1 ++ [(S131.mk y4.Name r14.1)])))
 | y12 :: t13, k11, x9, x10 => s64_l2 rec1 a0 a3 x1 k3 y4 t13 (k11 + 1) ((s126 (S55.mk x9 x10) y12).Flown) ((s126 (S55.mk x9 x10) y12).Due)
def s64_l1 (a0 : S23) (a2 : List S104) (a3 : S67) : List S115 → Nat → (List S131) → Option ((List S131) × Int)
 | [], k3, x1 => some (x1, 0)
 | y4 :: t5, k3, x1 => bindO (s124 a0 (s103 y4.Name y4.Kind (S45.mk y4.Period.fFrom y4.Period.fTo y4.Period.Days) y4.Minute) a2) fun r7 => s64_l2 (fun k_ z0_ => s64_l1 a0 a2 a3 t5 k_ z0_) a0 a3 x1 k3 y4 r7 0 0 0
def s64 (a0 : S23) (a1 : List S115) (a2 : List S104) (a3 : S67) : Option ((List S131) × Int) :=
 (bif decide ((s84 [(s23 a0), (s134 a1), (s27 a2), (s107 a3)]) ≠ 0) then some ([], (s84 [(s23 a0), (s134 a1), (s27 a2), (s107 a3)])) else s64_l1 a0 a2 a3 a1 0 [])
theorem c64 (a0 : S23) (a1 : List S115) (a2 : List S104) (a3 : S67) {R : (List S131) × Int}  (hv : ¬ s84 [s23 a0, s134 a1, s27 a2, s107 a3] ≠ 0 → (∀ q ∈ a1, RqOk q) ∧ a1.length ≤ 64 ∧ a2.length ≤ 12) (hR : s64 a0 a1 a2 a3 = some R) : Con (EG glT) 14 [G.agg [G.int a0.Before, G.int a0.After, G.int a0.Notice, G.int a0.Share, G.sl 1 (List.map cStr a0.Causes), G.int a0.Off, G.int a0.Run], G.sl 13 (List.map S115.c a1), G.sl 8 (List.map S104.c a2), G.agg [G.int a3.Year, G.str a3.Kind]] (G.tup [G.sl 2 (List.map S131.c R.1), G.int R.2]) := by
 unfold s64 at hR;refine qn Tryz.func14 rfl rfl fun w0 M0 => ?_;refine zj (f := S115.c) (l := a1) 1 rfl fun hla1 => ?_;refine zj (f := S104.c) (l := a2) 2 rfl fun hla2 => ?_;refine qb ?_;refine qa [.p, .p, .p, .p] ?_;refine su (zp rfl rfl) rfl ?_;refine su (zp rfl rfl) rfl ?_;refine sa rfl rfl ?_;refine sa rfl rfl ?_;refine qc ?_;refine qb ?_;refine qb ?_;refine jf [.p, .p, .p, .p, .p, .p, .p, .p, .p, .p, .p] (by kernel_rfl) ?_;refine su (qt rfl ty24 rfl rfl rfl) rfl ?_;refine su (qf rfl K23 rfl (c23 a0) (qe rfl qi)) rfl ?_;refine sm rfl rfl ?_;refine su (qf rfl K134 rfl (c134 a1) (qe rfl qi)) rfl ?_;refine sm rfl rfl ?_;refine su (qf rfl K27 rfl (c27 a2) (qe rfl qi)) rfl ?_;refine su (qt rfl ty68 rfl rfl rfl) rfl ?_;refine su (qf rfl K107 rfl (c107 a3) (qe rfl qi)) rfl ?_;refine su (qq rfl Tryz.underlying156 ty37 z37 rfl (qu rfl (qu rfl (qu rfl (qu rfl j5)))) rfl (by simp []) (by decide)) rfl ?_;refine su (qf rfl K84 rfl (c84 [(s23 a0), (s134 a1), (s27 a2), (s107 a3)]) (qe rfl qi)) rfl ?_;refine sa rfl rfl ?_;refine qc ?_;refine qb ?_;refine qa [.p, .p] ?_;refine sm rfl rfl ?_;refine su (zu rfl rfl rfl) rfl ?_;refine qc ?_;refine qh _ rfl (fun h1 => ?_) (fun h1 => ?_)
 ·replace h1 : (decide ((s84 [(s23 a0), (s134 a1), (s27 a2), (s107 a3)]) ≠ 0)) = true := h1;replace hR := zf hR h1;(try simp only [bB] at h1);refine qb ?_;refine qa [.p, .p, .p] ?_;refine sm rfl rfl ?_;refine sa rfl rfl ?_;refine sa rfl rfl ?_;refine qc ?_;refine qo ?_;obtain rfl := Option.some.inj hR;exact resN rfl ⟨ww rfl (qef _), rv_g rfl, trivial⟩ (by simp)
 ·replace h1 : (decide ((s84 [(s23 a0), (s134 a1), (s27 a2), (s107 a3)]) ≠ 0)) = false := h1;replace hR := zi hR h1;(try simp only [bB] at h1);obtain ⟨hq, hl1, hb2⟩ := hv h1;refine ql ?_;refine qb ?_;refine qa [.w] ?_;refine sw (jz 11 59 2 rfl rfl rfl) rfl ?_;refine qc ?_;refine qb ?_;refine qb ?_;refine qa [.p, .p, .p] ?_;refine sm rfl rfl ?_;refine su (zb (f := S115.c) (l := a1) rfl Tryz.underlying57 rfl) rfl ?_;refine sm rfl rfl ?_;refine qc ?_;refine qm ?_;refine qr (γ := Nat × (List S115) × (List S131)) (fun g => ([(2, .g (G.sl 8 (List.map S104.c a2))), (4, .g (G.ref [G.int a0.Before, G.int a0.After, G.int a0.Notice, G.int a0.Share, G.sl 1 (List.map cStr a0.Causes), G.int a0.Off, G.int a0.Run])), (7, .g (G.ref [G.int a3.Year, G.str a3.Kind])), (11, .osl 11 2 0 (List.length g.2.2)), (32, .g (G.sl 13 (List.map S115.c a1))), (33, .g (G.int (List.length a1 : Int))), (34, .g (G.int ((g.1 : Nat) : Int)))], [(11, .arr 59 2 (List.map S131.c g.2.2))])) (fun g => g.2.2.length ≤ g.1 ∧ g.1 ≤ a1.length ∧ a1.drop g.1 = g.2.1 ∧ s64_l1 a0 a2 a3 g.2.1 g.1 g.2.2 = some R) (fun g => List.length g.2.1) ⟨rfl, (0, a1, []), ⟨rfl, rfl, rfl, rfl, rfl, rfl, rfl, trivial⟩, ⟨rfl, trivial⟩, rfl, ⟨iH, iH, rfl, hR⟩, trivial⟩ ?_
  ·rintro ⟨k3, t5, x1⟩ ⟨iv1_0, iv1_1, hd, hR⟩;replace hd : a1.drop k3 = t5 := hd;replace hR : s64_l1 a0 a2 a3 t5 k3 x1 = some R := hR;replace iv1_0 : x1.length ≤ k3 := iv1_0;replace iv1_1 : k3 ≤ a1.length := iv1_1;refine qb ?_;refine qa [.p] ?_;refine su (qx rfl rfl rfl) rfl ?_;refine qc ?_;refine zj (f := S115.c) (l := a1) 32 rfl fun hlz1 => ?_;refine qb ?_;refine qh _ rfl (fun h2 => ?_) (fun h2 => ?_)
   ·replace h2 : (decide (((k3 : Nat) : Int) < (List.length a1 : Int))) = true := h2;obtain ⟨y4, t5, rfl, hx1, hd⟩ := zk hd (decT h2);replace h2 := decT h2;rw [s64_l1] at hR;(try dsimp only at hR);refine ql ?_;refine j6 (γ := (List S131)) (fun g => ([(2, .g (G.sl 8 (List.map S104.c a2))), (4, .g (G.ref [G.int a0.Before, G.int a0.After, G.int a0.Notice, G.int a0.Share, G.sl 1 (List.map cStr a0.Causes), G.int a0.Off, G.int a0.Run])), (7, .g (G.ref [G.int a3.Year, G.str a3.Kind])), (11, .osl 11 2 0 (List.length g)), (32, .g (G.sl 13 (List.map S115.c a1))), (33, .g (G.int (List.length a1 : Int))), (34, .g (G.int ((k3 : Nat) : Int)))], [(11, .arr 59 2 (List.map S131.c g))])) (fun g => g.length ≤ k3 + 1 ∧ s64_j1 (fun k_ z0_ => s64_l1 a0 a2 a3 t5 k_ z0_) k3 g = some R) ?_ ?_
    ·refine qm ?_;refine qb ?_;refine qa [.p, .p, .w, .w] ?_;refine su (jb (f := S115.c) (l := a1) (a := y4) rfl Tryz.underlying57 qe1 rfl rfl (Int.natCast_nonneg _) hx1) rfl ?_;refine su (qt rfl qe1 rfl rfl rfl) rfl ?_;refine sw (zr 13 rfl z116 rfl rfl) rfl ?_;refine ji rfl rfl (qy (tv := .g (G.agg [G.str y4.Name, G.str y4.Carrier, G.str y4.Kind, G.str y4.Terminal, G.str y4.Partner, G.str y4.Link, G.int y4.Period.fFrom, G.int y4.Period.fTo, G.int y4.Period.Days, G.int y4.Minute, G.int y4.Seats, G.int y4.Size, G.int y4.Noise])) rfl qe1 rfl rfl rfl rfl rfl) ?_;refine qc ?_;refine qb ?_;refine qa [.w] ?_;refine sw (zr 14 rfl z56 rfl rfl) rfl ?_;refine qc ?_;refine qb ?_;refine qb ?_;have hq7 := hq _ (List.mem_of_getElem? hx1);obtain ⟨r7, br7, hR⟩ := qj hR;refine jf [.p, .p, .r, .p, .r, .p, .r, .p, .r, .p, .p, .p, .p, .p] (by kernel_rfl) ?_;refine su (qt rfl ty24 rfl rfl rfl) rfl ?_;refine su (zo rfl qdr rfl) rfl ?_;refine sr (jl rfl ty9 rfl rfl rfl) rfl ?_;refine su (zo rfl qnz rfl) rfl ?_;refine sr (jl rfl ty9 rfl rfl rfl) rfl ?_;refine su (zo rfl qjy rfl) rfl ?_;refine sr (zw rfl ty46 rfl rfl rfl rfl) rfl ?_;refine su (zo rfl qn0 rfl) rfl ?_;refine sr (jl rfl ty3 rfl rfl rfl) rfl ?_;refine su (qf rfl K103 rfl (q3c y4.Name y4.Kind (S45.mk y4.Period.fFrom y4.Period.fTo y4.Period.Days) y4.Minute hq7.per hq7.m0 (by have := hq7.m1; omega)) (qe rfl (qe rfl (qe rfl (qe rfl qi))))) rfl ?_;refine sm rfl rfl ?_;refine su (qf rfl K124 rfl (q05 a0 (s103 y4.Name y4.Kind (S45.mk y4.Period.fFrom y4.Period.fTo y4.Period.Days) y4.Minute) a2 (q3d hq7.len) (by omega) (.inr (q09 _ _ _ _)) br7) (qe rfl (qe rfl (qe rfl qi)))) rfl ?_;refine su (zb (f := cInt) (l := r7) rfl Tryz.underlying64 rfl) rfl ?_;refine sm rfl rfl ?_;refine qc ?_;refine qm ?_;refine qr (γ := Nat × (List Int) × Int × Int) (fun g => ([(2, .g (G.sl 8 (List.map S104.c a2))), (4, .g (G.ref [G.int a0.Before, G.int a0.After, G.int a0.Notice, G.int a0.Share, G.sl 1 (List.map cStr a0.Causes), G.int a0.Off, G.int a0.Run])), (7, .g (G.ref [G.int a3.Year, G.str a3.Kind])), (11, .osl 11 2 0 (List.length x1)), (13, .ptr 13 0), (14, .ptr 14 0), (32, .g (G.sl 13 (List.map S115.c a1))), (33, .g (G.int (List.length a1 : Int))), (34, .g (G.int ((k3 : Nat) : Int))), (49, .g (G.sl 1 (List.map cInt r7))), (50, .g (G.int (List.length r7 : Int))), (51, .g (G.int ((g.1 : Nat) : Int)))], [(11, .arr 59 2 (List.map S131.c x1)), (13, .box [.g (G.str y4.Name), .g (G.str y4.Carrier), .g (G.str y4.Kind), .g (G.str y4.Terminal), .g (G.str y4.Partner), .g (G.str y4.Link), .g (G.int y4.Period.fFrom), .g (G.int y4.Period.fTo), .g (G.int y4.Period.Days), .g (G.int y4.Minute), .g (G.int y4.Seats), .g (G.int y4.Size), .g (G.int y4.Noise)]), (14, .box [.g (G.int g.2.2.1), .g (G.int g.2.2.2)])])) (fun g => r7.drop g.1 = g.2.1 ∧ s64_l2 (fun k_ z0_ => s64_l1 a0 a2 a3 t5 k_ z0_) a0 a3 x1 k3 y4 g.2.1 g.1 g.2.2.1 g.2.2.2 = some R) (fun g => List.length g.2.1) ⟨rfl, (0, r7, 0, 0), ⟨rfl, rfl, rfl, rfl, rfl, rfl, rfl, rfl, rfl, rfl, rfl, rfl, trivial⟩, ⟨rfl, rfl, rfl, trivial⟩, rfl, ⟨rfl, hR⟩, trivial⟩ ?_
     ·rintro ⟨k11, t13, x9, x10⟩ ⟨hd2, hR⟩;replace hd2 : r7.drop k11 = t13 := hd2;replace hR : s64_l2 (fun k_ z0_ => s64_l1 a0 a2 a3 t5 k_ z0_) a0 a3 x1 k3 y4 t13 k11 x9 x10 = some R := hR;refine qb ?_;refine qa [.p] ?_;refine su (qx rfl rfl rfl) rfl ?_;refine qc ?_;refine zj (f := cInt) (l := r7) 49 rfl fun hlz2 => ?_;refine qb ?_;refine qh _ rfl (fun h4 => ?_) (fun h4 => ?_)
      ·replace h4 : (decide (((k11 : Nat) : Int) < (List.length r7 : Int))) = true := h4;obtain ⟨y12, t13, rfl, hx2, hd2⟩ := zk hd2 (decT h4);replace h4 := decT h4;rw [s64_l2] at hR;(try dsimp only at hR);refine ql ?_;refine qb ?_;refine qm ?_;refine qb ?_;refine qa [.p, .p, .p] ?_;refine su (jb (f := cInt) (l := r7) (a := y12) rfl Tryz.underlying64 ty3 rfl rfl (Int.natCast_nonneg _) hx2) rfl ?_;refine su (qg rfl ty3 rfl) rfl ?_;refine sa rfl rfl ?_;refine qc ?_;refine qa [.p, .w] ?_;refine sm rfl rfl ?_;refine sw (ju 0 14 rfl K126 rfl (c126 (S55.mk x9 x10) y12) (ze rfl rfl (ze rfl rfl xj)) rfl rfl rfl) rfl ?_;refine qc ?_;refine qa [.p, .p] ?_;refine su (zg rfl rfl rfl iE) rfl ?_;refine sm rfl rfl ?_;refine qc ?_;exact ⟨rfl, (k11 + 1, t13, (s126 (S55.mk x9 x10) y12).Flown, (s126 (S55.mk x9 x10) y12).Due), ⟨rfl, rfl, rfl, rfl, rfl, rfl, rfl, rfl, rfl, rfl, rfl, rfl, trivial⟩, ⟨rfl, rfl, rfl, trivial⟩, rfl, ⟨hd2, hR⟩, by simp⟩
      ·replace h4 : (decide (((k11 : Nat) : Int) < (List.length r7 : Int))) = false := h4;obtain rfl := zt hd2 (decF h4);rw [s64_l2] at hR;refine zc ?_;refine qb ?_;refine qb ?_;refine qa [.p, .r, .p, .p] ?_;refine su (qt rfl ty24 rfl rfl rfl) rfl ?_;refine sr (zw rfl ty56 rfl rfl rfl rfl) rfl ?_;refine su (qf rfl K106 rfl (c106 a0 (S55.mk x9 x10)) (qe rfl (qe rfl qi))) rfl ?_;refine su (vc rfl rfl) rfl ?_;refine qc ?_;refine qh _ rfl (fun h6 => ?_) (fun h6 => ?_)
       ·replace h6 : (!(s106 a0 (S55.mk x9 x10))) = true := h6;replace hR := zf hR h6;(try simp only [bB] at h6);refine zc ?_;exact ⟨rfl, x1, ⟨rfl, rfl, rfl, rfl, rfl, rfl, rfl, trivial⟩, ⟨rfl, trivial⟩, rfl, ⟨iC, hR⟩, trivial⟩
       ·replace h6 : (!(s106 a0 (S55.mk x9 x10))) = false := h6;replace hR := zi hR h6;(try simp only [bB] at h6);refine ql ?_;refine qb ?_;obtain ⟨r14, br14, hR⟩ := qj hR;refine qa [.p, .r, .p, .p, .p, .p, .p, .p, .p] ?_;refine su (zo rfl qjy rfl) rfl ?_;refine sr (zw rfl ty46 rfl rfl rfl rfl) rfl ?_;refine su (qt rfl ty68 rfl rfl rfl) rfl ?_;refine su (qf rfl K108 rfl (c108 (S45.mk y4.Period.fFrom y4.Period.fTo y4.Period.Days) a3 hq7.per br14) (qe rfl (qe rfl qi))) rfl ?_;refine sm rfl rfl ?_;refine su (qz rfl rfl rfl) rfl ?_;refine su (qz rfl rfl rfl) rfl ?_;refine sa rfl rfl ?_;refine sa rfl rfl ?_;refine qc ?_;refine qb ?_;refine qb ?_;refine qa [.p, .p] ?_;refine sm rfl rfl ?_;refine su (zu rfl rfl rfl) rfl ?_;refine qc ?_;refine qh _ rfl (fun h7 => ?_) (fun h7 => ?_)
        ·replace h7 : (decide (r14.2 ≠ 0)) = true := h7;replace hR := zf hR h7;(try simp only [bB] at h7);refine qb ?_;refine qa [.p, .p, .p] ?_;refine sm rfl rfl ?_;refine sa rfl rfl ?_;refine sa rfl rfl ?_;refine qc ?_;refine qo ?_;obtain rfl := Option.some.inj hR;exact resN rfl ⟨ww rfl (qef _), rv_g rfl, trivial⟩ (by simp)
        ·replace h7 : (decide (r14.2 ≠ 0)) = false := h7;replace hR := zi hR h7;(try simp only [bB] at h7);refine ql ?_;refine qa [.p, .p, .r, .p, .p, .p, .k, .p] ?_;refine su (qp rfl rfl) rfl ?_;refine su (zo rfl qdr rfl) rfl ?_;refine sr (jl rfl ty9 rfl rfl rfl) rfl ?_;refine sm rfl rfl ?_;refine su (jy rfl z132 rfl q2u (zx rfl (zx rfl vy)) rfl) rfl ?_;refine su (qq rfl Tryz.underlying52 qwg z132 rfl (qu rfl j5) rfl (by exact lens rfl) (by decide)) rfl ?_;refine st_k rfl rfl (vw (f := S131.c) (out := x1) (new := [(S131.mk y4.Name r14.1)]) rfl qz3 rfl rfl (qab rfl (qac (by decide) (by simp [S131.c, S45.c]))) (qd3 rfl) (by simp; omega)) rfl ?_;refine su (zh rfl rfl) rfl ?_;refine qc ?_;exact ⟨rfl, x1 ++ [(S131.mk y4.Name r14.1)], ⟨rfl, rfl, rfl, rfl, rfl, rfl, rfl, trivial⟩, ⟨rfl, trivial⟩, rfl, ⟨iC, hR⟩, trivial⟩
    ·rintro x6 ⟨jv1_0, hR⟩;replace jv1_0 : x6.length ≤ k3 + 1 := jv1_0;replace hR : s64_j1 (fun k_ z0_ => s64_l1 a0 a2 a3 t5 k_ z0_) k3 x6 = some R := hR;unfold s64_j1 at hR;refine qa [.p, .p] ?_;refine su (zg rfl rfl rfl iE) rfl ?_;refine sm rfl rfl ?_;refine qc ?_;exact ⟨rfl, (k3 + 1, t5, x6), ⟨rfl, rfl, rfl, rfl, rfl, rfl, rfl, trivial⟩, ⟨rfl, trivial⟩, rfl, ⟨iB, iB, hd, hR⟩, by simp⟩
   ·replace h2 : (decide (((k3 : Nat) : Int) < (List.length a1 : Int))) = false := h2;obtain rfl := zt hd (decF h2);rw [s64_l1] at hR;refine zc ?_;refine qb ?_;refine qa [.p, .p, .p] ?_;refine su (qp rfl rfl) rfl ?_;refine su (zh rfl rfl) rfl ?_;refine sa rfl rfl ?_;refine qc ?_;refine qo ?_;obtain rfl := Option.some.inj hR;exact resN rfl ⟨qga rfl rfl, rv_g rfl, trivial⟩ (by simp)
section
variable {E : Env} {w0 : World} {M0 : Nat → Prop}
theorem MFits.get {w : World} {M : Nat → Prop} : ∀ {es : List (Value × G)} {l : List MapEntry} {j : Nat} {e : MapEntry}, MFits w M es l → l[j]? = some e → ∃ k g, es[j]? = some (k, g) ∧ e.key = k ∧ g.p w M e.val
 | [], [], _, _, _, h => by simp at h
 | (k, g) :: _, e' :: _, 0, e, h, he => by
  simp at he; subst he
  exact ⟨k, g, rfl, h.1.1, h.1.2⟩
 | _ :: _, _ :: _, j + 1, e, h, he => by
  obtain ⟨k, g, h1, h2⟩ := MFits.get h.2 (by simpa using he);exact ⟨k, g, by simpa using h1, h2⟩
 | [], _ :: _, _, _, h, _ => h.elim
 | _ :: _, [], _, _, h, _ => h.elim
theorem MFits.length {w : World} {M : Nat → Prop} : ∀ {es : List (Value × G)} {l : List MapEntry}, MFits w M es l → l.length = es.length
 | [], [], _ => rfl
 | (_, _) :: _, _ :: _, h => by simp [MFits.length h.2]
 | [], _ :: _, h => h.elim
 | _ :: _, [], h => h.elim
end
theorem nodup_sub_len {α : Type} [DecidableEq α] : ∀ {a b : List α}, a.Nodup → (∀ x ∈ a, x ∈ b) → a.length ≤ b.length
 | [], _, _, _ => Nat.zero_le _
 | x :: a, b, hn, hs => by
  obtain ⟨h1, h2⟩ := List.nodup_cons.1 hn
  have hx := hs x List.mem_cons_self
  have := nodup_sub_len (b := b.erase x) h2 fun y hy => (List.mem_erase_of_ne (fun e => h1 (by rw [← e]; exact hy))).2 (hs y (List.mem_cons_of_mem _ hy))
  rw [List.length_erase_of_mem hx] at this
  have : 0 < b.length := List.length_pos_of_mem hx
  simp; omega
section
variable {α : Type}
def MOrd (m : List α) (sn : List Nat) (l : List α) : Prop := sn.Nodup ∧ l.map some = sn.reverse.map (fun j => m[j]?)
theorem MOrd.lt {m : List α} {sn : List Nat} {l : List α} (h : MOrd m sn l) {j : Nat} (hj : j ∈ sn) : j < m.length := by
 have h1 : m[j]? ∈ sn.reverse.map (fun j => m[j]?) := List.mem_map.2 ⟨j, List.mem_reverse.2 hj, rfl⟩;rw [← h.2] at h1;obtain ⟨x, _, hx⟩ := List.mem_map.1 h1;exact (List.getElem?_eq_some_iff.1 hx.symm).1
theorem MOrd.len {m : List α} {sn : List Nat} {l : List α} (h : MOrd m sn l) : l.length ≤ m.length := by
 have h1 : l.length = sn.length := by have := congrArg List.length h.2; simpa using this
 have := nodup_sub_len h.1 (b := List.range m.length) fun x hx => List.mem_range.2 (h.lt hx)
 simp at this
 omega
end
end Go.Sim
set_option maxRecDepth 10000
namespace Go.Sim
open Go.Proofs
def s140 (a0 : Int) : Int × Int :=
 (bif decide ((s153 a0) ≠ 0) then (0, (s153 a0)) else ((s188 a0), 0))
theorem c140 {g : List (Nat × List Value)} (a0 : Int)    : Con (EG g) 38 [G.int a0] (G.tup [G.int ((s140 a0).1), G.int ((s140 a0).2)]) := by
 generalize hR : s140 a0 = R;unfold s140 at hR;refine qn Tryz.func38 rfl rfl fun w0 M0 => ?_;refine qb ?_;refine qa [.p, .p] ?_;refine sa rfl rfl ?_;refine sa rfl rfl ?_;refine qc ?_;refine qb ?_;refine qb ?_;refine qa [.p, .p, .p] ?_;refine sm rfl rfl ?_;refine su (qf rfl K153 rfl (c153 a0) (qe rfl qi)) rfl ?_;refine sa rfl rfl ?_;refine qc ?_;refine qb ?_;refine qa [.p, .p] ?_;refine sm rfl rfl ?_;refine su (zu rfl rfl rfl) rfl ?_;refine qc ?_;refine qh _ rfl (fun h1 => ?_) (fun h1 => ?_)
 ·replace h1 : (decide ((s153 a0) ≠ 0)) = true := h1;replace hR := zf hR h1;(try simp only [bB] at h1);refine qb ?_;refine qa [.p, .p, .p] ?_;refine sm rfl rfl ?_;refine sa rfl rfl ?_;refine sa rfl rfl ?_;refine qc ?_;refine qo ?_;subst hR;exact resN rfl ⟨rv_g rfl, rv_g rfl, trivial⟩ (by simp)
 ·replace h1 : (decide ((s153 a0) ≠ 0)) = false := h1;replace hR := zi hR h1;(try simp only [bB] at h1);refine ql ?_;refine qb ?_;refine qa [.p, .p, .p, .p] ?_;refine sm rfl rfl ?_;refine su (qf rfl K188 rfl (c188 a0) (qe rfl qi)) rfl ?_;refine sa rfl rfl ?_;refine sa rfl rfl ?_;refine qc ?_;refine qo ?_;subst hR;exact resN rfl ⟨rv_g rfl, rv_g rfl, trivial⟩ (by simp)
section
variable {E : Env} {w0 : World} {M0 : Nat → Prop}
theorem qnj {o : Oper} {mem : Mem} {ev : Operand → TV} {t : TypeId} {zs : List Value} {N k : Nat} {c : List G} (id : Nat) (ho : o.op = .alloc t) (hz : zeroK E.P t = some zs) (hz1 : zs.all Value.oneCell' = true) (hN : N ≤ maxLen)
  (hc : zs.map G.lit = (List.replicate N c).flatten) (hk : c.length = k) (hf : lookO mem id = none) :
  EffW E o mem ev (.eptr id k 0 0) ((id, .arr t k (List.replicate N c)) :: mem) none := by
 intro w0 M0 ρ w e hm _;have hr0 := w4 hm hf;have hg := Grow.alloc w (.cells zs.toArray t)
 have hM : ∀ b, b < w.heap.size → owned M0 (rhoSet ρ id (some ⟨w.heap.size, 0, N⟩)) b → owned M0 ρ b := by
  rintro b hb (h | ⟨i, o, h, rfl⟩)
  ·exact .inl h
  ·by_cases hi : i = id
   ·subst hi; rw [qw] at h; cases h; simp at hb
   ·exact .inr ⟨i, o, by simpa [rhoSet, hi] using h, rfl⟩
 have hzf : Fits w (owned M0 ρ) (List.replicate N c).flatten zs := by rw [← hc]; exact fits_lits (fun v hv => List.all_eq_true.1 hz1 v hv)
 have hzl : zs.length = N * k := by rw [hzf.length]; simp [hk]
 have hrun : (execOp e o).run E.P w = .ok (.value (.pointer (some ⟨w.heap.size, 0, none⟩))) (w.alloc (.cells zs.toArray t)) := by
  simp [execOp, ho, kh hz]
 rw [hrun];obtain ⟨g1, g2⟩ := vi (id := id) (x := some ⟨w.heap.size, 0, N⟩) (blk' := .arr t k (List.replicate N c)) none hm (wj ρ id w (.cells zs.toArray t)) (fun o ho => by cases ho; exact ⟨.inl (Nat.le_refl _), by simp⟩) (.inr ⟨rfl, .inl hr0⟩) (fun _ b _ _ => j7 b) (.inl rfl)
  (.inr ⟨⟨w.heap.size, 0, N⟩, _, qw _ _ _, heap_alloc_new w _, by simp, hN, .inr (by show 0 + N * k ≤ _; simp [hzl]), fun d hd => by
   rw [List.eq_of_mem_replicate hd]; exact hk, by
   show Fits _ _ _ ((List.drop 0 _).take _);rw [List.drop_zero, List.length_replicate, List.take_of_length_le (by simp [hzl])]
   exact hzf.mono hg.hh hM⟩)
 exact ⟨_, g1, g2, ⟨w.heap.size, 0, N⟩, qw _ _ _, by simp⟩
theorem qnk {o : Oper} {ev : Operand → TV} {t el : TypeId} {x ix : Operand} {k id N : Nat} {b : Bool} {kk : IntKind} {n : Int} (ho : o.op = .indexAddr t x ix)
  (ht : E.P.underlying t = some (.array N el)) (he : tyK E.P el = some (k, b)) (hx : ev x = .eptr id k 0 0) (hi' : ev ix = .g (.lit (.int kk n))) (h0 : 0 ≤ n) (hn : n.toNat < N) (mem : Mem) :
  Eff E o mem ev (.eptr id k n.toNat 0) :=
 zy (fun w M ρ e' hev => by
  have h1 := hev x (by rw [ho]; simp [Op.operands]);rw [hx] at h1;have h2 := hev ix (by rw [ho]; simp [Op.operands]);rw [hi'] at h2;have h2' : e' ix = .int kk n := h2;obtain ⟨ow, g1, g2⟩ := h1
  have hn' : n < (N : Int) := by omega
  refine ⟨.pointer (some ⟨ow.b, ow.o + n.toNat * k, none⟩), ?_, ow, g1, by simp⟩;simp only [execOp, ho, g2, h2']
  simp [Instr.indexAt, asIntOf, underlying, ht, run_sizeOf he, h0, hn', Instr.sureAddr, Addr.add_lit]) mem
theorem qit {k : Nat} : ∀ {xs : List (List G)}, (∀ c ∈ xs, c.length = k) → xs.flatten.length = xs.length * k
 | [], _ => by simp
 | c :: xs, h => by
  rw [List.flatten_cons, List.length_append, qit (fun d hd => h d (List.mem_cons_of_mem _ hd)), h c List.mem_cons_self, List.length_cons, Nat.succ_mul]; omega
theorem qqj {o : Oper} {mem : Mem} {ev : Operand → TV} {t e : TypeId} {x : Operand} {kk id k : Nat} {xs : List (List G)} (ho : o.op = .load t x) (ht : tyK E.P t = some (kk, true)) (hx : ev x = .eptr id k 0 0) (hb : lookO mem id = some (.arr e k xs)) (hk : kk = xs.length * k) : Eff E o mem ev (.g (.agg xs.flatten)) := by
 intro w0 M0 ρ w e' hm he;have h1 := he x (by rw [ho]; simp [Op.operands]);rw [hx] at h1;obtain ⟨ow, h2, h3⟩ := h1
 rcases hm.blk id _ hb with ⟨q1, _⟩ | ⟨ow', cur, q1, q2, q3, q4, q5, q6, q7⟩
 ·rw [h2] at q1; cases q1
 have : ow' = ow := by rw [h2] at q1; simpa using q1.symm
 subst this
 have hlen : ((cur.toList.drop ow'.o).take (xs.length * k)).length = xs.length * k := by rw [q7.length, qit q6]
 have g2 : ∀ (j : Nat) v, ((cur.toList.drop ow'.o).take (xs.length * k))[j]? = some v → w.cell? ⟨ow'.b, ow'.o + j, none⟩ = some v := by
  intro j v hj;rw [cell_of_row w _ _ _ _ _ q2];rw [List.getElem?_take] at hj
  split at hj
  ·rw [List.getElem?_drop] at hj; simpa using hj
  ·cases hj
 have hrun : (execOp e' o).run E.P w = .ok (.value (.agg ((cur.toList.drop ow'.o).take (xs.length * k)).toArray)) w := by
  simp only [Nat.zero_mul, Nat.add_zero] at h3
  simp [execOp, ho, h3, Instr.loadAt, Instr.sureAddr, zd ht (hlen.trans hk.symm) g2]
 rw [hrun];exact ⟨Grow.refl w, _, rfl, q7⟩
theorem qnl {o : Oper} {ev : Operand → TV} {t el : TypeId} {x ix : Operand} {k N : Nat} {kk : IntKind} {n : Int} {xs : List (List G)} {c : List G} (ho : o.op = .index t x ix)
  (ht : E.P.underlying t = some (.array N el)) (he : tyK E.P el = some (k, true)) (hx : ev x = .g (.agg xs.flatten)) (hi' : ev ix = .g (.lit (.int kk n))) (h0 : 0 ≤ n) (hn : n.toNat < N) (hk : ∀ c ∈ xs, c.length = k) (hc : xs[n.toNat]? = some c) (mem : Mem) :
  Eff E o mem ev (.g (.agg c)) :=
 zy (fun w M ρ e' hev => by
  have h1 := hev x (by rw [ho]; simp [Op.operands]);rw [hx] at h1;have h2 := hev ix (by rw [ho]; simp [Op.operands]);rw [hi'] at h2;have h2' : e' ix = .int kk n := h2;obtain ⟨vs, g1, g2⟩ := h1
  have hn' : n < (N : Int) := by omega
  have hlt : n.toNat < xs.length := (List.getElem?_eq_some_iff.1 hc).1
  have hd : (xs.flatten.drop (n.toNat * k)).take k = c := by
   rw [kp n.toNat hk, List.drop_eq_getElem_cons hlt, List.flatten_cons, (List.getElem?_eq_some_iff.1 hc).2];rw [List.take_append_of_le_length (by rw [hk c (List.mem_of_getElem? hc)]; exact Nat.le_refl _), List.take_of_length_le (by rw [hk c (List.mem_of_getElem? hc)]; exact Nat.le_refl _)]
  refine ⟨.agg ((vs.drop (n.toNat * k)).take k).toArray, ?_, _, rfl, by rw [← hd]; exact (g2.drop _).take k⟩;simp only [execOp, ho, g1, h2']
  simp [Instr.index, asIntOf, underlying, ht, run_sizeOf he, h0, hn', part, jh he]) mem
end
section
variable {E : Env} {w0 : World} {M0 : Nat → Prop}
theorem qqk {w : World} {M : Nat → Prop} {ρ ρc : Rho} {p c k i : Nat} {ev : Operand → TV} {e : Operand → Value} (hρ : ∀ q d, lookO [(p, c)] q = some d → ρc q = ρ d) {aps : List Operand} {args : List TV} (h : ∀ x ∈ aps, TRel w M ρ (ev x) (e x))
  (he : aps.map (fun x => some (ev x)) = some (.eptr c k i 0) :: args.map (renT [(p, c)])) : ArgsT w M ρc (.eptr p k i 0 :: args) (aps.map e) := by
 cases aps with
 | nil => simp at he
 | cons x aps =>
  simp only [List.map_cons, List.cons.injEq, Option.some.injEq] at he;refine ⟨?_, qg1 hρ (fun z hz => h z (List.mem_cons_of_mem _ hz)) he.2⟩;have h1 := h x List.mem_cons_self;rw [he.1] at h1;obtain ⟨ow, h3, h4⟩ := h1;exact ⟨ow, (hρ p c (by simp [lookO])).trans h3, h4⟩
theorem qnm {o : Oper} {mem : Mem} {ev : Operand → TV} {f : FuncId} {aps : Array Operand} {ts : Array TypeId} {args : List TV} {k i : Nat} {b b' : Blk} {r : G} (p c : Nat) (ho : o.op = .call ⟨.value (.func f), aps, ts⟩)
  (hk : Known E.P f) (hev : ev (.func f) = .g (.lit (.func (.func f) #[] #[]))) (hc : ConB E f (.eptr p k i 0 :: args) [(p, b)] r [(p, b')]) (ha : aps.toList.map (fun x => some (ev x)) = some (.eptr c k i 0) :: args.map (renT [(p, c)])) (hl : lookO mem c = some b) (hσ : lendOk [(p, c)] [(p, b)] [(p, b')] = true) (hg : b.ground = true) :
  EffW E o mem ev (.g r) ((c, b') :: mem) none := by
 intro w0 M0 ρ w e hm hx;obtain ⟨fn, h1, h2, h3⟩ := hk
 have hp : lookO [(p, c)] p = some c := by simp [lookO]
 have hef : e (.func f) = .func (.func f) #[] #[] := by
  have := hx (.func f) (by rw [ho]; simp [Op.operands, Call.operands]);rw [hev] at this;exact this
 have := qfk (res := (execOp e o).run E.P w) (vs := aps.toList.map e) [(p, c)] hc hm ⟨⟨c, hp, hl, hg⟩, trivial⟩ hσ (fun ρc hρ => qqk hρ (fun x hx' => hx x (by rw [ho]; simp [Op.operands, Call.operands]; exact .inr (by simpa using hx'))) ha) (by
  simp [execOp, ho, resolve, hef, Deferred.ofValue, invoke, run_callFunc h1 h2 h3, ← Array.toList_map])
 have he : renM [(p, c)] [(p, b')] ++ mem = (c, b') :: mem := by simp [renM, hp]
 rwa [he] at this
theorem qtb {ev : Operand → TV} {x : Operand} {xs : List Operand} {z : TV} {ys : List (Option TV)} (h : ev x = z) (k : List.map (fun x => some (ev x)) xs = ys) : List.map (fun x => some (ev x)) (x :: xs) = some z :: ys := by
 rw [List.map_cons, h, k]
theorem qtc {α : Type} {l : List α} {i : Nat} {a : α} (h : l[i]? = some a) : l.set i a = l := by
 obtain ⟨h1, h2⟩ := List.getElem?_eq_some_iff.1 h;rw [← h2]; exact List.set_getElem_self h1
end
end Go.Sim
set_option maxRecDepth 10000
namespace Go.Sim
open Go.Proofs
theorem q3e {g : List (Nat × List Value)} {l : List S55} {i : Nat} {a0 : S55} (a1 : Int) (ha : l[i]? = some a0) : ConB (EG g) 39 [.eptr 0 2 i 0, .g (G.int a1)] [(0, .arr 106 2 (l.map S55.c))] (G.tup []) [(0, .arr 106 2 ((l.set i (s126 a0 a1)).map S55.c))] := by
 generalize hR : s126 a0 a1 = R;unfold s126 at hR;have hi : i < l.length := (List.getElem?_eq_some_iff.1 ha).1;refine kc Tryz.func39 rfl rfl rfl fun w0 M0 x => ?_;refine j6 (γ := Int) (fun g => ([(0, .eptr 0 2 i 0), (1, .g (G.int a1))], [(0, .arr 106 2 ((l.set i (S55.mk a0.Flown g)).map S55.c))])) (fun g => s126_j1 a0 a1 g = R) ?_ ?_
 ·refine qb ?_;refine qa [.p, .p] ?_;refine sm rfl rfl ?_;refine su (zu rfl rfl rfl) rfl ?_;refine qc ?_;refine qh _ rfl (fun h2 => ?_) (fun h2 => ?_)
  ·replace h2 : (decide (a1 ≠ 0)) = true := h2;replace hR := zf hR h2;refine qa [.p, .p, .p, .r, .p, .p, .p, .w] ?_;refine su (qiu rfl rfl) rfl ?_;refine su (qdd rfl rfl) rfl ?_;refine su (qav rfl qe5 rfl) rfl ?_;refine sr (vp rfl ty3 rfl rfl ha rfl) rfl ?_;refine su (jx rfl rfl rfl) rfl ?_;refine su (qdd rfl rfl) rfl ?_;refine su (qav rfl qe5 rfl) rfl ?_;refine ji rfl rfl (qlt (a' := S55.mk a0.Flown (IntKind.i64.wrap (a0.Due + 1))) rfl ty3 rfl rfl rfl ha rfl rfl rfl) ?_;refine qc ?_;exact ⟨rfl, IntKind.i64.wrap (a0.Due + 1), ⟨rfl, rfl, trivial⟩, ⟨rfl, trivial⟩, rfl, hR, trivial⟩
  ·replace h2 : (decide (a1 ≠ 0)) = false := h2;replace hR := zi hR h2;refine ql ?_;refine ⟨rfl, a0.Due, ⟨rfl, rfl, trivial⟩, ⟨?_, trivial⟩, rfl, hR, trivial⟩;show some (Blk.arr 106 2 (l.map S55.c)) = some (Blk.arr 106 2 ((l.set i ⟨a0.Flown, a0.Due⟩).map S55.c));rw [qtc ha]
 ·rintro x1 hR;replace hR : s126_j1 a0 a1 x1 = R := hR;unfold s126_j1 at hR;have hb : (l.set i (S55.mk a0.Flown x1))[i]? = some (S55.mk a0.Flown x1) := List.getElem?_set_self hi;refine qb ?_;refine qa [.p, .p, .p, .p, .p, .p] ?_;refine sm rfl rfl ?_;refine su (j9 rfl rfl rfl) rfl ?_;refine sm rfl rfl ?_;refine sg rfl rfl (fun h => qk rfl rfl) rfl ?_;refine sg rfl rfl (fun h => j9 rfl (gd h rfl) rfl) rfl ?_;refine su (jr rfl rfl rfl rfl) rfl ?_;refine qc ?_;refine qh _ rfl (fun h1 => ?_) (fun h1 => ?_)
  ·replace h1 : ((decide (a1 = 1)) || (decide (a1 = 2))) = true := h1;replace hR := zf hR h1;refine qa [.p, .p, .p, .r, .p, .p, .p, .w] ?_;refine su (qiu rfl rfl) rfl ?_;refine su (qdd rfl rfl) rfl ?_;refine su (qav rfl qhk rfl) rfl ?_;refine sr (vp rfl ty3 rfl rfl hb rfl) rfl ?_;refine su (jx rfl rfl rfl) rfl ?_;refine su (qdd rfl rfl) rfl ?_;refine su (qav rfl qhk rfl) rfl ?_;refine ji rfl rfl (qlt (a' := S55.mk (IntKind.i64.wrap (a0.Flown + 1)) x1) rfl ty3 rfl rfl rfl hb rfl rfl rfl) ?_;refine qc ?_;subst hR;show ResOk _ _ _ _ ∧ MemL _ _;have hss : (l.set i (S55.mk a0.Flown x1)).set i (S55.mk (IntKind.i64.wrap (a0.Flown + 1)) x1) = l.set i (S55.mk (IntKind.i64.wrap (a0.Flown + 1)) x1) := List.set_set ..;exact ⟨res0 rfl, ⟨congrArg (fun z : List S55 => some (Blk.arr 106 2 (List.map S55.c z))) hss, trivial⟩⟩
  ·replace h1 : ((decide (a1 = 1)) || (decide (a1 = 2))) = false := h1;replace hR := zi hR h1;refine ql ?_;subst hR;show ResOk _ _ _ _ ∧ MemL _ _;exact ⟨res0 rfl, ⟨rfl, trivial⟩⟩
end Go.Sim
set_option maxRecDepth 10000
namespace Go.Sim
open Go.Proofs
theorem ql0 (d : Int) : 0 ≤ (s140 d).1 ∧ (s140 d).1 < 7 := by
 unfold s140
 by_cases h : s153 d = 0
 ·rw [decide_eq_false (by simpa using h), cond_false]
  have h1 : 0 ≤ d ∧ d ≤ 99999 := by
   unfold s153 s155 s154 at h
   by_cases h1 : d < 0
   ·simp [h1] at h
   ·by_cases h2 : 99999 < d
    ·simp [h2] at h
    ·omega
  show 0 ≤ s188 d ∧ s188 d < 7;unfold s188;rw [wrap_i64 ⟨by omega, by omega⟩, Int.tmod_eq_emod_of_nonneg (by omega)]
  omega
 ·rw [decide_eq_true h, cond_true]; exact ⟨Int.le_refl 0, (by decide : (0 : Int) < 7)⟩
def s72_l2 (a0 : S23) : List S55 → Nat → Int → Int
 | [], _, x => x
 | y :: t, k, x => bif s106 a0 y then s72_l2 a0 t (k + 1) (orI x (shlI 1 ((k : Nat) : Int))) else s72_l2 a0 t (k + 1) x
def s72_l1 (a0 : S23) (a1 : List S151) : List Int → Nat → List S55 → Option (Int × Int)
 | [], _, x => some (s72_l2 a0 x 0 0, 0)
 | y :: t, k, x => bindO (ixO a1 ((k : Nat) : Int)) fun y8 => bindO (ixO x (s140 (y8.Moment / 1440)).1) fun z => s72_l1 a0 a1 t (k + 1) (x.set (s140 (y8.Moment / 1440)).1.toNat (s126 z y))
def s72 (a0 : S23) (a1 : List S151) (a2 : List S104) : Option (Int × Int) :=
 (bif decide ((s122 a0 a1 a2) ≠ 0) then some (0, (s122 a0 a1 a2)) else bindO (s124 a0 a1 a2) fun r1 => s72_l1 a0 a1 r1 0 (List.replicate 7 (S55.mk 0 0)))
theorem qvw : Tryz.prog.underlying 106 = some (.array 7 71) := by kernel_rfl
set_option maxHeartbeats 4000000 in
theorem c72 (a0 : S23) (a1 : List S151) (a2 : List S104) {R : Int × Int} (hb : ¬ s122 a0 a1 a2 ≠ 0 → (a1.length ≤ 1000 ∧ ∀ r, s124 a0 a1 a2 = some r → Con (EG glT) 37 [G.agg [G.int a0.Before, G.int a0.After, G.int a0.Notice, G.int a0.Share, G.sl 1 (List.map cStr a0.Causes), G.int a0.Off, G.int a0.Run], G.sl 3 (List.map S151.c a1), G.sl 8 (List.map S104.c a2)] (G.sl 1 (List.map cInt r))) ∧ ∀ s ∈ a1, 0 ≤ s.Moment ∧ s.Moment ≤ 143999999) (hc1 : a1.length * 40 ≤ 140737488351232) (hc2 : a2.length * 96 ≤ 140737488351232) (hR : s72 a0 a1 a2 = some R) :
  Con (EG glT) 11 [G.agg [G.int a0.Before, G.int a0.After, G.int a0.Notice, G.int a0.Share, G.sl 1 (List.map cStr a0.Causes), G.int a0.Off, G.int a0.Run], G.sl 3 (List.map S151.c a1), G.sl 8 (List.map S104.c a2)] (G.tup [G.int R.1, G.int R.2]) := by
 unfold s72 at hR;refine qn Tryz.func11 rfl rfl fun w0 M0 => ?_;refine zj (f := S151.c) (l := a1) 1 rfl fun hla1 => ?_;refine zj (f := S104.c) (l := a2) 2 rfl fun hla2 => ?_;refine qb ?_;refine qa [.p, .p, .p] ?_;refine su (zp rfl rfl) rfl ?_;refine sa rfl rfl ?_;refine sa rfl rfl ?_;refine qc ?_;refine qb ?_;refine qb ?_;refine qa [.p, .p, .p, .p, .p] ?_;refine su (qt rfl ty24 rfl rfl rfl) rfl ?_;refine sm rfl rfl ?_;refine sm rfl rfl ?_;refine su (qf rfl K122 rfl (c122 a0 a1 a2 hc1 hc2) (qe rfl (qe rfl (qe rfl qi)))) rfl ?_;refine sa rfl rfl ?_;refine qc ?_;refine qb ?_;refine qa [.p, .p] ?_;refine sm rfl rfl ?_;refine su (zu rfl rfl rfl) rfl ?_;refine qc ?_;refine qh _ rfl (fun h1 => ?_) (fun h1 => ?_)
 ·replace h1 : (decide ((s122 a0 a1 a2) ≠ 0)) = true := h1;replace hR := zf hR h1;refine qb ?_;refine qa [.p, .p, .p] ?_;refine sm rfl rfl ?_;refine sa rfl rfl ?_;refine sa rfl rfl ?_;refine qc ?_;refine qo ?_;obtain rfl := Option.some.inj hR;exact resN rfl ⟨rv_g rfl, rv_g rfl, trivial⟩ (by simp)
 ·replace h1 : (decide ((s122 a0 a1 a2) ≠ 0)) = false := h1;replace hR := zi hR h1;obtain ⟨⟨hb1, hb2⟩, hmo⟩ := hb (of_decide_eq_false h1);refine ql ?_;refine qb ?_;refine qa [.w] ?_;refine sw (qnj (N := 7) (c := [G.int 0, G.int 0]) 9 rfl z218 rfl (by decide) rfl rfl rfl) rfl ?_;refine qc ?_;refine qb ?_;refine qb ?_;refine Exists.elim (qj hR) (fun r1 hq_ => ?_);have br1 := hq_.1;replace hR := hq_.2;clear hq_;refine qa [.p, .p, .p, .p, .p, .p] ?_;refine su (qt rfl ty24 rfl rfl rfl) rfl ?_;refine sm rfl rfl ?_;refine sm rfl rfl ?_;refine su (qf rfl K124 rfl (hb2 _ br1) (qe rfl (qe rfl (qe rfl qi)))) rfl ?_;refine su (zb (f := cInt) (l := r1) rfl Tryz.underlying64 rfl) rfl ?_;refine sm rfl rfl ?_;refine qc ?_;refine qm ?_;refine qr (γ := Nat × (List Int) × (List S55)) (fun g => ([(1, .g (G.sl 3 (List.map S151.c a1))), (3, .g (G.ref [G.int a0.Before, G.int a0.After, G.int a0.Notice, G.int a0.Share, G.sl 1 (List.map cStr a0.Causes), G.int a0.Off, G.int a0.Run])), (9, .eptr 9 2 0 0), (27, .g (G.sl 1 (List.map cInt r1))), (28, .g (G.int (List.length r1 : Int))), (29, .g (G.int ((g.1 : Nat) : Int)))], [(9, .arr 106 2 (List.map S55.c g.2.2))])) (fun g => g.2.2.length = 7 ∧ r1.drop g.1 = g.2.1 ∧ s72_l1 a0 a1 g.2.1 g.1 g.2.2 = some R) (fun g => g.2.1.length) ⟨rfl, (0, r1, List.replicate 7 (S55.mk 0 0)), ⟨rfl, rfl, rfl, rfl, rfl, rfl, trivial⟩, ⟨rfl, trivial⟩, rfl, ⟨rfl, rfl, hR⟩, trivial⟩ ?_
  ·rintro ⟨k4, u6, x3⟩ ⟨hx7, hd, hR⟩;replace hd : r1.drop k4 = u6 := hd;replace hR : s72_l1 a0 a1 u6 k4 x3 = some R := hR;replace hx7 : x3.length = 7 := hx7;refine qb ?_;refine qa [.p] ?_;refine su (qx rfl rfl rfl) rfl ?_;refine qc ?_;refine zj (f := cInt) (l := r1) 27 rfl fun hlz1 => ?_;refine qb ?_;refine qh _ rfl (fun h2 => ?_) (fun h2 => ?_)
   ·replace h2 : (decide (((k4 : Nat) : Int) < (List.length r1 : Int))) = true := h2;refine Exists.elim (zk hd (decT h2)) (fun y5 hq_ => ?_);refine Exists.elim hq_ (fun t6 hqq_ => ?_);have et6 := hqq_.1;have hx1 := hqq_.2.1;replace hd := hqq_.2.2;clear hqq_ hq_;rw [et6] at hR;replace h2 := decT h2;rw [s72_l1] at hR;refine ql ?_;refine qb ?_;refine qm ?_;refine qb ?_;refine qa [.p, .p, .p, .p, .p] ?_;refine sm rfl rfl ?_;refine su (jb (f := cInt) (l := r1) (a := y5) rfl Tryz.underlying64 ty3 rfl rfl (Int.natCast_nonneg _) hx1) rfl ?_;refine su (qg rfl ty3 rfl) rfl ?_;refine sa rfl rfl ?_;refine sa rfl rfl ?_;refine qc ?_;refine qb ?_;refine Exists.elim (qj hR) (fun y8 hq_ => ?_);have by8 := hq_.1;replace hR := hq_.2;clear hq_;refine Exists.elim (qj hR) (fun z hq_ => ?_);have bz := hq_.1;replace hR := hq_.2;clear hq_;have hm8 := hmo y8 (List.mem_of_getElem? (qv by8));have hw8 := ql0 (y8.Moment / 1440);refine qa [.p, .p, .p, .p, .p, .p, .p, .p, .p, .p, .p, .p] ?_;refine sm rfl rfl ?_;refine sm rfl rfl ?_;refine su (jb (f := S151.c) (l := a1) (a := y8) rfl Tryz.underlying39 kz rfl rfl (jd by8) (qv by8)) rfl ?_;refine su (qd rfl v5 rfl) rfl ?_;refine su (qg rfl ty3 rfl) rfl ?_;refine su (qwz rfl rfl rfl hm8.1 (by decide) iE) rfl ?_;refine su (qf rfl K140 rfl (c140 (y8.Moment / 1440)) (qe rfl qi)) rfl ?_;refine sm rfl rfl ?_;refine su (qz rfl rfl rfl) rfl ?_;refine su (qz rfl rfl rfl) rfl ?_;refine sa rfl rfl ?_;refine sa rfl rfl ?_;refine qc ?_;refine qa [.p, .p, .p, .w] ?_;refine sm rfl rfl ?_;refine su (qnk rfl qvw ty56 rfl rfl hw8.1 (by omega)) rfl ?_;refine sm rfl rfl ?_;refine sw (qnm 0 9 rfl K126 rfl (q3e y5 (qv bz)) (qtb rfl (ze rfl rfl xj)) rfl rfl rfl) rfl ?_;refine qc ?_;refine qa [.p, .p] ?_;refine su (zg rfl rfl rfl iE) rfl ?_;refine sm rfl rfl ?_;refine qc ?_;exact ⟨rfl, (k4 + 1, t6, x3.set (s140 (y8.Moment / 1440)).1.toNat (s126 z y5)), ⟨rfl, rfl, rfl, rfl, rfl, rfl, trivial⟩, ⟨rfl, trivial⟩, rfl, ⟨(List.length_set ..).trans hx7, hd, hR⟩, by simp [et6]⟩
   ·replace h2 : (decide (((k4 : Nat) : Int) < (List.length r1 : Int))) = false := h2;have hn_ := zt hd (decF h2);rw [hn_] at hR;rw [s72_l1] at hR;replace hR := Option.some.inj hR;refine zc ?_;refine qb ?_;refine qa [.p] ?_;refine sa rfl rfl ?_;refine qc ?_;refine qb ?_;refine qb ?_;refine qa [.r, .p] ?_;refine sr (qqj rfl q2v rfl rfl (by rw [List.length_map, hx7])) rfl ?_;refine sm rfl rfl ?_;refine qc ?_;refine qm ?_;refine qr (γ := Nat × (List S55) × Int) (fun g => ([(3, .g (G.ref [G.int a0.Before, G.int a0.After, G.int a0.Notice, G.int a0.Share, G.sl 1 (List.map cStr a0.Causes), G.int a0.Off, G.int a0.Run])), (14, .g (G.int g.2.2)), (49, .g (G.agg (List.map S55.c x3).flatten)), (50, .g (G.int ((g.1 : Nat) : Int)))], [])) (fun g => x3.drop g.1 = g.2.1 ∧ (s72_l2 a0 g.2.1 g.1 g.2.2, (0 : Int)) = R) (fun g => g.2.1.length) ⟨rfl, (0, x3, 0), ⟨rfl, rfl, rfl, rfl, trivial⟩, trivial, rfl, ⟨rfl, hR⟩, trivial⟩ ?_
    ·rintro ⟨k7, u7, x14⟩ ⟨hd, hR⟩;replace hd : x3.drop k7 = u7 := hd;replace hR : (s72_l2 a0 u7 k7 x14, (0 : Int)) = R := hR;refine qb ?_;refine qa [.p] ?_;refine su (qx rfl rfl rfl) rfl ?_;refine qc ?_;refine qb ?_;refine qh _ rfl (fun h3 => ?_) (fun h3 => ?_)
     ·replace h3 : (decide (((k7 : Nat) : Int) < 7)) = true := h3;have h3' := decT h3;refine Exists.elim (zk hd (by omega)) (fun y7 hq_ => ?_);refine Exists.elim hq_ (fun t7 hqq_ => ?_);have et7 := hqq_.1;have hx2 := hqq_.2.1;replace hd := hqq_.2.2;clear hqq_ hq_;rw [et7] at hR;rw [s72_l2] at hR
      have hgx : (List.map S55.c x3)[(((k7 : Nat) : Int)).toNat]? = some (S55.c y7) := by rw [Int.toNat_natCast, List.getElem?_map, hx2]; rfl
      refine ql ?_;refine qb ?_;refine qm ?_;refine qb ?_;refine qa [.p, .p, .w, .p, .w] ?_;refine sm rfl rfl ?_
      refine su (qnl (c := S55.c y7) rfl qvw ty56 rfl rfl (Int.natCast_nonneg _) (by omega) (fun c hc => by
       obtain ⟨s, _, rfl⟩ := List.mem_map.1 hc; rfl) hgx) rfl ?_
      refine sw (zr 16 rfl z56 rfl rfl) rfl ?_;refine sa rfl rfl ?_;refine ji rfl rfl (qy (tv := .g (G.agg [G.int y7.Flown, G.int y7.Due])) rfl ty56 rfl rfl rfl rfl rfl) ?_;refine qc ?_;refine qb ?_;refine qa [.p, .r, .p] ?_;refine su (qt rfl ty24 rfl rfl rfl) rfl ?_;refine sr (zw rfl ty56 rfl rfl rfl rfl) rfl ?_;refine su (qf rfl K106 rfl (c106 a0 y7) (qe rfl (qe rfl qi))) rfl ?_;refine qc ?_;refine qh _ rfl (fun h4 => ?_) (fun h4 => ?_)
      ·replace h4 : s106 a0 y7 = true := h4;rw [h4, cond_true] at hR;refine qa [.p, .p, .p, .p, .p] ?_;refine sm rfl rfl ?_;refine sm rfl rfl ?_;refine su (qpy rfl rfl rfl (by omega)) rfl ?_;refine su (qpx rfl rfl rfl) rfl ?_;refine sa rfl rfl ?_;refine qc ?_;refine qa [.p, .p] ?_;refine su (zg rfl rfl rfl iE) rfl ?_;refine sm rfl rfl ?_;refine qc ?_;exact ⟨rfl, (k7 + 1, t7, orI x14 (shlI 1 ((k7 : Nat) : Int))), ⟨rfl, rfl, rfl, rfl, trivial⟩, trivial, rfl, ⟨hd, hR⟩, by simp [et7]⟩
      ·replace h4 : s106 a0 y7 = false := h4;rw [h4, cond_false] at hR;refine ql ?_;refine qa [.p, .p] ?_;refine su (zg rfl rfl rfl iE) rfl ?_;refine sm rfl rfl ?_;refine qc ?_;exact ⟨rfl, (k7 + 1, t7, x14), ⟨rfl, rfl, rfl, rfl, trivial⟩, trivial, rfl, ⟨hd, hR⟩, by simp [et7]⟩
     ·replace h3 : (decide (((k7 : Nat) : Int) < 7)) = false := h3;have h3' := decF h3;have hn_ := zt hd (by omega);rw [hn_] at hR;rw [s72_l2] at hR;refine zc ?_;refine qb ?_;refine qa [.p, .p, .p] ?_;refine sm rfl rfl ?_;refine sa rfl rfl ?_;refine sa rfl rfl ?_;refine qc ?_;refine qo ?_;subst hR;exact resN rfl ⟨rv_g rfl, rv_g rfl, trivial⟩ (by simp)
theorem qql (l : List S104) : s28 (s22 l) = s27 l := (qsi qwx l).symm
theorem qvx : ∀ x : List UInt8, Op.bytesLess x x = false
 | [] => rfl
 | a :: x => by simp [Op.bytesLess, qvx x]
theorem q1a : ∀ x y z : List UInt8, Op.bytesLess x y = true → Op.bytesLess y z = true → Op.bytesLess x z = true
 | _, _, [], _, h => by cases ‹List UInt8› <;> simp [Op.bytesLess] at h
 | _, [], _ :: _, h, _ => by cases ‹List UInt8› <;> simp [Op.bytesLess] at h
 | [], _ :: _, _ :: _, _, _ => rfl
 | a :: x, b :: y, c :: z, h, k => by
  simp only [Op.bytesLess, Bool.or_eq_true, decide_eq_true_eq, Bool.and_eq_true, beq_iff_eq] at h k ⊢
  rcases h with h | ⟨rfl, h⟩
  ·rcases k with k | ⟨rfl, k⟩
   ·exact .inl (UInt8.lt_trans h k)
   ·exact .inl h
  ·rcases k with k | ⟨rfl, k⟩
   ·exact .inl k
   ·exact .inr ⟨rfl, q1a x y z h k⟩
theorem qvy : ∀ x y : List UInt8, Op.bytesLess x y = false → Op.bytesLess y x = false → x = y
 | [], [], _, _ => rfl
 | [], _ :: _, h, _ => by simp [Op.bytesLess] at h
 | _ :: _, [], _, h => by simp [Op.bytesLess] at h
 | a :: x, b :: y, h, k => by
  simp only [Op.bytesLess, Bool.or_eq_false_iff, decide_eq_false_iff_not, Bool.and_eq_false_iff, beq_eq_false_iff_ne] at h k;have e : a = b := UInt8.le_antisymm (UInt8.not_lt.1 k.1) (UInt8.not_lt.1 h.1);subst e;rw [qvy x y (h.2.resolve_left fun g => g rfl) (k.2.resolve_left fun g => g rfl)]
theorem qiv (a : ByteArray) : strLt a a = false := qvx _
theorem q3f {a b c : ByteArray} (h : strLt a b = true) (k : strLt b c = true) : strLt a c = true := q1a _ _ _ h k
theorem qvz {a b : ByteArray} (h : strLt a b = false) (k : strLt b a = false) : a = b := by
 have := qvy _ _ h k;have e := toList_inj (s := a) (s' := b);rw [this] at e
 simpa using e.symm
theorem q1b {a b : ByteArray} (h : strLt a b = true) (k : strLt b a = true) : False := by
 have := q3f h k;rw [qiv] at this; cases this
theorem qa3 (a b : S151) : s127 a b = true ↔ a.Moment < b.Moment ∨ (a.Moment = b.Moment ∧ (strLt a.Name b.Name = true ∨ (a.Name = b.Name ∧ (strLt a.Kind b.Kind = true ∨ a.Kind = b.Kind)))) := by
 unfold s127
 by_cases h : a.Moment = b.Moment
 ·rw [decide_eq_false (by simpa using h), cond_false]
  by_cases g : a.Name = b.Name
  ·simp [h, g, qiv]
  ·simp [h, g]
 ·rw [decide_eq_true h, cond_true]
  simp [h]
theorem qqm (a b : ByteArray) : s133 a b = bif strLt a b then -1 else bif decide (a = b) then 0 else 1 := by
 have h : ∀ x, s183 x = false := fun x => by unfold s183; simp
 unfold s133;rw [h, h]
 cases h1 : strLt a b
 ·by_cases h2 : a = b <;> simp [h2]
 ·rfl
theorem qx3 (a b : S151) : decide (s175 a b < 0) = !(s127 b a) := by
 have h0 : ∀ x, s202 x = false := fun x => by unfold s202; simp
 have hm : s167 a.Moment b.Moment = bif decide (a.Moment < b.Moment) then -1 else bif decide (b.Moment < a.Moment) then 1 else 0 := by
  unfold s167;rw [h0, h0]
  simp
 unfold s175 s176;rw [hm, qqm, qqm]
 by_cases hlt : a.Moment < b.Moment
 ·have : s127 b a = false := by
   cases hc : s127 b a
   ·rfl
   ·rw [qa3] at hc; omega
  rw [this]
  simp [s176_l1, hlt]
 ·by_cases hgt : b.Moment < a.Moment
  ·have : s127 b a = true := by rw [qa3]; exact .inl hgt
   rw [this]
   simp [s176_l1, hlt, hgt]
  ·have he : b.Moment = a.Moment := by omega
   simp only [decide_eq_false hlt, decide_eq_false hgt, cond_false]
   cases h1 : strLt a.Name b.Name
   ·by_cases hn : a.Name = b.Name
    ·cases h2 : strLt a.Kind b.Kind
     ·have : s127 b a = true := by
       rw [qa3];refine .inr ⟨he, .inr ⟨hn.symm, ?_⟩⟩
       cases h3 : strLt b.Kind a.Kind
       ·exact .inr (qvz h3 h2)
       ·exact .inl rfl
      rw [this]
      by_cases hk : a.Kind = b.Kind <;> simp [s176_l1, hn, hk]
     ·have : s127 b a = false := by
       cases hc : s127 b a
       ·rfl
       ·rw [qa3] at hc;have hc := (hc.resolve_left (by omega)).2
        rcases hc with hc | ⟨_, hc | hc⟩
        ·rw [hn, qiv] at hc; cases hc
        ·exact (q1b h2 hc).elim
        ·rw [hc, qiv] at h2; cases h2
      rw [this]
      simp [s176_l1, hn]
    ·have : s127 b a = true := by
      rw [qa3];refine .inr ⟨he, .inl ?_⟩
      cases h3 : strLt b.Name a.Name
      ·exact absurd (qvz h1 h3) hn
      ·rfl
     rw [this]
     simp [s176_l1, hn]
   ·have : s127 b a = false := by
     cases hc : s127 b a
     ·rfl
     ·rw [qa3] at hc;have hc := (hc.resolve_left (by omega)).2
      rcases hc with hc | ⟨hc, _⟩
      ·exact (q1b h1 hc).elim
      ·rw [hc, qiv] at h1; cases h1
    rw [this]
    simp [s176_l1]
def flyL (l : List S104) : List S151 := isort (fun a b => !(s127 b a)) ((l.filter s172).map s173)
theorem qx4 (l : List S104) : s121 l = some (flyL l) := by
 unfold s121;rw [qqn, qqo, qx5 (lt := fun a b => !(s127 b a)) (fun y _ x _ => ⟨_, rfl, qx3 x y⟩)]
 rfl
theorem qqp {K V : Type} [DecidableEq K] (m : List (K × V)) (k j : K) (v : V) : mget (mset m k v) j = if k = j then some v else mget m j := by
 induction m with
 | nil => by_cases h : k = j <;> simp [mset, mget, h]
 | cons p m ih =>
  obtain ⟨a, b⟩ := p
  by_cases ha : a = k
  ·subst ha
   by_cases h : a = j <;> simp [mset, mget, h]
  ·by_cases h : a = j
   ·subst h;have hk : ¬ k = a := fun h => ha h.symm
    simp [mset, mget, ha, hk]
   ·simp [mset, mget, ha, h, ih]
theorem qnn {K V : Type} [DecidableEq K] (m : List (K × V)) (k j : K) (v z : V) : mgetD (mset m k v) j z = if k = j then v else mgetD m j z := by
 unfold mgetD;rw [qqp]
 by_cases h : k = j <;> simp [h]
def okI (a0 : S23) (u v : List S151) (i k : Int) : Bool := match u[i.toNat]?, v[k.toNat]? with
 | some a, some b => s142 a0 a b
 | _, _ => false
theorem qiw {a0 : S23} {u v : List S151} {i k : Int} {a b : S151} (h : u[i.toNat]? = some a) (h' : v[k.toNat]? = some b) : okI a0 u v i k = s142 a0 a b := by unfold okI; rw [h, h']
theorem qix (rec1 : Nat → List S154 → List (Int × Bool) → Option (List S154)) (a0 : S23) (u v : List S151) (x : List S154) (m : List (Int × Bool)) (k6 : Nat) (i : Int) (hi : i ∈ idxs u.length) : ∀ (l : List Int) (k : Nat), (∀ j ∈ l, j ∈ idxs v.length) →
  s115_l2 rec1 a0 u v x m k6 i l k = match l.find? (fun j => !(mgetD m j false) && okI a0 u v i j) with
   | some j => rec1 (k6 + 1) (x ++ [⟨i, j⟩]) (mset m j true)
   | none => rec1 (k6 + 1) x m
 | [], k, _ => by rw [s115_l2]; rfl
 | j :: l, k, h => by
  obtain ⟨a, ha, ha'⟩ := qam hi;obtain ⟨b, hb, hb'⟩ := qam (h j List.mem_cons_self);have ih := qix rec1 a0 u v x m k6 i hi l (k + 1) (fun z hz => h z (List.mem_cons_of_mem _ hz));rw [s115_l2, List.find?_cons, qiw ha' hb', ha, hb, ih]
  cases hm : mgetD m j false
  ·simp only [Bool.not_false, cond_true, bindO, Bool.true_and]
   cases hs : s142 a0 a b
   ·rfl
   ·rfl
  ·simp only [Bool.not_true, cond_false, bindO, Bool.false_and]
theorem qks {k : Nat} {j : Int} (h : j ∈ idxs k) : j ∈ idxs (k + 1) := by
 rw [qer]; exact List.mem_append_left _ h
theorem qg3 (k : Nat) : (k : Int) ∈ idxs (k + 1) := wb.2 ⟨by omega, by omega⟩
theorem ql1 (f : S104 → Bool) (l : List S104) : s206 l f = l.any f := by
 have key : ∀ (l : List S104) (k : Nat), decide (0 ≤ s242_l1 f l k) = l.any f := by
  intro l
  induction l with
  | nil => intro k; rfl
  | cons y l ih =>
   intro k;rw [s242_l1, List.any_cons]
   cases h : f y
   ·rw [cond_false, ih]; simp
   ·rw [cond_true]; simp
 unfold s206 s242; exact key l 0
theorem qx6 (a : S23) (s : S151) (l : List S104) : s177 a s l = s128 a s l := by
 unfold s177 s128;rw [ql1]
 have key : ∀ (l : List S104) (k : Nat), l.any (fun x0 => s207 x0 s (IntKind.i64.wrap (Int.tdiv s.Moment 1440)) a) = s128_l1 a s l k := by
  intro l
  induction l with
  | nil => intro k; rfl
  | cons y l ih =>
   intro k;rw [List.any_cons, s128_l1, ← ih (k + 1)]
   have : s207 y s (IntKind.i64.wrap (Int.tdiv s.Moment 1440)) a = (((decide (y.Kind = (⟨#[98, 97, 99, 107]⟩))) && (s179 y s)) && (decide (IntKind.i64.wrap (y.Told + a.Notice) ≤ IntKind.i64.wrap (Int.tdiv s.Moment 1440)))) := by
    unfold s207 s179 s208
    by_cases h : y.Kind = (⟨#[98, 97, 99, 107]⟩ : ByteArray)
    ·have h2 : ¬ (⟨#[98, 97, 99, 107]⟩ : ByteArray) = ⟨#[119, 101, 97, 116, 104, 101, 114]⟩ := by decide
     rw [h]
     simp [h2, Bool.and_assoc]
    ·simp [h]
   rw [this]
   cases (((decide (y.Kind = (⟨#[98, 97, 99, 107]⟩))) && (s179 y s)) && (decide (IntKind.i64.wrap (y.Told + a.Notice) ≤ IntKind.i64.wrap (Int.tdiv s.Moment 1440)))) <;> simp
 exact key l 0
theorem qno (a : S23) (s : S151) (l : List S104) : s178 a s l = s129 a s l := by
 unfold s178 s129;rw [ql1]
 have key : ∀ (l : List S104) (k : Nat), l.any (fun x0 => s209 x0 (IntKind.i64.wrap (Int.tdiv s.Moment 1440)) s a) = s129_l1 a s l k := by
  intro l
  induction l with
  | nil => intro k; rfl
  | cons y l ih =>
   intro k;rw [List.any_cons, s129_l1, ← ih (k + 1)]
   have : s209 y (IntKind.i64.wrap (Int.tdiv s.Moment 1440)) s a = ((s179 y s) && ((decide (y.Kind = (⟨#[119, 101, 97, 116, 104, 101, 114]⟩))) || ((decide (y.Kind = (⟨#[99, 97, 110, 99, 101, 108]⟩))) && (s92 a.Causes y.Cause)))) := by
    unfold s209 s179 s208;rw [qo4]
    by_cases h : y.Kind = (⟨#[119, 101, 97, 116, 104, 101, 114]⟩ : ByteArray)
    ·simp [h]
    ·by_cases h2 : y.Name = s.Name
     ·simp [h, h2]
     ·simp [h, h2]
   rw [this]
   cases ((s179 y s) && ((decide (y.Kind = (⟨#[119, 101, 97, 116, 104, 101, 114]⟩))) || ((decide (y.Kind = (⟨#[99, 97, 110, 99, 101, 108]⟩))) && (s92 a.Causes y.Cause)))) <;> simp
 exact key l 0
theorem qiy (s : S67) : s107 s = s41 s := by
 unfold s107 s41 s41_j1 s155 s90 s154
 by_cases h1 : (decide (s.Year < 2000) || decide (2272 < s.Year)) = true
 ·rw [h1]
  simp [s152, s152_l1]
 ·have h1 : (decide (s.Year < 2000) || decide (2272 < s.Year)) = false := by simpa using h1
  rw [h1]
  cases h2 : (!decide (s.Kind = (⟨#[83]⟩ : ByteArray))) <;> cases h3 : (!decide (s.Kind = (⟨#[87]⟩ : ByteArray))) <;> simp [s152, s152_l1]
theorem q1c {s : S67} (h : s107 s = 0) : okS s := by
 have h' := h;rw [qiy] at h';unfold s107 at h;obtain ⟨h1, h2⟩ := qoy _ _ h;have h3 := qwt _ 13 (by decide) h2;have h4 : s90 s.Year 2000 2272 = 0 := h1;have h5 := qtd h4;refine ⟨h5.1, h5.2, ?_⟩
 by_cases hk : s.Kind = kS
 ·exact .inl hk
 ·right
  rw [decide_eq_false hk] at h3
  simpa using h3
theorem qnp {α : Type} {l : List α} {i : Nat} {x : α} (h : l[i]? = some x) : ixO l (i : Int) = some x := by
 unfold ixO; rw [decide_eq_true (by omega), cond_true]; simpa using h
theorem qte (l : List S45) : s43 l l = some true := by
 have key : ∀ (r : List S45) (k : Nat), l.drop k = r → s43_l1 l r k = some true := by
  intro r
  induction r with
  | nil => intro k _; rfl
  | cons y r ih =>
   intro k hd
   have hy : l[k]? = some y := by
    have : (l.drop k)[0]? = some y := by rw [hd]; rfl
    simpa using this
   rw [s43_l1, qnp hy];simp only [bindO, eqAnd, decide_true, Bool.and_true, Bool.not_true, cond_false];refine ih (k + 1) ?_
   have : l.drop (k + 1) = (l.drop k).drop 1 := by rw [List.drop_drop]
   rw [this, hd]; rfl
 unfold s43;rw [decide_eq_false (by simp), cond_false];exact key l 0 rfl
def wk (d : Int) : Int := (d + 5) / 7
def wd (d : Int) : Int := (d + 5) % 7
theorem qan {d : Int} (h : 0 ≤ d ∧ d ≤ 99999) : s163 d = wk d := by
 unfold s163 wk;rw [wrap_i64 (n := d + 5) ⟨by omega, by omega⟩, Int.tdiv_eq_ediv_of_nonneg (by omega), wrap_i64 ⟨by omega, by omega⟩]
theorem w8 {d : Int} (h : 0 ≤ d ∧ d ≤ 99999) : s196 d = wk d := qan h
theorem qx7 {d : Int} (h : 0 ≤ d ∧ d ≤ 99999) : s188 d = wd d := qiq h.1 (by omega)
theorem qqq {d : Int} (h : 0 ≤ d ∧ d ≤ 99999) : s180 d = wd d := qeo h.1 (by omega)
def bitD (d w : Int) : Int := if wk d = w then (2 ^ (wd d).toNat : Nat) else 0
def mkS : List Int → Int → Int
 | [], _ => 0
 | d :: l, w => bitD d w + mkS l w
theorem qcx (w : Int) : ∀ (l r : List Int), mkS (l ++ r) w = mkS l w + mkS r w
 | [], r => by simp [mkS]
 | d :: l, r => by rw [List.cons_append, mkS, mkS, qcx w l r]; omega
theorem qqr (d w : Int) : 0 ≤ bitD d w ∧ bitD d w ≤ 64 := by
 unfold bitD
 have h : (wd d).toNat < 7 := by unfold wd; omega
 split
 ·have h7 : (wd d).toNat = 0 ∨ (wd d).toNat = 1 ∨ (wd d).toNat = 2 ∨ (wd d).toNat = 3 ∨ (wd d).toNat = 4 ∨ (wd d).toNat = 5 ∨ (wd d).toNat = 6 := by omega
  rcases h7 with e | e | e | e | e | e | e <;> rw [e] <;> decide
 ·decide
theorem qes (w : Int) : ∀ l : List Int, 0 ≤ mkS l w ∧ mkS l w ≤ 64 * (l.length : Int)
 | [] => by simp [mkS]
 | d :: l => by
  have h1 := qqr d w;have h2 := qes w l;rw [mkS, List.length_cons]; omega
theorem ql2 (w : Int) : ∀ l : List Int, (∀ d ∈ l, wk d ≠ w) → mkS l w = 0
 | [], _ => rfl
 | d :: l, h => by
  rw [mkS, ql2 w l fun z hz => h z (List.mem_cons_of_mem _ hz)];unfold bitD;rw [if_neg (h d List.mem_cons_self)]; rfl
theorem ql3 : ∀ (n : Nat) (P : List Int) (y : Int), P.length = n → P.Pairwise (· < ·) → (∀ d ∈ P, d < y) → mkS P (wk y) < (2 ^ (wd y).toNat : Nat)
 | 0, P, y, hn, _, _ => by
  rw [List.length_eq_zero_iff.1 hn];exact Int.ofNat_lt.2 (Nat.two_pow_pos _)
 | n + 1, P, y, hn, hs, hy => by
  have hne : P ≠ [] := by intro e; rw [e] at hn; cases hn
  have e := (List.dropLast_concat_getLast hne).symm;generalize P.dropLast = Q at e;generalize P.getLast hne = z at e;subst e;obtain ⟨s1, _, s3⟩ := List.pairwise_append.1 hs;have hz : z < y := hy z (by simp);have hQ : ∀ d ∈ Q, d < z := fun d hd => s3 d hd z (by simp);rw [qcx]
  by_cases hw : wk z = wk y
  ·have ih := ql3 n Q z (by simpa using hn) s1 hQ;rw [hw] at ih
   have hb : mkS [z] (wk y) = (2 ^ (wd z).toNat : Nat) := by simp [mkS, bitD, hw]
   have hd : (wd z).toNat + 1 ≤ (wd y).toNat := by unfold wk at hw; unfold wd; omega
   have hp := Nat.pow_le_pow_right (show 0 < 2 by decide) hd;rw [Nat.pow_succ] at hp;rw [hb]; omega
  ·have h0 : mkS Q (wk y) = 0 := ql2 _ _ fun d hd => by
    have := hQ d hd;unfold wk at *; omega
   have h1 : mkS [z] (wk y) = 0 := by simp [mkS, bitD, hw]
   have := Nat.two_pow_pos (wd y).toNat;rw [h0, h1]; omega
theorem q1d : ∀ n < 7, ∀ k < 2 ^ n, orI ((k : Nat) : Int) (shlI 1 ((n : Nat) : Int)) = ((k + 2 ^ n : Nat) : Int) := by decide +kernel
theorem qnq {K V : Type} [DecidableEq K] (m : List (K × V)) (k j : K) (v : V) : mget (mset m k v) j = if k = j then some v else mget m j := by
 induction m with
 | nil => by_cases h : k = j <;> simp [mset, mget, h]
 | cons p m ih =>
  obtain ⟨a, b⟩ := p
  by_cases ha : a = k
  ·subst ha
   by_cases h : a = j <;> simp [mset, mget, h]
  ·by_cases h : a = j
   ·subst h;have hk : ¬ k = a := fun h => ha h.symm
    simp [mset, mget, ha, hk]
   ·simp [mset, mget, ha, h, ih]
theorem qkt {K V : Type} [DecidableEq K] (m : List (K × V)) (k j : K) (v z : V) : mgetD (mset m k v) j z = if k = j then v else mgetD m j z := by
 unfold mgetD;rw [qnq]
 by_cases h : k = j <;> simp [h]
theorem qiz (a0 : List Int) (ha : a0.Pairwise (· < ·)) (hr : ∀ d ∈ a0, 0 ≤ d ∧ d ≤ 99999) : ∀ (l P : List Int) (k : Nat) (m : List (Int × Int)), P ++ l = a0 → (∀ w, mgetD m w 0 = mkS P w) →
  ∃ m' k', s160_l2 a0 l k m = s160_l2 a0 [] k' m' ∧ ∀ w, mgetD m' w 0 = mkS a0 w
 | [], P, k, m, hP, hm => ⟨m, k, rfl, by rw [← hP, List.append_nil]; exact hm⟩
 | y :: l, P, k, m, hP, hm => by
  have hy := hr y (by rw [← hP]; simp);rw [← hP] at ha;obtain ⟨p1, _, p3⟩ := List.pairwise_append.1 ha;have hlt := ql3 P.length P y rfl p1 fun d hd => p3 d hd y List.mem_cons_self;have hnn := (qes (wk y) P).1
  have hw7 : (wd y).toNat < 7 := by unfold wd; omega
  have hwd : wd y = (((wd y).toNat : Nat) : Int) := by unfold wd; omega
  have hS : mkS P (wk y) = (((mkS P (wk y)).toNat : Nat) : Int) := by omega
  have hor : orI (mgetD m (wk y) 0) (shlI 1 (wd y)) = mkS (P ++ [y]) (wk y) := by
   rw [hm, qcx, hS, hwd, q1d _ hw7 _ (by omega)];simp only [mkS, bitD, if_true]
   push_cast
   omega
  conv => enter [1, m', 1, k', 1, 1]; rw [s160_l2, w8 hy, qx7 hy, hor]
  refine qiz a0 (by rw [← hP]; exact ha) hr l (P ++ [y]) (k + 1) _ (by rw [← hP]; simp) fun w => ?_;rw [qkt]
  by_cases h : wk y = w
  ·rw [if_pos h, h]
  ·rw [if_neg h, hm, qcx]
   simp [mkS, bitD, h]
theorem qqs (rec1 : Nat → Int → Int) (x1 : Int) (k3 : Nat) : ∀ (n : Nat) (x7 x8 : Int), 0 ≤ x7 → x7 * 2 ^ n ≤ 1000000 → s164_l2 rec1 x1 k3 n x7 x8 = rec1 (k3 + 1) (IntKind.i64.wrap (x1 + x7 * 2 ^ n))
 | 0, x7, x8, _, _ => by rw [s164_l2, s164_j1]; simp
 | n + 1, x7, x8, h0, h1 => by
  have hp : (2 : Int) ^ (n + 1) = 2 ^ n * 2 := Int.pow_succ 2 n
  have hq : (1 : Int) ≤ 2 ^ n := by
   have := Nat.two_pow_pos n
   have h2 : ((2 ^ n : Nat) : Int) = (2 : Int) ^ n := by push_cast; rfl
   omega
  have e : 2 * x7 * 2 ^ n = x7 * 2 ^ (n + 1) := by rw [hp]; rw [Int.mul_comm 2 x7, Int.mul_assoc, Int.mul_comm 2 (2 ^ n)]
  have hle : 2 * x7 ≤ 2 * x7 * 2 ^ n := by
   have := Int.mul_le_mul_of_nonneg_left hq (show 0 ≤ 2 * x7 by omega)
   omega
  rw [s164_l2, wrap_i64 ⟨by omega, by omega⟩, qqs rec1 x1 k3 n (2 * x7) (x8 + 1) (by omega) (by omega), e]
theorem qi0 (w : Int) : ∀ (l : List Int) (k : Nat) (x : Int), (∀ d ∈ l, 0 ≤ d ∧ d ≤ 99999) → 0 ≤ x → x + 64 * (l.length : Int) ≤ 100000 → s164_l1 w l k x = x + mkS l w
 | [], k, x, _, _, _ => by rw [s164_l1]; simp [mkS]
 | y :: l, k, x, h, h0, h1 => by
  have hy := h y List.mem_cons_self;have hb := qqr y w;rw [List.length_cons] at h1;have ih := fun x h0 h1 => qi0 w l (k + 1) x (fun z hz => h z (List.mem_cons_of_mem _ hz)) h0 h1;rw [s164_l1, qan hy, qqq hy, mkS]
  by_cases hw : wk y = w
  ·rw [decide_eq_true hw, cond_true]
   have e : bitD y w = (2 : Int) ^ (wd y).toNat := by unfold bitD; rw [if_pos hw]; push_cast; rfl
   rw [e] at hb ⊢
   have e0 : (wd y - 0).toNat = (wd y).toNat := by simp
   rw [e0, qqs _ x k (wd y).toNat 1 0 (by omega) (by omega), Int.one_mul, wrap_i64 ⟨by omega, by omega⟩, ih _ (by omega) (by omega)]
   omega
  ·rw [decide_eq_false hw, cond_false, s164_j1, ih x h0 (by omega)];unfold bitD;rw [if_neg hw]; omega
theorem qet {l : List Int} (w : Int) (h : ∀ d ∈ l, 0 ≤ d ∧ d ≤ 99999) (hl : l.length ≤ 401) : s164 l w = mkS l w := by
 unfold s164;rw [qi0 w l 0 0 h (by omega) (by omega)]; omega
theorem runs (a0 : List Int) (m : List (Int × Int)) (hr : ∀ d ∈ a0, 0 ≤ d ∧ d ≤ 99999) (hlen : a0.length ≤ 401) (hm : ∀ w, mgetD m w 0 = mkS a0 w) :
  ∀ (l : List Int) (i : Nat) (x10 : List S45) (y13 y14 x20 x2 : Int) (k12 k21 : Nat), x10.length ≤ i → a0.drop (i + 1) = l → a0[i]? = some x20 → 0 ≤ y13 ∧ y13 ≤ 99999 → x2 = wk x20 - wk y13 + 1 → 1 ≤ x2 ∧ x2 ≤ 57 → l.length < k12 → l.length < k21 → i + 1 + l.length = a0.length →
  s160_l4 (fun z0_ z1_ => s160_l3 a0 m k12 z0_ z1_) a0 m x10 y13 y14 k21 (((i + 1 : Nat)) : Int) (wk x20) x20 = (bindO (s112_l1 a0 l (i + 1) (x10 ++ [⟨y14, x20, mkS a0 (wk y13)⟩]) x2) fun r => some (r, 0))
 | [], i, x10, y13, y14, x20, x2, k12, k21, h10, hd, hx, hy, h2, h2r, hk, hk2, hn => by
  obtain ⟨k12, rfl⟩ : ∃ k, k12 = k + 1 := ⟨k12 - 1, by omega⟩;obtain ⟨k21, rfl⟩ : ∃ k, k21 = k + 1 := ⟨k21 - 1, by simp at hk2; omega⟩
  have hn : i + 1 = a0.length := by simpa using hn
  have e : decide ((((i + 1 : Nat)) : Int) < (List.length a0 : Int)) = false := decide_eq_false (by omega);rw [s160_l4, e, cond_false, s160_j1, s160_l3, e, cond_false, s112_l1, s197, w8 hy, hm]
  rfl
 | y :: l, i, x10, y13, y14, x20, x2, k12, k21, h10, hd, hx, hy, h2, h2r, hk, hk2, hn => by
  obtain ⟨k12, rfl⟩ : ∃ k, k12 = k + 1 := ⟨k12 - 1, by omega⟩;obtain ⟨k21, rfl⟩ : ∃ k, k21 = k + 1 := ⟨k21 - 1, by omega⟩;rw [List.length_cons] at hk hk2 hn
  have hyi : a0[i + 1]? = some y := by
   have : (a0.drop (i + 1))[0]? = some y := by rw [hd]; rfl
   simpa using this
  have hdn : a0.drop (i + 1 + 1) = l := by
   have : a0.drop (i + 1 + 1) = (a0.drop (i + 1)).drop 1 := by rw [List.drop_drop]
   rw [this, hd]; rfl
  have hyr := hr y (List.mem_of_getElem? hyi);have hxr := hr x20 (List.mem_of_getElem? hx)
  have hw0 : 0 ≤ wk y ∧ wk y ≤ 20000 := by unfold wk; omega
  have hw1 : 0 ≤ wk x20 ∧ wk x20 ≤ 20000 := by unfold wk; omega
  have hw2 : 0 ≤ wk y13 ∧ wk y13 ≤ 20000 := by unfold wk; omega
  have e : decide ((((i + 1 : Nat)) : Int) < (List.length a0 : Int)) = true := decide_eq_true (by omega);have e0 : decide ((0 : Int) < (((i + 1 : Nat)) : Int)) = true := decide_eq_true (by omega)
  have ep : ixO a0 (IntKind.i64.wrap ((((i + 1 : Nat)) : Int) - 1)) = some x20 := by
   rw [wrap_i64 ⟨by omega, by omega⟩]
   have : (((i + 1 : Nat)) : Int) - 1 = ((i : Nat) : Int) := by omega
   rw [this]; exact qnp hx
  have ei : ixO a0 (((i + 1 : Nat)) : Int) = some y := qnp hyi
  have ew : IntKind.i64.wrap ((((i + 1 : Nat)) : Int) + 1) = (((i + 1 + 1 : Nat)) : Int) := by rw [wrap_i64 ⟨by omega, by omega⟩]; omega
  have hset : ∀ (q v : S45), ixO (x10 ++ [q]) (IntKind.i64.wrap ((List.length (x10 ++ [q]) : Int) - 1)) = some q ∧ List.set (x10 ++ [q]) (Int.toNat (IntKind.i64.wrap ((List.length (x10 ++ [q]) : Int) - 1))) v = x10 ++ [v] := fun q v => by
   have hl : (List.length (x10 ++ [q]) : Int) - 1 = (x10.length : Int) := by simp
   rw [hl];have hw : IntKind.i64.wrap (x10.length : Int) = (x10.length : Int) := wrap_i64 ⟨by omega, by omega⟩;rw [hw];exact ⟨qg4, wg (by simp)⟩
  have hlow := qes (wk y) a0;rw [s160_l4, e, cond_true, ei];simp only [bindO];rw [w8 hyr, w8 hy, hm, hm, s112_l1, e0, cond_true, ep];simp only [bindO, Bool.true_and];rw [qan hxr, qan hyr]
  by_cases hA : wk y = wk x20
  ·rw [decide_eq_true hA, cond_true, s160_j2, ei];simp only [bindO];rw [ew, decide_eq_true hA.symm, cond_true, (hset _ default).1]
   simp only
   rw [s112_j1, (hset _ _).2, ← hA];exact runs a0 m hr hlen hm l (i + 1) x10 y13 y14 y x2 (k12 + 1) k21 (by omega) hdn hyi hy (by rw [hA]; exact h2) h2r (by omega) (by omega) (by omega)
  ·have hA' : ¬ wk x20 = wk y := fun e => hA e.symm
   have els : s160_j1 (fun z0_ z1_ => s160_l3 a0 m (k12 + 1) z0_ z1_) m x10 y13 y14 (((i + 1 : Nat)) : Int) x20 = (bindO (s112_l1 a0 l (i + 1 + 1) ((x10 ++ [⟨y14, x20, mkS a0 (wk y13)⟩]) ++ [⟨y, y, mkS a0 (wk y)⟩]) 1) fun r => some (r, 0)) := by
    rw [s160_j1, w8 hy, hm, s160_l3, e, cond_true, ei];simp only [bindO];rw [w8 hyr]
    have hf : (((List.length a0 : Int) - (((i + 1 : Nat)) : Int)).toNat + 1) = l.length + 1 + 1 := by omega
    rw [hf, s160_l4, e, cond_true, ei];simp only [bindO];rw [w8 hyr, decide_eq_true rfl, cond_true, s160_j2, ei];simp only [bindO];rw [ew];exact runs a0 m hr hlen hm l (i + 1) _ y y y 1 k12 (l.length + 1) (by simp; omega) hdn hyi hyr (by omega) (by omega) (by omega) (by omega) (by omega)
   rw [decide_eq_false hA, cond_false, decide_eq_false hA', cond_false, wrap_i64 (n := wk x20 + 1) ⟨by omega, by omega⟩, wrap_i64 (n := wk y - wk y13) ⟨by omega, by omega⟩, wrap_i64 (n := wk y - 1) ⟨by omega, by omega⟩, qet _ hr hlen]
   by_cases hB : wk y = wk x20 + 1
   ·rw [decide_eq_true hB, decide_eq_true (by omega : wk x20 = wk y - 1)];simp only [Bool.true_and, cond_true];rw [(hset _ default).1]
    simp only
    by_cases hC : mkS a0 (wk y) = mkS a0 (wk y13)
    ·rw [decide_eq_true hC, decide_eq_true hC.symm, Bool.true_and, Bool.true_and]
     by_cases hD : x2 < 57
     ·rw [decide_eq_true hD, decide_eq_true (by omega : wk y - wk y13 < 57), cond_true, cond_true, s160_j2, ei];simp only [bindO];rw [ew, s112_j1, (hset _ _).2, wrap_i64 (n := x2 + 1) ⟨by omega, by omega⟩];exact runs a0 m hr hlen hm l (i + 1) x10 y13 y14 y (x2 + 1) (k12 + 1) k21 (by omega) hdn hyi hy (by omega) (by omega) (by omega) (by omega) (by omega)
     ·rw [decide_eq_false hD, decide_eq_false (by omega : ¬ wk y - wk y13 < 57), cond_false, cond_false, s112_j1];exact els
    ·have hC' : ¬ mkS a0 (wk y13) = mkS a0 (wk y) := fun e => hC e.symm;rw [decide_eq_false hC, decide_eq_false hC'];simp only [Bool.false_and, cond_false];rw [s112_j1];exact els
   ·rw [decide_eq_false hB, decide_eq_false (by omega : ¬ wk x20 = wk y - 1), Bool.false_and, Bool.false_and, cond_false];simp only [Bool.false_and, cond_false];rw [s112_j1];exact els
theorem qi1 (a0 : List Int) (ha : a0.Pairwise (· < ·)) (hr : ∀ d ∈ a0, 0 ≤ d ∧ d ≤ 99999) (hlen : a0.length ≤ 401) : ∀ (l : List Int) (k : Nat), a0.drop k = l → k + l.length = a0.length → s160_l1 a0 l k = s160_l2 a0 a0 0 []
 | [], k, _, _ => by rw [s160_l1]
 | y :: l, k, hd, hn => by
  rw [List.length_cons] at hn
  have hyk : a0[k]? = some y := by
   have : (a0.drop k)[0]? = some y := by rw [hd]; rfl
   simpa using this
  have hdn : a0.drop (k + 1) = l := by
   have : a0.drop (k + 1) = (a0.drop k).drop 1 := by rw [List.drop_drop]
   rw [this, hd]; rfl
  have hy := hr y (List.mem_of_getElem? hyk)
  have h153 : s153 y = 0 := by
   unfold s153 s155 s154;rw [decide_eq_false (by omega : ¬ y < 0), decide_eq_false (by omega : ¬ 99999 < y)]
   rfl
  have ih := qi1 a0 ha hr hlen l (k + 1) hdn (by omega);rw [s160_l1, h153]
  cases k with
  | zero => exact ih
  | succ j =>
   have hj : j < a0.length := by omega
   have e0 : decide ((0 : Int) < (((j + 1 : Nat)) : Int)) = true := decide_eq_true (by omega)
   have ep : ixO a0 (max 0 (IntKind.i64.wrap ((((j + 1 : Nat)) : Int) - 1))) = some a0[j] := by
    rw [wrap_i64 ⟨by omega, by omega⟩]
    have : max 0 ((((j + 1 : Nat)) : Int) - 1) = ((j : Nat) : Int) := by omega
    rw [this]; exact qnp (List.getElem?_eq_getElem hj)
   have hj1 : j + 1 < a0.length := by omega
   have hyj : a0[j + 1] = y := by rw [List.getElem?_eq_getElem hj1] at hyk; exact Option.some.inj hyk
   have hlt : a0[j] < y := by rw [← hyj]; exact List.pairwise_iff_getElem.1 ha j (j + 1) hj hj1 (by omega)
   rw [e0, cond_true, ep];simp only [bindO];rw [decide_eq_false (by omega : ¬ y ≤ a0[j])];have e : s152 [0, s154 (true && false) 11] = 0 := rfl;rw [e, decide_eq_false (by decide), cond_false];exact ih
theorem ql4 (a0 : List Int) (hlen : a0.length ≤ 401) : ∀ (l : List Int) (i : Nat) (x10 : List S45) (q : S45) (x2 : Int), x10.length ≤ i → i + 1 + l.length = a0.length → ∃ R, s112_l1 a0 l (i + 1) (x10 ++ [q]) x2 = some R
 | [], i, x10, q, x2, _, _ => ⟨_, by rw [s112_l1]⟩
 | y :: l, i, x10, q, x2, h10, hn => by
  rw [List.length_cons] at hn
  have hi : i < a0.length := by omega
  have e0 : decide ((0 : Int) < (((i + 1 : Nat)) : Int)) = true := decide_eq_true (by omega)
  have ep : ixO a0 (IntKind.i64.wrap ((((i + 1 : Nat)) : Int) - 1)) = some a0[i] := by
   rw [wrap_i64 ⟨by omega, by omega⟩]
   have : (((i + 1 : Nat)) : Int) - 1 = ((i : Nat) : Int) := by omega
   rw [this]; exact qnp (List.getElem?_eq_getElem hi)
  have hset : ∀ v : S45, ixO (x10 ++ [q]) (IntKind.i64.wrap ((List.length (x10 ++ [q]) : Int) - 1)) = some q ∧ List.set (x10 ++ [q]) (Int.toNat (IntKind.i64.wrap ((List.length (x10 ++ [q]) : Int) - 1))) v = x10 ++ [v] := fun v => by
   have hl : (List.length (x10 ++ [q]) : Int) - 1 = (x10.length : Int) := by simp
   have hw : IntKind.i64.wrap (x10.length : Int) = (x10.length : Int) := wrap_i64 ⟨by omega, by omega⟩;rw [hl, hw];exact ⟨qg4, wg (by simp)⟩
  have ih := fun x10 q x2 h => ql4 a0 hlen l (i + 1) x10 q x2 h (by omega);rw [s112_l1, e0, cond_true, ep];simp only [bindO, Bool.true_and, (hset default).1, s112_j1, (hset _).2]
  cases decide (s163 a0[i] = s163 y)
  ·rw [cond_false]
   cases decide (s163 a0[i] = IntKind.i64.wrap (s163 y - 1))
   ·simp only [cond_false, Bool.false_and];exact ih _ _ _ (by simp; omega)
   ·simp only [cond_true, Bool.true_and]
    cases (decide (q.Days = s164 a0 (s163 y)) && decide (x2 < 57))
    ·rw [cond_false]; exact ih _ _ _ (by simp; omega)
    ·rw [cond_true]; exact ih _ _ _ (by omega)
  ·rw [cond_true]; exact ih _ _ _ (by omega)
theorem qv0 : JoinOk := by
 intro a0 ha hr hlen;obtain ⟨m, k', h1, h2⟩ := qiz a0 ha hr a0 [] 0 [] rfl (fun w => rfl)
 have h0 : s160 a0 = s160_l3 a0 m (a0.length + 1) [] 0 := by
  unfold s160;rw [decide_eq_false (by omega), cond_false, qi1 a0 ha hr hlen a0 0 rfl (by simp), h1, s160_l2]
  have : (((List.length a0 : Int) - 0).toNat + 1) = a0.length + 1 := by omega
  rw [this]
 rw [h0];unfold s112
 cases a0 with
 | nil => exact ⟨[], by rw [s160_l3]; rfl, by rw [s112_l1]⟩
 | cons y l =>
  have hy := hr y List.mem_cons_self;have e : decide ((0 : Int) < (List.length (y :: l) : Int)) = true := decide_eq_true (by simp only [List.length_cons]; omega);have ei : ixO (y :: l) 0 = some y := rfl
  have hf : (((List.length (y :: l) : Int) - 0).toNat + 1) = l.length + 1 + 1 := by simp
  have key := runs (y :: l) m hr hlen h2 l 0 [] y y y 1 (y :: l).length (l.length + 1) (by simp) rfl rfl hy (by omega) (by omega) (by simp) (by omega) (by simp; omega);obtain ⟨R, hR⟩ := ql4 (y :: l) hlen l 0 [] ⟨y, y, mkS (y :: l) (wk y)⟩ 1 (by simp) (by simp; omega);rw [hR] at key;refine ⟨R, ?_, ?_⟩
  ·rw [s160_l3, e, cond_true, ei];simp only [bindO];rw [w8 hy, hf, s160_l4, e, cond_true, ei];simp only [bindO];rw [w8 hy, decide_eq_true rfl, cond_true, s160_j2, ei];simp only [bindO];rw [wrap_i64 (n := (0 : Int) + 1) ⟨by omega, by omega⟩];exact key
  ·rw [s112_l1];have z : decide ((0 : Int) < (((0 : Nat)) : Int)) = false := rfl;rw [z];simp only [cond_false, Bool.false_and, bindO, s112_j1];rw [qan hy, qet _ hr hlen];exact hR
theorem qx8 {l : List S115} (h : s134 l = 0) : l.length ≤ 64 ∧ ∀ q ∈ l, s102 q.Period = 0 ∧ 0 ≤ q.Minute ∧ q.Minute ≤ 1439 := by
 unfold s134 at h
 by_cases hl : (64 : Int) < (l.length : Int)
 ·rw [decide_eq_true hl] at h; cases h
 ·rw [decide_eq_false hl, cond_false] at h;refine ⟨by omega, ?_⟩
  have key : ∀ (t : List S115) (k : Nat), s134_l1 l t k = 0 → ∀ q ∈ t, s102 q.Period = 0 ∧ 0 ≤ q.Minute ∧ q.Minute ≤ 1439 := by
   intro t
   induction t with
   | nil => intro k _ q hq; cases hq
   | cons y t ih =>
    intro k h q hq;rw [s134_l1] at h;generalize hz : [s87 y.Name, _, _, _, _] = z at h
    by_cases h0 : s84 z = 0
    ·rw [decide_eq_false (by simpa using h0), cond_false] at h
     rcases List.mem_cons.1 hq with rfl | hq
     ·have g1 := qau h0 (s102 q.Period) (by rw [← hz]; simp);have g2 := qgf (qau h0 (s85 q.Minute 0 1439) (by rw [← hz]; simp));exact ⟨g1, g2⟩
     ·exact ih _ h q hq
    ·rw [decide_eq_true h0, cond_true] at h;exact absurd h h0
  exact key l 0 h
theorem qx9 {l : List Int} (h : s84 l = 0) : ∀ x ∈ l, x = 0 := by
 have key : ∀ (l : List Int) (k : Nat), s84_l1 l k = 0 → ∀ x ∈ l, x = 0 := by
  intro l
  induction l with
  | nil => intro k _ x hx; cases hx
  | cons y l ih =>
   intro k h x hx;rw [s84_l1] at h
   by_cases hy : y = 0
   ·subst hy
    simp at h
    rcases List.mem_cons.1 hx with rfl | hx
    ·rfl
    ·exact ih _ h x hx
   ·simp [hy] at h
 exact key l 0 h
def RedP (p : S45) : Prop := s102 p = 0 ∧ p.fTo - p.fFrom ≤ 40
theorem qnr {p : S45} {m : Int} (h : s2005 p m = true) : RedP p ∧ 100 ≤ m ∧ m ≤ 1300 := by
 unfold s2005 at h;simp only [Bool.and_eq_true, decide_eq_true_eq] at h;obtain ⟨⟨⟨h1, h2⟩, h3⟩, h4⟩ := h
 have hp : s102 p = 0 := by rw [qqt]; exact h1
 have := period_ok p hp;rw [wrap_i64 (by unfold I64; omega)] at h2;exact ⟨⟨hp, h2⟩, h3, h4⟩
theorem qv1 {p : S45} {m : Int} {q n : Int} (h : (s2005 p m = true ∧ ¬ q ≠ 0) ∧ ¬ 8 < n) : RedP p ∧ 100 ≤ m ∧ m ≤ 1300 ∧ n ≤ 8 := by
 obtain ⟨h1, h2, h3⟩ := qnr h.1.1;exact ⟨h1, h2, h3, by omega⟩
theorem qg5 {p : S45} (h : RedP p) (M : Int) : (dayL M (p.fTo + 1 - p.fFrom).toNat p.fFrom).length ≤ 41 := by
 have h1 := qat M (p.fTo + 1 - p.fFrom).toNat p.fFrom;have := h.2
 omega
theorem qqu {p : S45} {m : Int} (nm kd : ByteArray) (h0 : s87 nm = 0) (h1 : s101 kd = 0) (h : RedP p) (hm0 : 100 ≤ m) (hm1 : m ≤ 1300) : s29 nm kd p m = (s103 nm kd p m, 0) := by
 have h2 : s85 m 0 1439 = 0 := by
  unfold s85 s86;rw [decide_eq_false (by omega), decide_eq_false (by omega)]; rfl
 unfold s29;rw [h0, h1, h.1, h2, show s84 [0, 0, 0, 0] = 0 from rfl, decide_eq_false (by decide), cond_false]
 rfl
abbrev n97 : ByteArray := ⟨#[97]⟩
abbrev k68 : ByteArray := ⟨#[68]⟩
theorem ql5 : s87 n97 = 0 := by decide +kernel
theorem qg6 : s101 k68 = 0 := by decide +kernel
theorem ql6 {p : S45} {m : Int} {nm kd : ByteArray} (h : RedP p) (hm0 : 100 ≤ m) (hm1 : m ≤ 1300) : ∀ s ∈ s103 nm kd p m, 0 ≤ s.Moment ∧ s.Moment ≤ 143999999 := by
 intro s hs;unfold s103 slotsL momL at hs;obtain ⟨x, hx, rfl⟩ := List.mem_map.1 hs;obtain ⟨d, hd, rfl⟩ := List.mem_map.1 hx;have := vu _ _ _ d hd;have hp := period_ok p h.1;show 0 ≤ 1440 * d + m ∧ 1440 * d + m ≤ 143999999
 omega
theorem ql7 {p : S45} {m : Int} {nm kd : ByteArray} (h : RedP p) : (s103 nm kd p m).length ≤ 41 := by
 rw [qvv]; exact qg5 h _
theorem q1e {p : S45} {m : Int} {l : List S104} (h : RedP p) (hm0 : 100 ≤ m) (hm1 : m ≤ 1300) (hl : l.length ≤ 12) : ¬ s122 s2012 ((s29 n97 k68 p m).1) l ≠ 0 →
  (((s29 n97 k68 p m).1).length ≤ 1000 ∧ ∀ r, s124 s2012 ((s29 n97 k68 p m).1) l = some r → Con (EG glT) 37 [G.agg [G.int s2012.Before, G.int s2012.After, G.int s2012.Notice, G.int s2012.Share, G.sl 1 (List.map cStr s2012.Causes), G.int s2012.Off, G.int s2012.Run], G.sl 3 (List.map S151.c ((s29 n97 k68 p m).1)), G.sl 8 (List.map S104.c l)] (G.sl 1 (List.map cInt r))) ∧
  ∀ s ∈ (s29 n97 k68 p m).1, 0 ≤ s.Moment ∧ s.Moment ≤ 143999999 := by
 intro _;rw [qqu _ _ ql5 qg6 h hm0 hm1];have hle := ql7 (m := m) (nm := n97) (kd := k68) h;exact ⟨⟨by show (s103 n97 k68 p m).length ≤ 1000; omega, fun r hr => q05 _ _ _ (by show (s103 n97 k68 p m).length ≤ 1000; omega) hl (.inr (q09 _ _ _ _)) hr⟩, ql6 h hm0 hm1⟩
theorem q1f {p : S45} {m M : Int} {l : List S104} {q : S67} (h : RedP p) (hm0 : 100 ≤ m) (hm1 : m ≤ 1300) (hl : l.length ≤ 12) : ¬ s84 [s23 s2012, s134 [S115.mk n97 ByteArray.empty k68 ByteArray.empty ByteArray.empty ByteArray.empty (S45.mk p.fFrom p.fTo M) m 0 0 0], s27 l, s107 q] ≠ 0 →
  (∀ x ∈ [S115.mk n97 ByteArray.empty k68 ByteArray.empty ByteArray.empty ByteArray.empty (S45.mk p.fFrom p.fTo M) m 0 0 0], RqOk x) ∧ [S115.mk n97 ByteArray.empty k68 ByteArray.empty ByteArray.empty ByteArray.empty (S45.mk p.fFrom p.fTo M) m 0 0 0].length ≤ 64 ∧ l.length ≤ 12 := by
 intro he;have h1 := qau (by simpa using he) (s134 [S115.mk n97 ByteArray.empty k68 ByteArray.empty ByteArray.empty ByteArray.empty (S45.mk p.fFrom p.fTo M) m 0 0 0]) (by simp);refine ⟨fun x hx => ?_, by simp, hl⟩;have h2 := (qx8 h1).2 x hx;rw [List.mem_singleton] at hx;subst hx;refine ⟨h2.1, h2.2.1, h2.2.2, ?_⟩;have := qg5 h M;show (dayL M (p.fTo + 1 - p.fFrom).toNat p.fFrom).length ≤ 100
 omega
def gm (P : Int → Int → Bool) (ov : List Int) : List Int → List Int → List S154
 | [], _ => []
 | i :: r, T => match ov.find? (fun j => !decide (j ∈ T) && P i j) with
  | some j => ⟨i, j⟩ :: gm P ov r (j :: T)
  | none => gm P ov r T
section
variable {P : Int → Int → Bool} {ov : List Int}
theorem qg7 : ∀ (a : List Int) (T : List Int), ((gm P ov a T).map S154.Slot).Sublist a
 | [], _ => by simp [gm]
 | i :: a, T => by
  rw [gm]
  cases ov.find? (fun j => !decide (j ∈ T) && P i j) with
  | none => exact (qg7 a T).cons _
  | some j => exact (qg7 a (j :: T)).cons_cons _
end
section
variable {C : Type} {A B : Int} {su sv : Int → Int} {cu cv : Int → C} {P : Int → Int → Bool} {ou ov : List Int}
structure Win (A B : Int) (su sv : Int → Int) (cu cv : Int → C) (P : Int → Int → Bool) (ou ov : List Int) : Prop where
 p : ∀ i ∈ ou, ∀ k ∈ ov, P i k = true ↔ cu i = cv k ∧ su i - B ≤ sv k ∧ sv k ≤ su i + A
 u : ou.Pairwise (fun i j => su i ≤ su j)
 un : ou.Nodup
 v : ov.Pairwise (fun i j => sv i ≤ sv j)
end
theorem qg8 (a0 : S23) (u v : List S151) : ∀ (rest : List Int) (k : Nat) (x : List S154) (m : List (Int × Bool)) (T : List Int), (∀ i ∈ rest, i ∈ idxs u.length) → (∀ j, mgetD m j false = decide (j ∈ T)) →
  s115_l1 a0 u v (ordI v) rest k x m = some (x ++ gm (okI a0 u v) (ordI v) rest T)
 | [], k, x, m, T, _, _ => by simp [s115_l1, gm]
 | i :: rest, k, x, m, T, hr, hm => by
  have hr' : ∀ j ∈ rest, j ∈ idxs u.length := fun j hj => hr j (List.mem_cons_of_mem _ hj);rw [s115_l1, qix (fun k_ z0_ z1_ => s115_l1 a0 u v (ordI v) rest k_ z0_ z1_) a0 u v x m k i (hr i List.mem_cons_self) (ordI v) 0 (fun j hj => xo.1 hj), gm]
  have hfun : (fun j => !(mgetD m j false) && okI a0 u v i j) = fun j => !decide (j ∈ T) && okI a0 u v i j := funext fun j => by rw [hm]
  rw [hfun]
  cases (ordI v).find? (fun j => !decide (j ∈ T) && okI a0 u v i j) with
  | none => exact qg8 a0 u v rest (k + 1) x m T hr' hm
  | some j =>
   simp only
   rw [qg8 a0 u v rest (k + 1) _ _ (j :: T) hr' fun z => by
    rw [qnn, hm]
    by_cases hz : j = z
    ·subst hz; simp
    ·have : ¬ z = j := fun e => hz e.symm
     simp [hz, this]]
   simp
def mat (a0 : S23) (u v : List S151) : List S154 := gm (okI a0 u v) (ordI v) (ordI u) []
theorem qya (a0 : S23) (u v : List S151) : s115 a0 u v = some (mat a0 u v) := by
 unfold s115 mat;rw [qqv, qqv];simp only [bindO];rw [qg8 a0 u v (ordI u) 0 [] [] [] (fun i hi => xo.1 hi) (fun j => by simp [mgetD, mget])]
 rfl
theorem qtf {a0 : S23} {u v : List S151} {e : S154} (h : e ∈ mat a0 u v) : e.Slot ∈ idxs u.length :=
 xo.1 ((qg7 (P := okI a0 u v) (ov := ordI v) (ordI u) []).subset (List.mem_map_of_mem h))
def atF (g : S151 → Bool) : List S151 → Nat → List Int
 | [], _ => []
 | s :: l, k => bif g s then atF g l (k + 1) else (k : Int) :: atF g l (k + 1)
def base (g x : S151 → Bool) (s : S151) : Int := bif g s then 0 else bif x s then 2 else 3
def setF (at_ : List Int) (M : List S154) (cs : List Int) : List Int := M.foldl (fun cs e => match at_[e.Slot.toNat]? with | some p => cs.set p.toNat 1 | none => cs) cs
def stF (a0 : S23) (g x : S151 → Bool) (v a1 : List S151) : List Int := setF (atF g a1 0) (mat a0 (a1.filter (fun s => !g s)) v) (a1.map (base g x))
theorem qi2 (at_ : List Int) (n : Nat) (hat : ∀ p ∈ at_, p ∈ idxs n) : ∀ (l : List S154) (k : Nat) (cs : List Int), cs.length = n → (∀ e ∈ l, e.Slot ∈ idxs at_.length) → s124_l2 at_ l k cs = some (setF at_ l cs)
 | [], k, cs, hn, _ => rfl
 | e :: l, k, cs, hn, hl => by
  obtain ⟨p, hp, hp'⟩ := qam (hl e List.mem_cons_self);have hpn := hat p (List.mem_of_getElem? hp');obtain ⟨c, h1, _⟩ := qam (l := cs) (by rw [hn]; exact hpn);rw [s124_l2, hp];simp only [bindO, h1];rw [qi2 at_ n hat l (k + 1) _ (by rw [List.length_set]; exact hn) fun z hz => hl z (List.mem_cons_of_mem _ hz)];unfold setF;rw [List.foldl_cons, hp']
theorem qa4 (a0 : S23) (a2 : List S104) (n : Nat) : ∀ (l : List S151) (k : Nat) (due : List S151) (at_ cs : List Int), k = cs.length → k + l.length = n → due.length = at_.length → (∀ p ∈ at_, p ∈ idxs k) →
  s124_l1 a0 a2 l k due at_ (cs ++ List.replicate l.length 0) = some (setF (at_ ++ atF (fun s => s128 a0 s a2) l k) (mat a0 (due ++ l.filter (fun s => !s128 a0 s a2)) (flyL a2)) (cs ++ l.map (base (fun s => s128 a0 s a2) (fun s => s129 a0 s a2))))
 | [], k, due, at_, cs, hk, hn, hd, hp => by
  have hk0 : k = n := by simpa using hn
  rw [s124_l1, qx4];simp only [bindO, qya, atF, List.filter_nil, List.append_nil, List.map_nil]
  have := qi2 at_ n (by rw [← hk0]; exact hp) (mat a0 due (flyL a2)) 0 cs (by omega) fun e he => by rw [← hd]; exact qtf he
  simpa using this
 | y :: l, k, due, at_, cs, hk, hn, hd, hp => by
  have hix : ∀ v : Int, List.set (cs ++ List.replicate (y :: l).length (0 : Int)) (Int.toNat ((k : Nat) : Int)) v = (cs ++ [v]) ++ List.replicate l.length 0 := fun v => by
   rw [List.length_cons, List.replicate_succ, wg (by rw [hk]; simp)]
   simp
  have hi : ixO (cs ++ List.replicate (y :: l).length (0 : Int)) ((k : Nat) : Int) = some 0 := by
   rw [List.length_cons, List.replicate_succ]; exact wc (by rw [hk])
  have hn' : k + 1 + l.length = n := by simp at hn; omega
  have hp1 : ∀ p ∈ at_, p ∈ idxs (k + 1) := fun p h => qks (hp p h)
  have hp2 : ∀ p ∈ at_ ++ [((k : Nat) : Int)], p ∈ idxs (k + 1) := fun p h => by
   rcases List.mem_append.1 h with h | h
   ·exact hp1 p h
   ·rw [List.mem_singleton.1 h]; exact qg3 k
  rw [s124_l1, qx6, qno, hi];simp only [bindO, hix, s124_j1, s124_j2];rw [atF, List.filter_cons, List.map_cons];have hb : base (fun s => s128 a0 s a2) (fun s => s129 a0 s a2) y = bif s128 a0 y a2 then 0 else bif s129 a0 y a2 then 2 else 3 := rfl;rw [hb]
  cases s128 a0 y a2
  ·simp only [cond_false]
   cases s129 a0 y a2
   ·simp only [cond_false];rw [qa4 a0 a2 n l (k + 1) (due ++ [y]) (at_ ++ [((k : Nat) : Int)]) (cs ++ [3]) (by simp [hk]) hn' (by simp [hd]) hp2]
    simp
   ·simp only [cond_true];rw [qa4 a0 a2 n l (k + 1) (due ++ [y]) (at_ ++ [((k : Nat) : Int)]) (cs ++ [2]) (by simp [hk]) hn' (by simp [hd]) hp2]
    simp
  ·simp only [cond_true];rw [qa4 a0 a2 n l (k + 1) due at_ (cs ++ [0]) (by simp [hk]) hn' hd hp1]
   simp
theorem qyb (a0 : S23) (a1 : List S151) (a2 : List S104) : s124 a0 a1 a2 = some (stF a0 (fun s => s128 a0 s a2) (fun s => s129 a0 s a2) (flyL a2) a1) := by
 have := qa4 a0 a2 a1.length a1 0 [] [] [] rfl (by simp) rfl (by simp)
 simpa [s124, stF] using this
def flownI (at_ : List Int) (M : List S154) : List Nat := M.filterMap (fun e => (at_[e.Slot.toNat]?).map Int.toNat)
theorem ql8 (at_ : List Int) : ∀ (M : List S154) (cs : List Int), (setF at_ M cs).length = cs.length
 | [], _ => rfl
 | e :: M, cs => by
  unfold setF;rw [List.foldl_cons];have := ql8 at_ M (match at_[e.Slot.toNat]? with | some p => cs.set p.toNat 1 | none => cs);unfold setF at this;rw [this]
  cases at_[e.Slot.toNat]? <;> simp
theorem qdj (at_ : List Int) : ∀ (M : List S154) (cs : List Int) (i : Nat) (c : Int), cs[i]? = some c → (setF at_ M cs)[i]? = some (if i ∈ flownI at_ M then 1 else c)
 | [], cs, i, c, h => by simpa [setF, flownI] using h
 | e :: M, cs, i, c, h => by
  have hs : setF at_ (e :: M) cs = setF at_ M (match at_[e.Slot.toNat]? with | some p => cs.set p.toNat 1 | none => cs) := rfl;rw [hs]
  cases hp : at_[e.Slot.toNat]? with
  | none =>
   simp only
   rw [qdj at_ M cs i c h]
   simp [flownI, hp]
  | some p =>
   simp only
   have hlt := (List.getElem?_eq_some_iff.1 h).1
   by_cases hi : p.toNat = i
   ·subst hi;rw [qdj at_ M _ p.toNat 1 (by simp [hlt])]
    simp [flownI, hp]
   ·rw [qdj at_ M _ i c (by rw [List.getElem?_set_ne hi]; exact h)];have : ¬ i = p.toNat := fun e => hi e.symm
    simp [flownI, hp, this]
theorem qyc (a0 : S23) (g x : S151 → Bool) (v a1 : List S151) : (stF a0 g x v a1).length = a1.length := by unfold stF; rw [ql8, List.length_map]
theorem qyd {a0 : S23} {g x : S151 → Bool} {v a1 : List S151} {i : Nat} {s : S151} (h : a1[i]? = some s) :
  (stF a0 g x v a1)[i]? = some (if i ∈ flownI (atF g a1 0) (mat a0 (a1.filter (fun s => !g s)) v) then 1 else base g x s) := by
 unfold stF;exact qdj _ _ _ _ _ (by rw [List.getElem?_map, h]; rfl)
theorem qi3 (at_ : List Int) (M : List S154) : flownI at_ M = (M.map S154.Slot).filterMap (fun s => (at_[s.toNat]?).map Int.toNat) := by
 unfold flownI;rw [List.filterMap_map]
 rfl
def isF (c : Int) : Bool := decide (c = 1) || decide (c = 2)
def isD (c : Int) : Bool := !decide (c = 0)
theorem qqw {x y c : Int} (hx : 0 ≤ x ∧ x ≤ 100000) (hy : 0 ≤ y ∧ y ≤ 100000) : s126 (S55.mk x y) c = S55.mk (bif isF c then x + 1 else x) (bif isD c then y + 1 else y) := by
 have w1 : IntKind.i64.wrap (x + 1) = x + 1 := wrap_i64 ⟨by omega, by omega⟩;have w2 : IntKind.i64.wrap (y + 1) = y + 1 := wrap_i64 ⟨by omega, by omega⟩;unfold s126 isF isD
 by_cases h0 : c = 0
 ·subst h0; simp [s126_j1, w1, w2]
 ·by_cases h1 : c = 1
  ·subst h1; simp [s126_j1, w1, w2]
  ·by_cases h2 : c = 2
   ·subst h2; simp [s126_j1, w1, w2]
   ·simp [s126_j1, w1, w2, h0, h1, h2]
theorem qqx : ∀ (l : List Int) (k : Nat) (x y : Int), 0 ≤ x → x + l.length ≤ 100000 → 0 ≤ y → y + l.length ≤ 100000 → s58_l1 l k x y = some (S55.mk (x + (l.countP isF : Nat)) (y + (l.countP isD : Nat)), 0)
 | [], k, x, y, _, _, _, _ => by simp [s58_l1]
 | c :: l, k, x, y, h1, h2, h3, h4 => by
  rw [List.length_cons] at h2 h4;rw [s58_l1, qqw ⟨h1, by omega⟩ ⟨h3, by omega⟩, List.countP_cons, List.countP_cons]
  simp only
  rw [qqx l (k + 1) _ _ (by cases isF c <;> simp <;> omega) (by cases isF c <;> simp <;> omega) (by cases isD c <;> simp <;> omega) (by cases isD c <;> simp <;> omega)]
  congr 2
  cases isF c <;> cases isD c <;> simp <;> omega
theorem qku {P : Int → Int → Bool} {ov : List Int} : ∀ (r T : List Int), r.Nodup → (∀ i ∈ r, ∀ i' ∈ r, ∀ j ∈ ov, P i j = true → P i' j = true → i = i') → (∀ i ∈ r, ∀ j ∈ T, P i j = false) → ∀ i, i ∈ (gm P ov r T).map S154.Slot ↔ i ∈ r ∧ ov.any (P i) = true
 | [], _, _, _, _, i => by simp [gm]
 | a :: r, T, hn, hd, hT, i => by
  rw [List.nodup_cons] at hn
  have e : (fun j => !decide (j ∈ T) && P a j) = P a := funext fun j => by
   by_cases hj : j ∈ T
   ·rw [hT a List.mem_cons_self j hj]; simp
   ·simp [hj]
  rw [gm, e];have hd' : ∀ i ∈ r, ∀ i' ∈ r, ∀ j ∈ ov, P i j = true → P i' j = true → i = i' := fun i hi i' hi' => hd i (List.mem_cons_of_mem _ hi) i' (List.mem_cons_of_mem _ hi')
  cases hf : ov.find? (P a) with
  | none =>
   rw [qku r T hn.2 hd' (fun i hi => hT i (List.mem_cons_of_mem _ hi)) i]
   constructor
   ·rintro ⟨h1, h2⟩; exact ⟨List.mem_cons_of_mem _ h1, h2⟩
   ·rintro ⟨h1, h2⟩
    rcases List.mem_cons.1 h1 with rfl | h1
    ·obtain ⟨j, hj, hp⟩ := List.any_eq_true.1 h2;exact absurd hp (List.find?_eq_none.1 hf j hj)
    ·exact ⟨h1, h2⟩
  | some j =>
   have hj := List.mem_of_find?_eq_some hf;have hp := List.find?_some hf
   have ih := qku r (j :: T) hn.2 hd' (fun i hi j' hj' => by
    rcases List.mem_cons.1 hj' with rfl | hj'
    ·cases hq : P i j' with
     | false => rfl
     | true =>
      have := hd i (List.mem_cons_of_mem _ hi) a List.mem_cons_self j' hj hq hp;exact absurd (this ▸ hi) hn.1
    ·exact hT i (List.mem_cons_of_mem _ hi) j' hj') i
   rw [List.map_cons, List.mem_cons, ih]
   constructor
   ·rintro (rfl | ⟨h1, h2⟩)
    ·exact ⟨List.mem_cons_self, List.any_eq_true.2 ⟨j, hj, hp⟩⟩
    ·exact ⟨List.mem_cons_of_mem _ h1, h2⟩
   ·rintro ⟨h1, h2⟩
    rcases List.mem_cons.1 h1 with rfl | h1
    ·exact .inl rfl
    ·exact .inr ⟨h1, h2⟩
theorem qg9 {g : S151 → Bool} : ∀ {l : List S151} {off k : Nat} {p : Int}, (atF g l off)[k]? = some p → (l.filter (fun s => !g s))[k]? = l[p.toNat - off]? ∧ (off : Int) ≤ p
 | [], _, _, _, h => by cases h
 | s :: l, off, k, p, h => by
  rw [atF] at h;rw [List.filter_cons]
  cases hg : g s
  ·rw [hg, cond_false] at h;rw [if_pos (by simp)]
   cases k with
   | zero =>
    simp only [List.getElem?_cons_zero, Option.some.injEq] at h;subst h;exact ⟨by simp, Int.le_refl _⟩
   | succ k =>
    rw [List.getElem?_cons_succ] at h ⊢;obtain ⟨h1, h2⟩ := qg9 h;refine ⟨?_, by omega⟩;rw [h1, show p.toNat - off = (p.toNat - (off + 1)) + 1 by omega, List.getElem?_cons_succ]
  ·rw [hg, cond_true] at h;rw [if_neg (by simp)];obtain ⟨h1, h2⟩ := qg9 h;refine ⟨?_, by omega⟩;rw [h1, show p.toNat - off = (p.toNat - (off + 1)) + 1 by omega, List.getElem?_cons_succ]
theorem qqy {g : S151 → Bool} : ∀ {l : List S151} {off i : Nat} {s : S151}, l[i]? = some s → g s = false → ∃ k : Nat, (atF g l off)[k]? = some ((off + i : Nat) : Int)
 | [], _, _, _, h, _ => by cases h
 | y :: l, off, i, s, h, hg => by
  rw [atF]
  cases i with
  | zero =>
   simp only [List.getElem?_cons_zero, Option.some.injEq] at h;subst h;rw [hg, cond_false];exact ⟨0, rfl⟩
  | succ i =>
   rw [List.getElem?_cons_succ] at h;obtain ⟨k, hk⟩ := qqy (off := off + 1) h hg
   cases hy : g y
   ·exact ⟨k + 1, by rw [cond_false, List.getElem?_cons_succ, hk]; congr 2; omega⟩
   ·exact ⟨k, by rw [cond_true, hk]; congr 2; omega⟩
def stD (a0 : S23) (g x : S151 → Bool) (v : List S151) (s : S151) : Int := bif g s then 0 else bif v.any (s142 a0 s) then 1 else bif x s then 2 else 3
theorem qtg {a0 : S23} {g x : S151 → Bool} {v a1 : List S151} (hd : a1.Pairwise (fun s s' => ∀ b ∈ v, s142 a0 s b = true → s142 a0 s' b = true → False)) : stF a0 g x v a1 = a1.map (stD a0 g x v) := by
 have hu : (a1.filter (fun s => !g s)).Pairwise (fun s s' => ∀ b ∈ v, s142 a0 s b = true → s142 a0 s' b = true → False) := hd.sublist List.filter_sublist
 have hm : ∀ k, k ∈ (mat a0 (a1.filter (fun s => !g s)) v).map S154.Slot ↔ k ∈ ordI (a1.filter (fun s => !g s)) ∧ (ordI v).any (okI a0 (a1.filter (fun s => !g s)) v k) = true := by
  refine qku _ [] (qns _) ?_ (fun _ _ j hj => by cases hj);intro i hi i' hi' j hj h1 h2;obtain ⟨hi0, hi1⟩ := wb.1 (xo.1 hi);obtain ⟨hi0', hi1'⟩ := wb.1 (xo.1 hi');obtain ⟨hj0, hj1⟩ := wb.1 (xo.1 hj);rw [qiw (List.getElem?_eq_getElem hi1) (List.getElem?_eq_getElem hj1)] at h1;rw [qiw (List.getElem?_eq_getElem hi1') (List.getElem?_eq_getElem hj1)] at h2;rw [List.pairwise_iff_getElem] at hu
  by_cases hlt : i.toNat < i'.toNat
  ·exact (hu _ _ hi1 hi1' hlt _ (List.getElem_mem hj1) h1 h2).elim
  ·by_cases hgt : i'.toNat < i.toNat
   ·exact (hu _ _ hi1' hi1 hgt _ (List.getElem_mem hj1) h2 h1).elim
   ·omega
 apply List.ext_getElem?
 intro i
 cases hs : a1[i]? with
 | none =>
  rw [List.getElem?_map, hs, Option.map_none];rw [List.getElem?_eq_none_iff] at hs ⊢;rw [qyc]; exact hs
 | some s =>
  rw [qyd hs, List.getElem?_map, hs, Option.map_some]
  congr 1
  have key : i ∈ flownI (atF g a1 0) (mat a0 (a1.filter (fun s => !g s)) v) ↔ g s = false ∧ v.any (s142 a0 s) = true := by
   rw [qi3, List.mem_filterMap]
   constructor
   ·rintro ⟨k, hk, h1⟩;obtain ⟨hk1, hk2⟩ := (hm k).1 hk
    cases hp : (atF g a1 0)[k.toNat]? with
    | none => rw [hp] at h1; cases h1
    | some p =>
     rw [hp, Option.map_some, Option.some.injEq] at h1;obtain ⟨h2, h3⟩ := qg9 hp;rw [Nat.sub_zero, h1, hs] at h2
     have hg : g s = false := by
      have := List.mem_filter.1 (List.mem_of_getElem? h2)
      simpa using this.2
     refine ⟨hg, ?_⟩;obtain ⟨j, hj, hok⟩ := List.any_eq_true.1 hk2;obtain ⟨hj0, hj1⟩ := wb.1 (xo.1 hj);rw [qiw h2 (List.getElem?_eq_getElem hj1)] at hok;exact List.any_eq_true.2 ⟨_, List.getElem_mem hj1, hok⟩
   ·rintro ⟨hg, h1⟩;obtain ⟨k, hk⟩ := qqy (off := 0) hs hg;obtain ⟨h2, _⟩ := qg9 hk;rw [Nat.sub_zero, show (((0 + i : Nat) : Int)).toNat = i by omega, hs] at h2;obtain ⟨b, hb, hok⟩ := List.any_eq_true.1 h1;obtain ⟨j, hj⟩ := List.mem_iff_getElem?.1 hb;refine ⟨(k : Int), (hm _).2 ⟨?_, ?_⟩, ?_⟩
    ·exact xo.2 (wb.2 ⟨by omega, by have := (List.getElem?_eq_some_iff.1 h2).1; simpa using this⟩)
    ·refine List.any_eq_true.2 ⟨(j : Int), xo.2 (wb.2 ⟨by omega, by have := (List.getElem?_eq_some_iff.1 hj).1; simpa using this⟩), ?_⟩;rw [qiw (a := s) (b := b) (by simpa using h2) (by simpa using hj)];exact hok
    ·rw [show ((k : Int)).toNat = k by omega, hk]
     simp
  unfold stD base
  cases hg : g s
  ·cases hv : v.any (s142 a0 s)
   ·rw [if_neg (by rw [key, hg, hv]; simp)]; rfl
   ·rw [if_pos (by rw [key, hg, hv]; simp)]; rfl
  ·rw [if_neg (by rw [key, hg]; simp)]; rfl
theorem qqz : ∀ n < 7, ∀ a < 2 ^ n, ∀ k < 7, decide (andI (shrI ((a + 2 ^ n : Nat) : Int) ((k : Nat) : Int)) 1 = 1) = (decide (andI (shrI ((a : Nat) : Int) ((k : Nat) : Int)) 1 = 1) || decide (k = n)) := by decide +kernel
theorem qha : ∀ k < 7, decide (andI (shrI 0 ((k : Nat) : Int)) 1 = 1) = false := by decide +kernel
theorem qq0 {P : List Int} {n : Nat} (h : P.length = n + 1) : ∃ Q z, P = Q ++ [z] ∧ Q.length = n := by
 have hne : P ≠ [] := by intro e; rw [e] at h; cases h
 refine ⟨P.dropLast, P.getLast hne, (List.dropLast_concat_getLast hne).symm, by simp [h]⟩
theorem ql9 {z w : Int} (h : wk z = w) : mkS [z] w = ((2 ^ (wd z).toNat : Nat) : Int) := by simp [mkS, bitD, h]
theorem qq1 {z w : Int} (h : ¬ wk z = w) : mkS [z] w = 0 := by simp [mkS, bitD, h]
theorem qc8 (d : Int) : 0 ≤ wd d ∧ wd d < 7 := by unfold wd; omega
theorem qkv (w : Int) : ∀ (n : Nat) (P : List Int), P.length = n → P.Pairwise (· < ·) → ∀ k < 7, decide (andI (shrI (mkS P w) ((k : Nat) : Int)) 1 = 1) = true ↔ ∃ d ∈ P, wk d = w ∧ wd d = ((k : Nat) : Int)
 | 0, P, hn, _, k, hk => by
  rw [List.length_eq_zero_iff.1 hn];show decide (andI (shrI 0 ((k : Nat) : Int)) 1 = 1) = true ↔ _;rw [qha k hk]; simp
 | n + 1, P, hn, hs, k, hk => by
  obtain ⟨Q, z, rfl, hq⟩ := qq0 hn;obtain ⟨s1, _, s3⟩ := List.pairwise_append.1 hs;have hQ : ∀ d ∈ Q, d < z := fun d hd => s3 d hd z (by simp);have ih := qkv w n Q hq s1 k hk;have hz := qc8 z;rw [qcx]
  by_cases hw : wk z = w
  ·have hlt := ql3 n Q z hq s1 hQ;rw [hw] at hlt;have h0 := (qes w Q).1;obtain ⟨a, ha⟩ := Int.eq_ofNat_of_zero_le h0;rw [ha] at hlt ih ⊢;rw [ql9 hw];have hb := qqz (wd z).toNat (by omega) a (by exact Int.ofNat_lt.1 hlt) k hk
   have e : ((a : Nat) : Int) + ((2 ^ (wd z).toNat : Nat) : Int) = ((a + 2 ^ (wd z).toNat : Nat) : Int) := by rw [Int.natCast_add]
   rw [e, hb];rw [Bool.or_eq_true, ih, decide_eq_true_eq]
   constructor
   ·rintro (⟨d, h1, h2⟩ | h)
    ·exact ⟨d, List.mem_append_left _ h1, h2⟩
    ·exact ⟨z, by simp, hw, by omega⟩
   ·rintro ⟨d, h1, h2, h3⟩
    rcases List.mem_append.1 h1 with h1 | h1
    ·exact .inl ⟨d, h1, h2, h3⟩
    ·rw [List.mem_singleton.1 h1] at h3;exact .inr (by omega)
  ·rw [qq1 hw, Int.add_zero, ih]
   constructor
   ·rintro ⟨d, h1, h2⟩; exact ⟨d, List.mem_append_left _ h1, h2⟩
   ·rintro ⟨d, h1, h2, h3⟩
    rcases List.mem_append.1 h1 with h1 | h1
    ·exact ⟨d, h1, h2, h3⟩
    ·rw [List.mem_singleton.1 h1] at h2; exact absurd h2 hw
theorem qq2 (w : Int) : ∀ (n : Nat) (P : List Int), P.length = n → P.Pairwise (· < ·) → mkS P w ≤ 127
 | 0, P, hn, _ => by rw [List.length_eq_zero_iff.1 hn]; show (0 : Int) ≤ 127; decide
 | n + 1, P, hn, hs => by
  obtain ⟨Q, z, rfl, hq⟩ := qq0 hn;obtain ⟨s1, _, s3⟩ := List.pairwise_append.1 hs;have hQ : ∀ d ∈ Q, d < z := fun d hd => s3 d hd z (by simp);rw [qcx]
  by_cases hw : wk z = w
  ·have hlt := ql3 n Q z hq s1 hQ;rw [hw] at hlt;rw [ql9 hw];have hz := qc8 z
   have h7 : (wd z).toNat ≤ 6 := by omega
   have := Nat.pow_le_pow_right (show 0 < 2 by decide) h7
   have e : (2 ^ 6 : Nat) = 64 := by decide
   rw [e] at this
   omega
  ·rw [qq1 hw];have := qq2 w n Q hq s1
   omega
theorem qeu {a0 : List Int} (ha : a0.Pairwise (· < ·)) (d : Int) : inM (mkS a0 (wk d)) d = true ↔ d ∈ a0 := by
 have hw := qc8 d;have h := qkv (wk d) a0.length a0 rfl ha (wd d).toNat (by omega);rw [Int.toNat_of_nonneg hw.1] at h;have e : inM (mkS a0 (wk d)) d = decide (andI (shrI (mkS a0 (wk d)) (wd d)) 1 = 1) := rfl;rw [e, h]
 constructor
 ·rintro ⟨d', h1, h2, h3⟩
  have : d' = d := by unfold wk at h2; unfold wd at h3; omega
  rw [← this]; exact h1
 ·intro h; exact ⟨d, h, rfl, rfl⟩
theorem qhb (m : Int) : ∀ (n k : Nat) (d : Int), dayL m (n + k) d = dayL m n d ++ dayL m k (d + n)
 | 0, k, d => by simp [dayL]
 | n + 1, k, d => by
  have e : n + 1 + k = (n + k) + 1 := by omega
  have e2 : d + 1 + (n : Int) = d + ((n + 1 : Nat) : Int) := by omega
  rw [e, dayL, dayL, qhb m n k (d + 1), e2]
  split <;> rfl
theorem qi4 (m : Int) : ∀ (n : Nat) (d : Int), (∀ e, d ≤ e → e < d + n → inM m e = false) → dayL m n d = []
 | 0, d, _ => rfl
 | n + 1, d, h => by
  rw [dayL, h d (by omega) (by omega), qi4 m n (d + 1) fun e h1 h2 => h e (by omega) (by omega)]
  rfl
theorem qq3 {m f x y : Int} (hf : f ≤ x + 1) (hx : x < y) (hn : ∀ e, x < e → e < y → inM m e = false) (hy : inM m y = true) : dayL m (y + 1 - f).toNat f = dayL m (x + 1 - f).toNat f ++ [y] := by
 have e : (y + 1 - f).toNat = (x + 1 - f).toNat + ((y - x - 1).toNat + 1) := by omega
 have e1 : f + ((x + 1 - f).toNat : Int) = x + 1 := by omega
 have e2 : x + 1 + ((y - x - 1).toNat : Int) = y := by omega
 rw [e, qhb, e1, qhb, e2, qi4 m _ (x + 1) fun e h1 h2 => hn e (by omega) (by omega)]
 have : dayL m 1 y = [y] := by rw [dayL, hy]; rfl
 rw [this]; rfl
def dq (q : S45) : List Int := dayL q.Days (q.fTo + 1 - q.fFrom).toNat q.fFrom
theorem qq4 {f t m : Int} (h0 : 0 ≤ f) (h1 : f ≤ t) (h2 : t ≤ 99999) (h3 : t - f ≤ 400) (h4 : 1 ≤ m) (h5 : m ≤ 127) : s102 ⟨f, t, m⟩ = 0 := by
 unfold s102 s153 s155 s154
 simp only
 rw [wrap_i64 (n := t - f) ⟨by omega, by omega⟩, decide_eq_false (by omega : ¬ f < 0), decide_eq_false (by omega : ¬ 99999 < f), decide_eq_false (by omega : ¬ t < 0), decide_eq_false (by omega : ¬ 99999 < t), decide_eq_false (by omega : ¬ t < f), decide_eq_false (by omega : ¬ 400 < t - f), decide_eq_false (by omega : ¬ m < 1), decide_eq_false (by omega : ¬ 127 < m)]
 rfl
theorem qye {a0 : List Int} (ha : a0.Pairwise (· < ·)) {d : Int} (h : d ∈ a0) : 1 ≤ mkS a0 (wk d) := by
 have h1 := (qeu ha d).2 h;have h0 := (qes (wk d) a0).1
 by_cases hz : mkS a0 (wk d) = 0
 ·rw [hz] at h1;have hw := qc8 d;have h2 := qha (wd d).toNat (by omega);rw [Int.toNat_of_nonneg hw.1] at h2;have e : inM 0 d = decide (andI (shrI 0 (wd d)) 1 = 1) := rfl;rw [e, h2] at h1; cases h1
 ·omega
structure JS (a0 : List Int) (i : Nat) (x10 : List S45) (f t n : Int) : Prop where
 h10 : x10.length ≤ i
 ht : a0[i]? = some t
 hf : f ∈ a0
 le : f ≤ t
 hn : n = wk t - wk f + 1
 h57 : n ≤ 57
 same : ∀ w, wk f ≤ w → w ≤ wk t → mkS a0 w = mkS a0 (wk f)
 ok : ∀ p ∈ x10, s102 p = 0
 flat : x10.flatMap dq ++ dq ⟨f, t, mkS a0 (wk f)⟩ = a0.take (i + 1)
theorem JS.valid {a0 : List Int} {i : Nat} {x10 : List S45} {f t n : Int} (h : JS a0 i x10 f t n) (ha : a0.Pairwise (· < ·)) (hr : ∀ d ∈ a0, 0 ≤ d ∧ d ≤ 99999) : s102 ⟨f, t, mkS a0 (wk f)⟩ = 0 := by
 have h1 := hr f h.hf;have h2 := hr t (List.mem_of_getElem? h.ht);have h3 := h.hn;have h4 := h.h57;exact qq4 h1.1 h.le h2.2 (by unfold wk at h3; omega) (qye ha h.hf) (qq2 _ _ a0 rfl ha)
theorem qyf {a0 : List Int} (ha : a0.Pairwise (· < ·)) {i : Nat} {x y : Int} (hx : a0[i]? = some x) (hy : a0[i + 1]? = some y) : x < y ∧ ∀ e, x < e → e < y → e ∉ a0 := by
 obtain ⟨h1, h1'⟩ := List.getElem?_eq_some_iff.1 hx;obtain ⟨h2, h2'⟩ := List.getElem?_eq_some_iff.1 hy;have hp := List.pairwise_iff_getElem.1 ha;refine ⟨by rw [← h1', ← h2']; exact hp i (i + 1) h1 h2 (by omega), fun e he1 he2 hm => ?_⟩;obtain ⟨j, hj, hje⟩ := List.getElem_of_mem hm
 rcases Nat.lt_trichotomy j i with h | h | h
 ·have := hp j i hj h1 h; omega
 ·subst h; omega
 ·rcases Nat.lt_or_eq_of_le (show i + 1 ≤ j by omega) with h | h
  ·have := hp (i + 1) j h2 hj h; omega
  ·subst h; omega
theorem qi5 {a0 : List Int} {i : Nat} {y : Int} (hy : a0[i]? = some y) : a0.take (i + 1) = a0.take i ++ [y] := by
 rw [List.take_add_one, hy]; rfl
theorem qcg (a0 : List Int) (ha : a0.Pairwise (· < ·)) (hr : ∀ d ∈ a0, 0 ≤ d ∧ d ≤ 99999) (hlen : a0.length ≤ 401) : ∀ (l : List Int) (i : Nat) (x10 : List S45) (f t n : Int), JS a0 i x10 f t n → i + 1 + l.length = a0.length → a0.drop (i + 1) = l →
  ∃ R, s112_l1 a0 l (i + 1) (x10 ++ [⟨f, t, mkS a0 (wk f)⟩]) n = some R ∧ (∀ p ∈ R, s102 p = 0) ∧ R.flatMap dq = a0 ∧ R.length ≤ a0.length
 | [], i, x10, f, t, n, hJ, hn, _ => by
  refine ⟨_, by rw [s112_l1], fun p hp => ?_, ?_, by have := hJ.h10; simp at hn ⊢; omega⟩
  ·rcases List.mem_append.1 hp with hp | hp
   ·exact hJ.ok p hp
   ·rw [List.mem_singleton.1 hp]; exact hJ.valid ha hr
  ·rw [List.flatMap_append];have := hJ.flat;rw [show a0.take (i + 1) = a0 by rw [List.take_of_length_le]; simp at hn; omega] at this;simp only [List.flatMap_cons, List.flatMap_nil, List.append_nil];exact this
 | y :: l, i, x10, f, t, n, hJ, hn, hd => by
  rw [List.length_cons] at hn
  have hi : i < a0.length := by omega
  have h10 := hJ.h10;have hx := hJ.ht
  have hyi : a0[i + 1]? = some y := by
   have : (a0.drop (i + 1))[0]? = some y := by rw [hd]; rfl
   simpa using this
  have hdn : a0.drop (i + 1 + 1) = l := by
   have : a0.drop (i + 1 + 1) = (a0.drop (i + 1)).drop 1 := by rw [List.drop_drop]
   rw [this, hd]; rfl
  have hym := List.mem_of_getElem? hyi;have hxm := List.mem_of_getElem? hx;have hyr := hr y hym;have hxr := hr t hxm;have hfr := hr f hJ.hf;obtain ⟨hlt, hgap⟩ := qyf ha hx hyi
  have hw0 : 0 ≤ wk y ∧ wk y ≤ 20000 := by unfold wk; omega
  have hw1 : 0 ≤ wk t ∧ wk t ≤ 20000 := by unfold wk; omega
  have hwl : wk t ≤ wk y := by unfold wk; omega
  have hwf : wk f ≤ wk t := by have := hJ.le; unfold wk; omega
  have e0 : decide ((0 : Int) < (((i + 1 : Nat)) : Int)) = true := decide_eq_true (by omega)
  have ep : ixO a0 (IntKind.i64.wrap ((((i + 1 : Nat)) : Int) - 1)) = some t := by
   rw [wrap_i64 ⟨by omega, by omega⟩]
   have : (((i + 1 : Nat)) : Int) - 1 = ((i : Nat) : Int) := by omega
   rw [this]; exact qnp hx
  have hset : ∀ (q v : S45), ixO (x10 ++ [q]) (IntKind.i64.wrap ((List.length (x10 ++ [q]) : Int) - 1)) = some q ∧ List.set (x10 ++ [q]) (Int.toNat (IntKind.i64.wrap ((List.length (x10 ++ [q]) : Int) - 1))) v = x10 ++ [v] := fun q v => by
   have hl : (List.length (x10 ++ [q]) : Int) - 1 = (x10.length : Int) := by simp
   rw [hl];have hw : IntKind.i64.wrap (x10.length : Int) = (x10.length : Int) := wrap_i64 ⟨by omega, by omega⟩;rw [hw];exact ⟨qg4, wg (by simp)⟩
  -- the period goes on
  have goon : wk y ≤ wk t + 1 → mkS a0 (wk y) = mkS a0 (wk f) → wk y - wk f + 1 ≤ 57 → JS a0 (i + 1) x10 f y (wk y - wk f + 1) := fun hw hm h57 => by
   have hsame : ∀ w, wk f ≤ w → w ≤ wk y → mkS a0 w = mkS a0 (wk f) := fun w h1 h2 => by
    rcases Int.lt_or_le (wk t) w with h3 | h3
    ·rw [show w = wk y by omega]; exact hm
    ·exact hJ.same w h1 h3
   have hfin : ∀ e, t < e → e ≤ y → inM (mkS a0 (wk f)) e = inM (mkS a0 (wk e)) e := fun e h1 h2 => by
    rw [hsame (wk e) (by have := hJ.le; unfold wk at *; omega) (by unfold wk; omega)]
   refine ⟨by omega, hyi, hJ.hf, by have := hJ.le; omega, rfl, h57, hsame, hJ.ok, ?_⟩;rw [qi5 hyi, ← hJ.flat, List.append_assoc]
   congr 1
   show dayL (mkS a0 (wk f)) (y + 1 - f).toNat f = dayL (mkS a0 (wk f)) (t + 1 - f).toNat f ++ [y];refine qq3 (by have := hJ.le; omega) hlt (fun e h1 h2 => ?_) ?_
   ·rw [hfin e h1 (by omega)]
    cases hc : inM (mkS a0 (wk e)) e
    ·rfl
    ·exact absurd ((qeu ha e).1 hc) (hgap e h1 h2)
   ·rw [hfin y hlt (Int.le_refl _)];exact (qeu ha y).2 hym
  -- a new period begins
  have anew : JS a0 (i + 1) (x10 ++ [⟨f, t, mkS a0 (wk f)⟩]) y y 1 := by
   refine ⟨by simp; omega, hyi, hym, Int.le_refl _, by omega, by omega, fun w h1 h2 => by rw [show w = wk y by omega], fun p hp => ?_, ?_⟩
   ·rcases List.mem_append.1 hp with hp | hp
    ·exact hJ.ok p hp
    ·rw [List.mem_singleton.1 hp]; exact hJ.valid ha hr
   ·rw [qi5 hyi, ← hJ.flat, List.flatMap_append]
    have e1 : dq ⟨y, y, mkS a0 (wk y)⟩ = [y] := by
     unfold dq
     have : (y + 1 - y).toNat = 1 := by omega
     simp only [this];rw [dayL, (qeu ha y).2 hym]; rfl
    rw [e1]; simp
  have ihn := qcg a0 ha hr hlen l (i + 1) _ _ _ _ anew (by omega) hdn
  have hsn : wk y - wk f + 1 = n + (wk y - wk t) := by have := hJ.hn; omega
  rw [s112_l1, e0, cond_true, ep];simp only [bindO, Bool.true_and];rw [qan hxr, qan hyr, wrap_i64 (n := wk y - 1) ⟨by omega, by omega⟩, qet _ hr hlen, (hset _ default).1];simp only [bindO, s112_j1]
  by_cases hA : wk t = wk y
  ·rw [decide_eq_true hA, cond_true, (hset _ _).2];have hg := goon (by omega) (by rw [← hA]; exact hJ.same _ hwf (Int.le_refl _)) (by have := hJ.h57; omega);rw [show wk y - wk f + 1 = n by omega] at hg;exact qcg a0 ha hr hlen l (i + 1) _ _ _ _ hg (by omega) hdn
  ·rw [decide_eq_false hA, cond_false]
   by_cases hB : wk t = wk y - 1
   ·rw [decide_eq_true hB];simp only [cond_true, Bool.true_and]
    by_cases hC : mkS a0 (wk f) = mkS a0 (wk y)
    ·rw [decide_eq_true hC, Bool.true_and]
     by_cases hD : n < 57
     ·rw [decide_eq_true hD, cond_true, (hset _ _).2, wrap_i64 (n := n + 1) ⟨by have := hJ.hn; omega, by omega⟩];have hg := goon (by omega) hC.symm (by omega);rw [show wk y - wk f + 1 = n + 1 by omega] at hg;exact qcg a0 ha hr hlen l (i + 1) _ _ _ _ hg (by omega) hdn
     ·rw [decide_eq_false hD, cond_false];exact ihn
    ·rw [decide_eq_false hC, Bool.false_and, cond_false];exact ihn
   ·rw [decide_eq_false hB];simp only [cond_false, Bool.false_and, bindO];exact ihn
theorem qq5 (a0 : List Int) (ha : a0.Pairwise (· < ·)) (hr : ∀ d ∈ a0, 0 ≤ d ∧ d ≤ 99999) (hlen : a0.length ≤ 401) : ∃ R, s112 a0 = some R ∧ (∀ p ∈ R, s102 p = 0) ∧ R.flatMap dq = a0 ∧ R.length ≤ a0.length := by
 unfold s112
 cases a0 with
 | nil => exact ⟨[], by rw [s112_l1], by simp, rfl, Nat.le_refl _⟩
 | cons y l =>
  have hy := hr y List.mem_cons_self
  have hJ : JS (y :: l) 0 [] y y 1 := by
   refine ⟨by simp, rfl, List.mem_cons_self, Int.le_refl _, by omega, by omega, fun w h1 h2 => by rw [show w = wk y by omega], by simp, ?_⟩
   have e1 : dq ⟨y, y, mkS (y :: l) (wk y)⟩ = [y] := by
    unfold dq
    have : (y + 1 - y).toNat = 1 := by omega
    simp only [this];rw [dayL, (qeu ha y).2 List.mem_cons_self]; rfl
   rw [e1]; rfl
  obtain ⟨R, h1, h2, h3⟩ := qcg (y :: l) ha hr hlen l 0 [] y y 1 hJ (by simp; omega) rfl;refine ⟨R, ?_, h2, h3⟩;rw [s112_l1];have z : decide ((0 : Int) < (((0 : Nat)) : Int)) = false := rfl;rw [z];simp only [cond_false, Bool.false_and, bindO, s112_j1];rw [qan hy, qet _ hr hlen];exact h1
theorem qyg (n : Int) : sun n % 7 = 1 := by unfold sun; omega
theorem qq6 (s : S67) : beg s % 7 = 1 := by
 unfold beg
 split <;> exact qyg _
theorem qyh (own s : S67) (d : Int) : (eqv own s d - d) % 7 = 0 := by
 have a := qq6 own;have b := qq6 s;unfold eqv; omega
theorem car1 {a0 : S45} {a1 : S67} (hp : s102 a0 = 0) (hs : okS a1) : ∀ (l P : List Int) (k : Nat) (x2 : Int) (x3 : ByteArray), P ++ l = s104 a0 → k = P.length →
  (∀ d ∈ P, s158 d = some (⟨x2, x3⟩, 0) ∧ okS ⟨x2, x3⟩ ∧ beg ⟨x2, x3⟩ ≤ d) →
  (∃ e, (e = 30 ∨ e = 13) ∧ s104 a0 ≠ [] ∧ s108_l1 a0 a1 l k x2 x3 = some ([], e)) ∨
  (∃ own R, okS own ∧ (∀ d ∈ s104 a0, beg own ≤ d) ∧ s108_l1 a0 a1 l k x2 x3 = some (R, 0) ∧ s112 (eqvL own a1 (s104 a0)) = some R)
 | [], P, k, x2, x3, hP, hk, h => by
  rw [s108_l1, qhc hp]
  have hP' : P = s104 a0 := by simpa using hP
  cases hc : (decide (0 < (List.length (s104 a0) : Int))) && (!decide (x3 = a1.Kind))
  ·rw [cond_false]
   right
   cases hd : s104 a0 with
   | nil =>
    obtain ⟨R, g1, g2⟩ := qv0 [] List.Pairwise.nil (by simp) (by simp);refine ⟨a1, R, hs, by simp, ?_, g2⟩;rw [s108_l2, g1]; rfl
   | cons d0 l0 =>
    have hm : d0 ∈ P := by rw [hP', hd]; exact List.mem_cons_self
    have ho := (h d0 hm).2.1
    have hkind : x3 = a1.Kind := by
     rw [hd] at hc;simp only [List.length_cons] at hc;rw [decide_eq_true (by omega), Bool.true_and] at hc
     simpa using hc
    have hall : ∀ d ∈ s104 a0, beg ⟨x2, x3⟩ ≤ d := fun d hd' => (h d (by rw [hP']; exact hd')).2.2;have key := q08 (own := ⟨x2, x3⟩) hs ho hkind (s104 a0) 0 0 [] (fun d hd' => ⟨(h d (by rw [hP']; exact hd')).1, (wo hp).2 d hd'⟩);have bs := qbu hs
    obtain ⟨R, g1, g2⟩ := qv0 (eqvL ⟨x2, x3⟩ a1 (s104 a0)) (by
     unfold eqvL;refine List.Pairwise.filter _ (List.pairwise_map.2 ?_);rw [qcy a0 hp]
     exact (w7 _ _ _).imp fun h => by unfold eqv; omega) (fun v hv => by
     obtain ⟨hv1, hv2⟩ := List.mem_filter.1 hv;obtain ⟨d, hd1, rfl⟩ := List.mem_map.1 hv1;have := hall d hd1
     have hv2 : eqv ⟨x2, x3⟩ a1 d < nxt a1 := by simpa using hv2
     unfold eqv at *
     omega) (by
     have := (wo hp).1;have h9 := List.length_filter_le (fun v => decide (v < nxt a1)) ((s104 a0).map (eqv ⟨x2, x3⟩ a1));rw [List.length_map] at h9;unfold eqvL
     omega)
    refine ⟨⟨x2, x3⟩, R, ho, by rw [← hd]; exact hall, ?_, by rw [← hd]; exact g2⟩;rw [← hd, key.1, List.nil_append, g1]
    rfl
  ·rw [cond_true]
   left
   refine ⟨13, .inr rfl, ?_, rfl⟩;intro e;rw [e] at hc
   simp at hc
 | y :: l, P, k, x2, x3, hP, hk, h => by
  have hy : y ∈ s104 a0 := by rw [← hP]; simp
  have hne : s104 a0 ≠ [] := List.ne_nil_of_mem hy;obtain ⟨y0, y1⟩ := (wo hp).2 y hy;rw [s108_l1]
  rcases qqg y0 y1 with ⟨s, g1, g2, g3, g4, g5⟩ | ⟨⟨s, g1⟩, s', g2⟩
  ·rw [g1];simp only [bindO];rw [decide_eq_false (by show ¬ (0 : Int) ≠ 0; decide), Bool.false_or]
   cases hc : (decide (0 < ((k : Nat) : Int))) && (!(eqAnd [decide (s.Year = x2), decide (s.Kind = x3)]))
   ·rw [cond_false];refine car1 hp hs l (P ++ [y]) (k + 1) s.Year s.Kind (by rw [← hP]; simp) (by simp [hk]) fun d hd => ?_
    rcases List.mem_append.1 hd with hd | hd
    ·have hk0 : 0 < P.length := List.length_pos_of_mem hd;rw [decide_eq_true (by omega), Bool.true_and] at hc
     have hc : s.Year = x2 ∧ s.Kind = x3 := by simpa [eqAnd] using hc
     have := h d hd;rw [← hc.1, ← hc.2] at this;exact this
    ·rw [List.mem_singleton.1 hd];exact ⟨g1, g3, g4⟩
   ·rw [cond_true];exact .inl ⟨30, .inl rfl, hne, rfl⟩
  ·rw [g1];simp only [bindO];rw [decide_eq_true (by show (30 : Int) ≠ 0; decide), Bool.true_or, cond_true];exact .inl ⟨30, .inl rfl, hne, rfl⟩
theorem qth {a0 : S45} {a1 : S67} (hp : s102 a0 = 0) (hs : okS a1) :
  (∃ e, (e = 30 ∨ e = 13) ∧ s104 a0 ≠ [] ∧ s108 a0 a1 = some ([], e)) ∨
  (∃ own R, okS own ∧ s108 a0 a1 = some (R, 0) ∧ s112 (eqvL own a1 (s104 a0)) = some R ∧ (∀ p ∈ R, s102 p = 0) ∧ R.flatMap dq = eqvL own a1 (s104 a0) ∧ R.length ≤ 401 ∧ (∀ d ∈ s104 a0, beg own ≤ d)) := by
 have h := car1 hp hs (s104 a0) [] 0 0 ByteArray.empty rfl rfl (by simp)
 have e : s108 a0 a1 = s108_l1 a0 a1 (s104 a0) 0 0 ByteArray.empty := by unfold s108; rw [qhc hp]
 rw [e]
 rcases h with h | ⟨own, R, h1, h2, h3, h4⟩
 ·exact .inl h
 ·right
  have bs := qbu hs
  have asc : (s104 a0).Pairwise (· < ·) := by rw [qcy a0 hp]; exact w7 _ _ _
  have hl : (eqvL own a1 (s104 a0)).length ≤ 401 := by
   have := (wo hp).1;have h9 := List.length_filter_le (fun v => decide (v < nxt a1)) ((s104 a0).map (eqv own a1));rw [List.length_map] at h9;unfold eqvL
   omega
  obtain ⟨R', g1, g2, g3, g4⟩ := qq5 (eqvL own a1 (s104 a0)) (by
   unfold eqvL
   exact List.Pairwise.filter _ (List.pairwise_map.2 (asc.imp fun h => by unfold eqv; omega))) (fun v hv => by
   obtain ⟨hv1, hv2⟩ := List.mem_filter.1 hv;obtain ⟨d, hd1, rfl⟩ := List.mem_map.1 hv1;have := h2 d hd1
   have hv2 : eqv own a1 d < nxt a1 := by simpa using hv2
   unfold eqv at *
   omega) hl
  rw [h4] at g1
  cases g1
  exact ⟨own, R, h1, h3, h4, g2, g3, by omega, h2⟩
theorem qq7 {a0 : S45} {a1 : S67} {r : List S45 × Int} (hp : s102 a0 = 0) (hs : okS a1) (h : s108 a0 a1 = some r) : s39 a0 a1 = some r := by
 have e : s84 [s102 a0, s107 a1] = 0 := by
  rw [hp, qkr hs]; rfl
 unfold s39;rw [e, decide_eq_false (by decide), cond_false, h]
 rfl
theorem qq8 (rec1 : Nat → List S131 → Option (List S131 × Int)) (a0 : S23) (a3 : S67) (x1 : List S131) (k : Nat) (y : S115) : ∀ (cs : List Int) (k' k'' : Nat) (u v : Int) (q : S55), s58_l1 cs k'' u v = some (q, 0) → s64_l2 rec1 a0 a3 x1 k y cs k' u v = s64_l2 rec1 a0 a3 x1 k y [] 0 q.Flown q.Due
 | [], k', k'', u, v, q, h => by
  rw [s58_l1] at h
  cases h
  rw [s64_l2, s64_l2]
 | c :: cs, k', k'', u, v, q, h => by
  rw [s58_l1] at h;rw [s64_l2];exact qq8 rec1 a0 a3 x1 k y cs _ _ _ _ q h
theorem qyi : ∀ {l : List Int}, (∀ x ∈ l, x = 0) → s84 l = 0 := by
 intro l h
 have key : ∀ (l : List Int) (k : Nat), (∀ x ∈ l, x = 0) → s84_l1 l k = 0 := by
  intro l
  induction l with
  | nil => intro k _; rfl
  | cons y l ih =>
   intro k h;rw [s84_l1, h y List.mem_cons_self]
   simp [ih _ fun x hx => h x (List.mem_cons_of_mem _ hx)]
 exact key l 0 h
theorem qv2 {a b c : Int} (h : s85 a b c = 0) : b ≤ a ∧ a ≤ c := by
 unfold s85 s86 at h
 by_cases h1 : a < b
 ·simp [h1] at h
 ·by_cases h2 : c < a
  ·simp [h2] at h
  ·omega
theorem qyj {a : S23} (h : s23 a = 0) : (0 ≤ a.Before ∧ a.Before ≤ 720) ∧ (0 ≤ a.After ∧ a.After ≤ 720) := by
 unfold s23 at h
 cases hc : decide ((s84 [(s85 a.Before 0 720), (s85 a.After 0 720), (s85 a.Notice 0 365), (s85 a.Share 1 100), (s86 (decide (16 < (List.length a.Causes : Int))) 5)]) ≠ 0)
 ·have h0 : s84 [(s85 a.Before 0 720), (s85 a.After 0 720), (s85 a.Notice 0 365), (s85 a.Share 1 100), (s86 (decide (16 < (List.length a.Causes : Int))) 5)] = 0 := by simpa using hc
  have := qx9 h0;exact ⟨qv2 (this _ (by simp)), qv2 (this (s85 a.After 0 720) (by simp))⟩
 ·rw [hc, cond_true] at h;exact absurd h (of_decide_eq_true hc)
theorem qma {a0 : S23} {a b : S151} (hr : s23 a0 = 0) (ha : 0 ≤ a.Moment ∧ a.Moment ≤ 143999999) : s142 a0 a b = true ↔ (b.Name = a.Name ∧ b.Kind = a.Kind) ∧ a.Moment - a0.Before ≤ b.Moment ∧ b.Moment ≤ a.Moment + a0.After := by
 obtain ⟨h1, h2⟩ := qyj hr;have w1 : IntKind.i64.wrap (a.Moment - a0.Before) = a.Moment - a0.Before := wrap_i64 ⟨by omega, by omega⟩;have w2 : IntKind.i64.wrap (a.Moment + a0.After) = a.Moment + a0.After := wrap_i64 ⟨by omega, by omega⟩;unfold s142;rw [w1, w2]
 simp [eqAnd, Bool.and_eq_true, and_assoc]
section
variable {K V : Type} [DecidableEq K]
end
theorem mget_mem {K V : Type} [DecidableEq K] : ∀ {m : List (K × V)} {k : K} {v : V}, mget m k = some v → (k, v) ∈ m
 | [], _, _, h => by cases h
 | (a, b) :: r, k, v, h => by
  rw [mget] at h
  by_cases hk : a = k
  · rw [decide_eq_true hk, cond_true] at h
    cases h; subst hk; exact List.mem_cons_self
  · rw [decide_eq_false hk, cond_false] at h
    exact List.mem_cons_of_mem _ (mget_mem h)
def Bd (n : Int) (m : List (ByteArray × S55)) : Prop := ∀ p ∈ m, 0 ≤ p.2.Flown ∧ p.2.Flown ≤ p.2.Due ∧ p.2.Due ≤ n
theorem Bd.get {n : Int} {m : List (ByteArray × S55)} (h : Bd n m) (hn : 0 ≤ n) (k : ByteArray) : 0 ≤ (mgetD m k (S55.mk 0 0)).Flown ∧ (mgetD m k (S55.mk 0 0)).Flown ≤ (mgetD m k (S55.mk 0 0)).Due ∧ (mgetD m k (S55.mk 0 0)).Due ≤ n := by
 unfold mgetD
 cases hg : mget m k with
 | none => exact ⟨by simp, by simp, by simpa using hn⟩
 | some v => exact h _ (mget_mem hg)
theorem qi6 {a b c : Int} (h : b ≤ a) (h2 : a ≤ c) : s85 a b c = 0 := by
 unfold s85 s86;rw [decide_eq_false (by omega), decide_eq_false (by omega)]
 rfl
end Go.Sim
