/-
  What is proved: lemmas and contracts of functions on the way to the law topBeaconReduced (part 21).
-/
import Derived.Test.YtcpkkolljgpalaaGreatDoorVrB1
import Derived.Test.YtcpkkolljgpalaaGreatDoorVrB2
import Derived.Test.YtcpkkolljgpalaaGreatDoorVrA8
import Derived.Test.YtcpkkolljgpalaaGreatDoorVrC2
import Derived.Test.YtcpkkolljgpalaaGreatDoorVrB3
import Derived.Test.YtcpkkolljgpalaaGreatDoorVrA5
set_option linter.unusedSectionVars false
set_option linter.unusedSimpArgs false
set_option linter.unusedVariables false
set_option linter.unnecessarySimpa false
set_option linter.deprecated false
set_option maxRecDepth 10000
namespace Go.Sim
open Go.Proofs
noncomputable def s2003_l2 (r6 : Int × Int) : List S45 → Nat → Option Bool
 | [], k13 => some s2007
 | y14 :: t15, k13 => (bif decide (andNotI y14.Days r6.1 ≠ 0) then some false else s2003_l2 r6 t15 (k13 + 1))
noncomputable def s2003_l1 (a0 : S45) (a1 : Int) (a2 : S2027) : List S104 → Nat → (List S104) → Option Bool
 | [], k3, x1 => (bif (!(s21 x1 8)) || (decide ((s28 x1) ≠ 0)) then some s2007 else bindO (s72 s2012 ((s29 (⟨#[97]⟩) (⟨#[68]⟩) a0 a1).1) a2.Notes) fun r6 => (bif (((decide (IntKind.i64.wrap (((s29 (⟨#[97]⟩) (⟨#[68]⟩) a0 a1).2) + r6.2) ≠ 0)) || (decide (r6.1 < 0))) || (decide (127 < r6.1))) || (decide (andNotI r6.1 a0.Days ≠ 0)) then some false else (bif decide (r6.1 = 0) then some s2007 else bindO (s39 (S45.mk a0.fFrom a0.fTo r6.1) (S67.mk a2.Season.Year a2.Season.Kind)) fun r7 => bindO (s64 s2012 [(S115.mk (⟨#[97]⟩) ByteArray.empty (⟨#[68]⟩) ByteArray.empty ByteArray.empty ByteArray.empty (S45.mk a0.fFrom a0.fTo r6.1) a1 0 0 0)] a2.Notes (S67.mk a2.Season.Year a2.Season.Kind)) fun r8 => (bif decide (r7.2 ≠ r8.2) then some false else (bif decide (r7.2 ≠ 0) then some (((decide (r7.2 = 30)) || (decide (r7.2 = 13))) && s2007) else bindO (bif !(decide ((List.length r8.1 : Int) ≠ 1)) then ixO r8.1 0 else some default) fun y9 => bindO (bif !((decide ((List.length r8.1 : Int) ≠ 1)) || (!decide (y9.Name = (⟨#[97]⟩)))) then ixO r8.1 0 else some default) fun y10 => bindO (bif !((decide ((List.length r8.1 : Int) ≠ 1)) || (!decide (y9.Name = (⟨#[97]⟩)))) then s43 y10.Periods r7.1 else some default) fun r11 => (bif ((decide ((List.length r8.1 : Int) ≠ 1)) || (!decide (y9.Name = (⟨#[97]⟩)))) || (!r11) then some false else s2003_l2 r6 r7.1 0))))))
 | y4 :: t5, k3, x1 => s2003_l1 a0 a1 a2 t5 (k3 + 1) (x1 ++ [y4])
noncomputable def s2003 (a0 : S45) (a1 : Int) (a2 : S2027) : Option Bool :=
 (bif ((!(s2005 a0 a1)) || (decide ((s41 (S67.mk a2.Season.Year a2.Season.Kind)) ≠ 0))) || (decide (8 < (List.length a2.Notes : Int))) then some s2007 else s2003_l1 a0 a1 a2 a2.Notes 0 [])
set_option maxHeartbeats 8000000 in
theorem q29 (a0 : S45) (a1 : Int) (a2 : S2027) {R : Bool}   (hR : s2003 a0 a1 a2 = some R) : Con (EG glT) 3 [G.agg [G.int a0.fFrom, G.int a0.fTo, G.int a0.Days], G.int a1, G.agg [G.sl 8 (List.map S104.c a2.Notes), G.int a2.Season.Year, G.str a2.Season.Kind]] (G.bool R) := by
 unfold s2003 at hR;refine qn Tryz.func3 rfl rfl fun w0 M0 => ?_;refine qb ?_;refine qa [.p, .p, .p] ?_;refine su (zp rfl rfl) rfl ?_;refine su (zp rfl rfl) rfl ?_;refine sa rfl rfl ?_;refine qc ?_;refine qb ?_;refine qb ?_;refine qa [.p, .p, .p, .p, .p, .p, .p, .p, .p, .p, .p, .p, .p, .p, .p, .p] ?_;refine su (qt rfl ty46 rfl rfl rfl) rfl ?_;refine sm rfl rfl ?_;refine su (qf rfl q2m rfl (q3n a0 a1) (qe rfl (qe rfl qi))) rfl ?_;refine su (vc rfl rfl) rfl ?_;refine sm rfl rfl ?_;refine sg rfl rfl (fun h => qd rfl qf2 rfl) rfl ?_;refine sg rfl rfl (fun h => qt rfl ty68 (gd h rfl) rfl rfl) rfl ?_;refine sg rfl rfl (fun h => qf rfl K41 rfl (c41 (S67.mk a2.Season.Year a2.Season.Kind)) (qe (gd h rfl) qi)) rfl ?_;refine sg rfl rfl (fun h => zu rfl (gd h rfl) rfl) rfl ?_;refine su (jr rfl rfl rfl rfl) rfl ?_;refine sm rfl rfl ?_;refine sg rfl rfl (fun h => qd rfl qda rfl) rfl ?_;refine sg rfl rfl (fun h => qg rfl ty26 (gd h rfl)) rfl ?_;refine sg rfl rfl (fun h => zb (f := S104.c) (l := a2.Notes) rfl Tryz.underlying24 (gd h rfl)) rfl ?_;refine sg rfl rfl (fun h => jg rfl (gd h rfl) rfl) rfl ?_;refine su (jr rfl rfl rfl rfl) rfl ?_;refine qc ?_;refine qh _ rfl (fun h1 => ?_) (fun h1 => ?_)
 ·replace h1 : (((!(s2005 a0 a1)) || (decide ((s41 (S67.mk a2.Season.Year a2.Season.Kind)) ≠ 0))) || (decide (8 < (List.length a2.Notes : Int)))) = true := h1;replace hR := zf hR h1;(try simp only [bB] at h1);refine qb ?_;refine qa [.p, .p] ?_;refine su (qf rfl qnw rfl (qpu) qi) rfl ?_;refine sa rfl rfl ?_;refine qc ?_;refine qo ?_;exact qhi (za rfl (rv_g rfl)) (congrArg (fun R_ => G.bool R_) (Option.some.inj hR))
 ·replace h1 : (((!(s2005 a0 a1)) || (decide ((s41 (S67.mk a2.Season.Year a2.Season.Kind)) ≠ 0))) || (decide (8 < (List.length a2.Notes : Int)))) = false := h1;replace hR := zi hR h1;(try simp only [bB] at h1);obtain ⟨hp, hm0, hm1, hl8⟩ := qv1 h1;refine ql ?_;refine qb ?_;refine qa [.w] ?_;refine sw (jz 7 36 8 rfl rfl rfl) rfl ?_;refine qc ?_;refine qb ?_;refine qb ?_;refine qa [.p, .p, .p, .p] ?_;refine su (qd rfl qda rfl) rfl ?_;refine su (qg rfl ty26 rfl) rfl ?_;refine su (zb (f := S104.c) (l := a2.Notes) rfl Tryz.underlying24 rfl) rfl ?_;refine sm rfl rfl ?_;refine qc ?_;refine qm ?_;refine qr (γ := Nat × (List S104) × (List S104)) (fun g => ([(1, .g (G.int a1)), (3, .g (G.ref [G.int a0.fFrom, G.int a0.fTo, G.int a0.Days])), (5, .g (G.ref [G.sl 8 (List.map S104.c a2.Notes), G.int a2.Season.Year, G.str a2.Season.Kind])), (7, .osl 7 8 0 (List.length g.2.2)), (39, .g (G.sl 8 (List.map S104.c a2.Notes))), (40, .g (G.int (List.length a2.Notes : Int))), (41, .g (G.int ((g.1 : Nat) : Int)))], [(7, .arr 36 8 (List.map S104.c g.2.2))])) (fun g => g.2.2.length ≤ g.1 ∧ g.1 ≤ a2.Notes.length ∧ a2.Notes.drop g.1 = g.2.1 ∧ s2003_l1 a0 a1 a2 g.2.1 g.1 g.2.2 = some R) (fun g => List.length g.2.1) ⟨rfl, (0, a2.Notes, []), ⟨rfl, rfl, rfl, rfl, rfl, rfl, rfl, trivial⟩, ⟨rfl, trivial⟩, rfl, ⟨iH, iH, rfl, hR⟩, trivial⟩ ?_
  ·rintro ⟨k3, t5, x1⟩ ⟨iv1_0, iv1_1, hd, hR⟩;replace hd : a2.Notes.drop k3 = t5 := hd;replace hR : s2003_l1 a0 a1 a2 t5 k3 x1 = some R := hR;replace iv1_0 : x1.length ≤ k3 := iv1_0;replace iv1_1 : k3 ≤ a2.Notes.length := iv1_1;refine qb ?_;refine qa [.p] ?_;refine su (qx rfl rfl rfl) rfl ?_;refine qc ?_;refine zj (f := S104.c) (l := a2.Notes) 39 rfl fun hlz1 => ?_;refine qb ?_;refine qh _ rfl (fun h2 => ?_) (fun h2 => ?_)
   ·replace h2 : (decide (((k3 : Nat) : Int) < (List.length a2.Notes : Int))) = true := h2;obtain ⟨y4, t5, rfl, hx1, hd⟩ := zk hd (decT h2);replace h2 := decT h2;rw [s2003_l1] at hR;(try dsimp only at hR);refine ql ?_;refine qb ?_;refine qm ?_;refine qb ?_;refine qa [.p, .p, .w, .w] ?_;refine su (jb (f := S104.c) (l := a2.Notes) (a := y4) rfl Tryz.underlying24 xx rfl rfl (Int.natCast_nonneg _) hx1) rfl ?_;refine su (qt rfl xx rfl rfl rfl) rfl ?_;refine sw (zr 9 rfl z105 rfl rfl) rfl ?_;refine ji rfl rfl (qy (tv := .g (G.agg [G.str y4.Kind, G.str y4.Name, G.int y4.Moment, G.str y4.Move, G.int y4.fFrom, G.int y4.fTo, G.str y4.Cause, G.int y4.Told])) rfl xx rfl rfl rfl rfl rfl) ?_;refine qc ?_;refine qa [.p, .r, .p, .k, .p] ?_;refine su (qp rfl rfl) rfl ?_;refine sr (zw rfl xx rfl rfl rfl rfl) rfl ?_;refine su (qq rfl Tryz.underlying33 qe0 z161 rfl (qu rfl j5) rfl (by simp [S104.c]) (by decide)) rfl ?_;refine st_k rfl rfl (vw (f := S104.c) (out := x1) (new := [y4]) rfl q2p rfl rfl (qab rfl (qac (by decide) (by simp [S104.c]))) (qd3 rfl) (by simp; omega)) rfl ?_;refine su (zh rfl rfl) rfl ?_;refine qc ?_;refine qa [.p, .p] ?_;refine su (zg rfl rfl rfl iE) rfl ?_;refine sm rfl rfl ?_;refine qc ?_;exact ⟨rfl, (k3 + 1, t5, x1 ++ [y4]), ⟨rfl, rfl, rfl, rfl, rfl, rfl, rfl, trivial⟩, ⟨rfl, trivial⟩, rfl, ⟨iB, iB, hd, hR⟩, by simp⟩
   ·replace h2 : (decide (((k3 : Nat) : Int) < (List.length a2.Notes : Int))) = false := h2;obtain rfl := zt hd (decF h2);rw [s2003_l1] at hR;refine zc ?_;refine qb ?_;refine qb ?_;refine qa [.p, .r, .p, .p, .p, .r, .p, .p] ?_;refine su (qp rfl rfl) rfl ?_;refine sr (qjb rfl K21 rfl (c21 x1 8) (qkn rfl rfl (qgx rfl qkm))) rfl ?_;refine su (vc rfl rfl) rfl ?_;refine sm rfl rfl ?_;refine sg rfl rfl (fun h => qp rfl rfl) rfl ?_;refine qcr rfl rfl rfl (v6 _ _) (fun h => qjb rfl K28 rfl (c28 x1) (qkn (gd h rfl) rfl qkm)) rfl ?_;refine sg rfl rfl (fun h => zu rfl (gd h rfl) rfl) rfl ?_;refine su (jr rfl rfl rfl rfl) rfl ?_;refine qc ?_;refine qh _ rfl (fun h4 => ?_) (fun h4 => ?_)
    ·replace h4 : ((!(s21 x1 8)) || (decide ((s28 x1) ≠ 0))) = true := h4;replace hR := zf hR h4;(try simp only [bB] at h4);refine qb ?_;refine qa [.p, .p] ?_;refine su (qf rfl qnw rfl (qpu) qi) rfl ?_;refine sa rfl rfl ?_;refine qc ?_;refine qo ?_;exact qhi (za rfl (rv_g rfl)) (congrArg (fun R_ => G.bool R_) (Option.some.inj hR))
    ·replace h4 : ((!(s21 x1 8)) || (decide ((s28 x1) ≠ 0))) = false := h4;replace hR := zi hR h4;(try simp only [bB] at h4);refine ql ?_;refine qb ?_;refine qa [.p, .p, .p, .p, .p, .p, .p, .p] ?_;refine su (qt rfl ty46 rfl rfl rfl) rfl ?_;refine sm rfl rfl ?_;refine su (qf rfl K29 rfl (c29' (⟨#[97]⟩) (⟨#[68]⟩) a0 a1) (qe rfl (qe rfl (qe rfl (qe rfl qi))))) rfl ?_;refine sm rfl rfl ?_;refine su (qz rfl rfl rfl) rfl ?_;refine su (qz rfl rfl rfl) rfl ?_;refine sa rfl rfl ?_;refine sa rfl rfl ?_;refine qc ?_;refine qb ?_;refine Exists.elim (qj hR) (fun r6 hq_ => ?_);have br6 := hq_.1;replace hR := hq_.2;clear hq_;refine jf [.p, .p, .p, .p, .p, .p, .p, .p, .p, .p] (by kernel_rfl) ?_;refine su (qf rfl qz1 rfl (q1p ) qi) rfl ?_;refine sm rfl rfl ?_;refine su (qd rfl qda rfl) rfl ?_;refine su (qg rfl ty26 rfl) rfl ?_;refine su (qf rfl K72 rfl (c72 s2012 ((s29 (⟨#[97]⟩) (⟨#[68]⟩) a0 a1).1) a2.Notes (q1e hp hm0 hm1 (by omega)) (qzi _ _ _ _) (by omega) br6) (qe rfl (qe rfl (qe rfl qi)))) rfl ?_;refine sm rfl rfl ?_;refine su (qz rfl rfl rfl) rfl ?_;refine su (qz rfl rfl rfl) rfl ?_;refine sa rfl rfl ?_;refine sa rfl rfl ?_;refine qc ?_;refine qb ?_;refine qb ?_;refine qa [.p, .p, .p, .p, .p, .p, .p, .p, .p, .p, .p, .p, .p, .p, .p, .p, .p, .p, .p] ?_;refine sm rfl rfl ?_;refine sm rfl rfl ?_;refine su (jx rfl rfl rfl) rfl ?_;refine su (zu rfl rfl rfl) rfl ?_;refine sm rfl rfl ?_;refine sg rfl rfl (fun h => qk rfl rfl) rfl ?_;refine sg rfl rfl (fun h => qx rfl (gd h rfl) rfl) rfl ?_;refine su (jr rfl rfl rfl rfl) rfl ?_;refine sm rfl rfl ?_;refine sg rfl rfl (fun h => qk rfl rfl) rfl ?_;refine sg rfl rfl (fun h => jg rfl (gd h rfl) rfl) rfl ?_;refine su (jr rfl rfl rfl rfl) rfl ?_;refine sm rfl rfl ?_;refine sg rfl rfl (fun h => qk rfl rfl) rfl ?_;refine sg rfl rfl (fun h => qd rfl qe4 rfl) rfl ?_;refine sg rfl rfl (fun h => qg rfl ty3 (gd h rfl)) rfl ?_;refine sg rfl rfl (fun h => qev rfl (gd h rfl) (gd h rfl)) rfl ?_;refine sg rfl rfl (fun h => zu rfl (gd h rfl) rfl) rfl ?_;refine su (jr rfl rfl rfl rfl) rfl ?_;refine qc ?_;refine qh _ rfl (fun h5 => ?_) (fun h5 => ?_)
     ·replace h5 : ((((decide (IntKind.i64.wrap (((s29 (⟨#[97]⟩) (⟨#[68]⟩) a0 a1).2) + r6.2) ≠ 0)) || (decide (r6.1 < 0))) || (decide (127 < r6.1))) || (decide (andNotI r6.1 a0.Days ≠ 0))) = true := h5;replace hR := zf hR h5;(try simp only [bB] at h5);refine qb ?_;refine qa [.p] ?_;refine sa rfl rfl ?_;refine qc ?_;refine qo ?_;exact qhi (za rfl (rv_g rfl)) (congrArg (fun R_ => G.bool R_) (Option.some.inj hR))
     ·replace h5 : ((((decide (IntKind.i64.wrap (((s29 (⟨#[97]⟩) (⟨#[68]⟩) a0 a1).2) + r6.2) ≠ 0)) || (decide (r6.1 < 0))) || (decide (127 < r6.1))) || (decide (andNotI r6.1 a0.Days ≠ 0))) = false := h5;replace hR := zi hR h5;(try simp only [bB] at h5);refine ql ?_;refine qb ?_;refine qb ?_;refine qa [.p, .p] ?_;refine sm rfl rfl ?_;refine su (j9 rfl rfl rfl) rfl ?_;refine qc ?_;refine qh _ rfl (fun h6 => ?_) (fun h6 => ?_)
      ·replace h6 : (decide (r6.1 = 0)) = true := h6;replace hR := zf hR h6;(try simp only [bB] at h6);refine qb ?_;refine qa [.p, .p] ?_;refine su (qf rfl qnw rfl (qpu) qi) rfl ?_;refine sa rfl rfl ?_;refine qc ?_;refine qo ?_;exact qhi (za rfl (rv_g rfl)) (congrArg (fun R_ => G.bool R_) (Option.some.inj hR))
      ·replace h6 : (decide (r6.1 = 0)) = false := h6;replace hR := zi hR h6;(try simp only [bB] at h6);refine ql ?_;refine qb ?_;refine qa [.p, .w, .w] ?_;refine su (qt rfl ty46 rfl rfl rfl) rfl ?_;refine sw (zr 14 rfl z46 rfl rfl) rfl ?_;refine ji rfl rfl (qy (tv := .g (G.agg [G.int a0.fFrom, G.int a0.fTo, G.int a0.Days])) rfl ty46 rfl rfl rfl rfl rfl) ?_;refine qc ?_;refine qb ?_;refine qa [.p, .p, .w] ?_;refine sm rfl rfl ?_;refine su (zo rfl qe4 rfl) rfl ?_;refine ji rfl rfl (qy (tv := .g (G.int r6.1)) rfl ty3 rfl rfl rfl rfl rfl) ?_;refine qc ?_;refine qb ?_;refine Exists.elim (qj hR) (fun r7 hq_ => ?_);have br7 := hq_.1;replace hR := hq_.2;clear hq_;refine qa [.r, .p, .p, .p, .p, .p, .p, .p, .p] ?_;refine sr (zw rfl ty46 rfl rfl rfl rfl) rfl ?_;refine su (qd rfl qf2 rfl) rfl ?_;refine su (qt rfl ty68 rfl rfl rfl) rfl ?_;refine su (qf rfl K39 rfl (c39 (S45.mk a0.fFrom a0.fTo r6.1) (S67.mk a2.Season.Year a2.Season.Kind) br7) (qe rfl (qe rfl qi))) rfl ?_;refine sm rfl rfl ?_;refine su (qz rfl rfl rfl) rfl ?_;refine su (qz rfl rfl rfl) rfl ?_;refine sa rfl rfl ?_;refine sa rfl rfl ?_;refine qc ?_;refine qb ?_;refine Exists.elim (qj hR) (fun r8 hq_ => ?_);have br8 := hq_.1;replace hR := hq_.2;clear hq_;refine jf [.p, .r, .p, .p, .p, .p, .p, .p, .p, .p, .p, .p, .p, .p, .p] (by kernel_rfl) ?_;refine su (qf rfl qz1 rfl (q1p ) qi) rfl ?_;refine sr (zw rfl ty46 rfl rfl rfl rfl) rfl ?_;refine sm rfl rfl ?_;refine su (jy rfl z116 rfl q2t (zx rfl (zx rfl (zx rfl (zx rfl vy)))) rfl) rfl ?_;refine su (qq rfl Tryz.underlying57 qe1 z116 rfl (qu rfl j5) rfl (by exact lens rfl) (by decide)) rfl ?_;refine su (qd rfl qda rfl) rfl ?_;refine su (qg rfl ty26 rfl) rfl ?_;refine su (qd rfl qf2 rfl) rfl ?_;refine su (qt rfl ty68 rfl rfl rfl) rfl ?_;refine su (qf rfl K64 rfl (c64 s2012 [(S115.mk (⟨#[97]⟩) ByteArray.empty (⟨#[68]⟩) ByteArray.empty ByteArray.empty ByteArray.empty (S45.mk a0.fFrom a0.fTo r6.1) a1 0 0 0)] a2.Notes (S67.mk a2.Season.Year a2.Season.Kind) (q1f hp hm0 hm1 (by omega)) br8) (qe rfl (qe rfl (qe rfl (qe rfl qi))))) rfl ?_;refine sm rfl rfl ?_;refine su (qz rfl rfl rfl) rfl ?_;refine su (qz rfl rfl rfl) rfl ?_;refine sa rfl rfl ?_;refine sa rfl rfl ?_;refine qc ?_;refine qb ?_;refine qb ?_;refine qa [.p, .p, .p] ?_;refine sm rfl rfl ?_;refine sm rfl rfl ?_;refine su (zu rfl rfl rfl) rfl ?_;refine qc ?_;refine qh _ rfl (fun h7 => ?_) (fun h7 => ?_)
       ·replace h7 : (decide (r7.2 ≠ r8.2)) = true := h7;replace hR := zf hR h7;(try simp only [bB] at h7);refine qb ?_;refine qa [.p] ?_;refine sa rfl rfl ?_;refine qc ?_;refine qo ?_;exact qhi (za rfl (rv_g rfl)) (congrArg (fun R_ => G.bool R_) (Option.some.inj hR))
       ·replace h7 : (decide (r7.2 ≠ r8.2)) = false := h7;replace hR := zi hR h7;(try simp only [bB] at h7);refine ql ?_;refine qb ?_;refine qb ?_;refine qa [.p, .p] ?_;refine sm rfl rfl ?_;refine su (zu rfl rfl rfl) rfl ?_;refine qc ?_;refine qh _ rfl (fun h8 => ?_) (fun h8 => ?_)
        ·replace h8 : (decide (r7.2 ≠ 0)) = true := h8;replace hR := zf hR h8;(try simp only [bB] at h8);refine qb ?_;refine qa [.p, .p, .p, .p, .p, .p, .p, .p, .p, .p] ?_;refine sm rfl rfl ?_;refine su (j9 rfl rfl rfl) rfl ?_;refine sm rfl rfl ?_;refine sg rfl rfl (fun h => qk rfl rfl) rfl ?_;refine sg rfl rfl (fun h => j9 rfl (gd h rfl) rfl) rfl ?_;refine su (jr rfl rfl rfl rfl) rfl ?_;refine sm rfl rfl ?_;refine sg rfl rfl (fun h => qf rfl qnw rfl (qpu) qi) rfl ?_;refine su (zl rfl rfl rfl rfl) rfl ?_;refine sa rfl rfl ?_;refine qc ?_;refine qo ?_;exact qhi (za rfl (rv_g rfl)) (congrArg (fun R_ => G.bool R_) (Option.some.inj hR))
        ·replace h8 : (decide (r7.2 ≠ 0)) = false := h8;replace hR := zi hR h8;(try simp only [bB] at h8);refine ql ?_;refine qb ?_;refine qb ?_;refine Exists.elim (qj hR) (fun y9 hq_ => ?_);have by9 := hq_.1;replace hR := hq_.2;clear hq_;refine Exists.elim (qj hR) (fun y10 hq_ => ?_);have by10 := hq_.1;replace hR := hq_.2;clear hq_;refine Exists.elim (qj hR) (fun r11 hq_ => ?_);have br11 := hq_.1;replace hR := hq_.2;clear hq_;refine qa [.p, .p, .p, .p, .p, .p, .p, .p, .p, .p, .p, .p, .p, .p, .p, .p, .p, .p, .p] ?_;refine sm rfl rfl ?_;refine su (zb (f := S131.c) (l := r8.1) rfl Tryz.underlying52 rfl) rfl ?_;refine su (zu rfl rfl rfl) rfl ?_;refine sm rfl rfl ?_;refine sg rfl rfl (fun h => qk rfl rfl) rfl ?_;refine sg rfl rfl (fun h => jb (f := S131.c) (l := r8.1) (a := y9) rfl Tryz.underlying52 qwg (gd h rfl) rfl (jd (qfn by9 h)) (qv (qfn by9 h))) rfl ?_;refine sg rfl rfl (fun h => qd rfl qwe (gd h rfl)) rfl ?_;refine sg rfl rfl (fun h => qg rfl ty9 (gd h rfl)) rfl ?_;refine sg rfl rfl (fun h => kw rfl (gd h rfl) rfl) rfl ?_;refine su (jr rfl rfl rfl rfl) rfl ?_;refine sm rfl rfl ?_;refine sg rfl rfl (fun h => qk rfl rfl) rfl ?_;refine sg rfl rfl (fun h => jb (f := S131.c) (l := r8.1) (a := y10) rfl Tryz.underlying52 qwg (gd h rfl) rfl (jd (qfn by10 h)) (qv (qfn by10 h))) rfl ?_;refine sg rfl rfl (fun h => qd rfl qwf (gd h rfl)) rfl ?_;refine sg rfl rfl (fun h => qg rfl ty69 (gd h rfl)) rfl ?_;refine sg rfl rfl (fun h => qk rfl rfl) rfl ?_;refine sg rfl rfl (fun h => qf rfl K43 rfl (c43 y10.Periods r7.1 (qfn br11 h)) (qe (gd h rfl) (qe (gd h rfl) qi))) rfl ?_;refine sg rfl rfl (fun h => vc rfl (gd h rfl)) rfl ?_;refine su (jr rfl rfl rfl rfl) rfl ?_;refine qc ?_;refine qh _ rfl (fun h9 => ?_) (fun h9 => ?_)
         ·replace h9 : (((decide ((List.length r8.1 : Int) ≠ 1)) || (!decide (y9.Name = (⟨#[97]⟩)))) || (!r11)) = true := h9;replace hR := zf hR h9;(try simp only [bB] at h9);refine qb ?_;refine qa [.p] ?_;refine sa rfl rfl ?_;refine qc ?_;refine qo ?_;exact qhi (za rfl (rv_g rfl)) (congrArg (fun R_ => G.bool R_) (Option.some.inj hR))
         ·replace h9 : (((decide ((List.length r8.1 : Int) ≠ 1)) || (!decide (y9.Name = (⟨#[97]⟩)))) || (!r11)) = false := h9;replace hR := zi hR h9;(try simp only [bB] at h9);refine ql ?_;refine qb ?_;refine qb ?_;refine qa [.p, .p, .p] ?_;refine sm rfl rfl ?_;refine su (zb (f := S45.c) (l := r7.1) rfl Tryz.underlying49 rfl) rfl ?_;refine sm rfl rfl ?_;refine qc ?_;refine qm ?_;refine qr (γ := Nat × (List S45)) (fun g => ([(12, .g (G.int r6.1)), (151, .g (G.sl 3 (List.map S45.c r7.1))), (152, .g (G.int (List.length r7.1 : Int))), (153, .g (G.int ((g.1 : Nat) : Int)))], [])) (fun g => r7.1.drop g.1 = g.2 ∧ s2003_l2 r6 g.2 g.1 = some R) (fun g => List.length g.2) ⟨rfl, (0, r7.1), ⟨rfl, rfl, rfl, rfl, trivial⟩, trivial, rfl, ⟨rfl, hR⟩, trivial⟩ ?_
          ·rintro ⟨k13, t15⟩ ⟨hd2, hR⟩;replace hd2 : r7.1.drop k13 = t15 := hd2;replace hR : s2003_l2 r6 t15 k13 = some R := hR;refine qb ?_;refine qa [.p] ?_;refine su (qx rfl rfl rfl) rfl ?_;refine qc ?_;refine zj (f := S45.c) (l := r7.1) 151 rfl fun hlz2 => ?_;refine qb ?_;refine qh _ rfl (fun h10 => ?_) (fun h10 => ?_)
           ·replace h10 : (decide (((k13 : Nat) : Int) < (List.length r7.1 : Int))) = true := h10;obtain ⟨y14, t15, rfl, hx2, hd2⟩ := zk hd2 (decT h10);replace h10 := decT h10;rw [s2003_l2] at hR;(try dsimp only at hR);refine ql ?_;refine qb ?_;refine qm ?_;refine qb ?_;refine qa [.p, .p, .w, .w] ?_;refine su (jb (f := S45.c) (l := r7.1) (a := y14) rfl Tryz.underlying49 ty46 rfl rfl (Int.natCast_nonneg _) hx2) rfl ?_;refine su (qt rfl ty46 rfl rfl rfl) rfl ?_;refine sw (zr 20 rfl z46 rfl rfl) rfl ?_;refine ji rfl rfl (qy (tv := .g (G.agg [G.int y14.fFrom, G.int y14.fTo, G.int y14.Days])) rfl ty46 rfl rfl rfl rfl rfl) ?_;refine qc ?_;refine qb ?_;refine qa [.p, .r, .p, .p, .p] ?_;refine su (zo rfl qe4 rfl) rfl ?_;refine sr (jl rfl ty3 rfl rfl rfl) rfl ?_;refine sm rfl rfl ?_;refine su (qev rfl rfl rfl) rfl ?_;refine su (zu rfl rfl rfl) rfl ?_;refine qc ?_;refine qh _ rfl (fun h12 => ?_) (fun h12 => ?_)
            ·replace h12 : (decide (andNotI y14.Days r6.1 ≠ 0)) = true := h12;replace hR := zf hR h12;(try simp only [bB] at h12);refine qb ?_;refine qa [.p] ?_;refine sa rfl rfl ?_;refine qc ?_;refine qo ?_;exact qhi (za rfl (rv_g rfl)) (congrArg (fun R_ => G.bool R_) (Option.some.inj hR))
            ·replace h12 : (decide (andNotI y14.Days r6.1 ≠ 0)) = false := h12;replace hR := zi hR h12;(try simp only [bB] at h12);refine ql ?_;refine qa [.p, .p] ?_;refine su (zg rfl rfl rfl iE) rfl ?_;refine sm rfl rfl ?_;refine qc ?_;exact ⟨rfl, (k13 + 1, t15), ⟨rfl, rfl, rfl, rfl, trivial⟩, trivial, rfl, ⟨hd2, hR⟩, by simp⟩
           ·replace h10 : (decide (((k13 : Nat) : Int) < (List.length r7.1 : Int))) = false := h10;obtain rfl := zt hd2 (decF h10);rw [s2003_l2] at hR;refine zc ?_;refine qb ?_;refine qa [.p, .p] ?_;refine su (qf rfl qnw rfl (qpu) qi) rfl ?_;refine sa rfl rfl ?_;refine qc ?_;refine qo ?_;exact qhi (za rfl (rv_g rfl)) (congrArg (fun R_ => G.bool R_) (Option.some.inj hR))
theorem qmk {α : Type} {b : Bool} {u v : Option α} {R : α} (h : (bif b then u else v) = some R) : (b = true ∧ u = some R) ∨ (b = false ∧ v = some R) := by
 cases b
 ·exact .inr ⟨rfl, h⟩
 ·exact .inl ⟨rfl, h⟩
theorem qci {a0 : List Int} (hr : ∀ d ∈ a0, 0 ≤ d ∧ d ≤ 99999) (hlen : a0.length ≤ 401) : ∀ (l : List Int) (k : Nat) (x : List S45) (n : Int) (R : List S45), s112_l1 a0 l k x n = some R → (∀ o ∈ x, ∃ w, o.Days = mkS a0 w) → ∀ o ∈ R, ∃ w, o.Days = mkS a0 w
 | [], k, x, n, R, h, hx => by
  rw [s112_l1] at h
  cases h
  exact hx
 | y :: l, k, x, n, R, h, hx => by
  have hset : ∀ (i : Int) (z : S45) (u : Int), ixO x i = some z → ∀ o ∈ List.set x i.toNat (S45.mk z.fFrom u z.Days), ∃ w, o.Days = mkS a0 w := fun i z u hz o ho => by
   rcases List.mem_or_eq_of_mem_set ho with ho | rfl
   ·exact hx o ho
   ·exact hx z (List.mem_of_getElem? (qv hz))
  rw [s112_l1] at h;obtain ⟨y9, _, h⟩ := qj h
  rcases qmk h with ⟨_, h⟩ | ⟨_, h⟩
  ·obtain ⟨y10, h10, h⟩ := qj h;exact qci hr hlen l _ _ _ R h (hset _ _ _ h10)
  ·obtain ⟨y11, _, h⟩ := qj h;obtain ⟨y12, _, h⟩ := qj h
   rcases qmk h with ⟨_, h⟩ | ⟨_, h⟩
   ·obtain ⟨y13, h13, h⟩ := qj h;exact qci hr hlen l _ _ _ R h (hset _ _ _ h13)
   ·refine qci hr hlen l _ _ _ R h fun o ho => ?_
    rcases List.mem_append.1 ho with ho | ho
    ·exact hx o ho
    ·rw [List.mem_singleton.1 ho];exact ⟨s163 y, qet _ hr hlen⟩
theorem qrw {own q : S67} {p : S45} {y : Int} {R : List S45} (hp : s102 p = 0) (hs : okS q) (hy : p.Days = y) (hR : s112 (eqvL own q (s104 p)) = some R) (hown : ∀ d ∈ s104 p, beg own ≤ d) : ∀ o ∈ R, ∀ j < 7, bitB o.Days j = true → bitB y j = true := by
 have bs := qbu hs
 have asc : (s104 p).Pairwise (· < ·) := by rw [qcy p hp]; exact w7 _ _ _
 have hl : (eqvL own q (s104 p)).length ≤ 401 := by
  have := (wo hp).1;have h9 := List.length_filter_le (fun v => decide (v < nxt q)) ((s104 p).map (eqv own q));rw [List.length_map] at h9;unfold eqvL
  omega
 have hasc : (eqvL own q (s104 p)).Pairwise (· < ·) := by
  unfold eqvL;exact List.Pairwise.filter _ (List.pairwise_map.2 (asc.imp fun h => by unfold eqv; omega))
 have hr : ∀ v ∈ eqvL own q (s104 p), 0 ≤ v ∧ v ≤ 99999 := fun v hv => by
  obtain ⟨hv1, hv2⟩ := List.mem_filter.1 hv;obtain ⟨d, hd1, rfl⟩ := List.mem_map.1 hv1;have := hown d hd1
  have hv2 : eqv own q d < nxt q := by simpa using hv2
  unfold eqv at *
  omega
 intro o ho j hj hb;unfold s112 at hR;obtain ⟨w, hw⟩ := qci hr hl _ _ _ _ R hR (fun o ho => by cases ho) o ho;unfold bitB at hb;rw [hw] at hb;obtain ⟨v, hv, _, hv2⟩ := (qkv w _ _ rfl hasc j hj).1 hb;obtain ⟨hv1, _⟩ := List.mem_filter.1 hv;obtain ⟨d, hd, rfl⟩ := List.mem_map.1 hv1;have hm := qyh own q d
 have hwd : wd d = (j : Int) := by unfold wd at *; omega
 rw [qcy p hp, hy] at hd;have := qdl hd;rw [qcz, show (wd d).toNat = j by omega] at this;exact this
def redQ (p : S45) (m y : Int) : S115 := S115.mk n97 ByteArray.empty k68 ByteArray.empty ByteArray.empty ByteArray.empty (S45.mk p.fFrom p.fTo y) m 0 0 0
theorem qu2 {p : S45} {m y : Int} (hl : s102 (S45.mk p.fFrom p.fTo y) = 0) (hm0 : 100 ≤ m) (hm1 : m ≤ 1300) : s134 [redQ p m y] = 0 := by
 unfold s134;rw [decide_eq_false (by simp), cond_false, s134_l1]
 have e : s84 [(s87 n97), (s86 (s184 (List.take (Int.toNat ((0 : Nat) : Int)) [redQ p m y]) (fun x0 => s185 x0 (redQ p m y))) 9), (s101 k68), (s102 (S45.mk p.fFrom p.fTo y)), (s85 m 0 1439)] = 0 := by
  refine qyi fun x hx => ?_;have h2 : s86 (s184 (List.take (Int.toNat ((0 : Nat) : Int)) [redQ p m y]) (fun x0 => s185 x0 (redQ p m y))) 9 = 0 := rfl;simp only [List.mem_cons, List.not_mem_nil, or_false] at hx
  rcases hx with rfl | rfl | rfl | rfl | rfl
  ·exact ql5
  ·exact h2
  ·exact qg6
  ·exact hl
  ·exact qi6 (by omega) (by omega)
 show (bif decide (s84 [(s87 n97), (s86 (s184 (List.take (Int.toNat ((0 : Nat) : Int)) [redQ p m y]) (fun x0 => s185 x0 (redQ p m y))) 9), (s101 k68), (s102 (S45.mk p.fFrom p.fTo y)), (s85 m 0 1439)] ≠ 0) then _ else s134_l1 [redQ p m y] [] (0 + 1)) = 0;rw [e]
 rfl
theorem qfw {p : S45} {m : Int} {y : Nat} {l : List S104} {q : S67} {r : List S45 × Int} (hp : RedP p) (hm0 : 100 ≤ m) (hm1 : m ≤ 1300) (hl : s27 l = 0) (hq : okS q) (hless : s102 (S45.mk p.fFrom p.fTo y) = 0) (hy : y < 128) (hy0 : y ≠ 0)
  (hsub : ∀ d, inM y d = true → inM p.Days d = true)
  (hk : ∀ j < 7, bitB (y : Int) j = true → 0 < (dayP p).countP (fun d => decide (wd d = (j : Int)) && isD (stW2 n97 k68 m l d)) ∧
   80 * (dayP p).countP (fun d => decide (wd d = (j : Int)) && isD (stW2 n97 k68 m l d)) ≤ 100 * (dayP p).countP (fun d => decide (wd d = (j : Int)) && isF (stW2 n97 k68 m l d)))
  (hR : s108 (S45.mk p.fFrom p.fTo y) q = some r) : s64 s2012 [redQ p m y] l q = bif decide (r.2 ≠ 0) then some ([], r.2) else some ([S131.mk n97 r.1], 0) := by
 have hD : dayP (S45.mk p.fFrom p.fTo y) = (dayP p).filter (inM y) := qmb hsub _ _;have hlen : (dayP p).length ≤ 41 := qg5 hp _
 have e124 : s124 s2012 (s103 n97 k68 (S45.mk p.fFrom p.fTo y) m) l = some (((dayP p).filter (inM y)).map (stW2 n97 k68 m l)) := by
  rw [qfr l hless hm0 hm1, hD]
 have hlen2 : (((dayP p).filter (inM y)).map (stW2 n97 k68 m l)).length ≤ 41 := by
  rw [List.length_map];exact Nat.le_trans (List.length_filter_le _ _) hlen
 have e58 := qqx (((dayP p).filter (inM y)).map (stW2 n97 k68 m l)) 0 0 0 (by omega) (by omega) (by omega) (by omega)
 have err : s84 [s23 s2012, s134 [redQ p m y], s27 l, s107 q] = 0 := by
  rw [qdk, qu2 hless hm0 hm1, hl, qkr hq]; rfl
 unfold s64;rw [err, decide_eq_false (by decide), cond_false, s64_l1];show bindO (s124 s2012 (s103 n97 k68 (S45.mk p.fFrom p.fTo y) m) l) _ = _;rw [e124];simp only [bindO];rw [qq8 _ s2012 q [] 0 (redQ p m y) _ 0 0 0 0 _ e58, s64_l2];have hsum := qtj (y := (y : Int)) (F := fun d => isF (stW2 n97 k68 m l d)) (U := fun d => isD (stW2 n97 k68 m l d)) (D := dayP p) (fun j hj hb => (hk j hj hb).2) 7 (Nat.le_refl _);rw [← qrc, ← qrc] at hsum
 have hpos : 0 < ((dayP p).filter (inM y)).countP (fun d => isD (stW2 n97 k68 m l d)) := by
  obtain ⟨j, hj, hb⟩ : ∃ j, j < 7 ∧ bitB (y : Int) j = true := by
   by_cases he : ∃ j, j < 7 ∧ bitB (y : Int) j = true
   ·exact he
   ·exfalso
    have hz : ∀ y < 128, (∀ j < 7, y.testBit j = false) → y = 0 := by decide +kernel
    refine hy0 (hz y hy fun j hj => ?_)
    cases ht : y.testBit j
    ·rfl
    ·exact absurd ⟨j, hj, by unfold bitB; rw [qhd y hy j hj]; exact ht⟩ he
  exact qyo hb (hk j hj hb).1
 have c1 := List.countP_le_length (p := fun d => isF (stW2 n97 k68 m l d)) (l := (dayP p).filter (inM y));have c2 := List.countP_le_length (p := fun d => isD (stW2 n97 k68 m l d)) (l := (dayP p).filter (inM y));have c3 := List.length_filter_le (inM y) (dayP p)
 have eF : (((dayP p).filter (inM y)).map (stW2 n97 k68 m l)).countP isF = ((dayP p).filter (inM y)).countP (fun d => isF (stW2 n97 k68 m l d)) := by rw [List.countP_map]; rfl
 have eU : (((dayP p).filter (inM y)).map (stW2 n97 k68 m l)).countP isD = ((dayP p).filter (inM y)).countP (fun d => isD (stW2 n97 k68 m l d)) := by rw [List.countP_map]; rfl
 rw [eF, eU];generalize ((dayP p).filter (inM y)).countP (fun d => isF (stW2 n97 k68 m l d)) = u at *;generalize ((dayP p).filter (inM y)).countP (fun d => isD (stW2 n97 k68 m l d)) = v at *
 have e106 : s106 s2012 (S55.mk (0 + (u : Int)) (0 + (v : Int))) = true := by
  unfold s106;show (decide (0 < 0 + (v : Int)) && decide (IntKind.i64.wrap (80 * (0 + (v : Int))) ≤ IntKind.i64.wrap (100 * (0 + (u : Int))))) = true;rw [wrap_i64 (n := 80 * (0 + (v : Int))) ⟨by omega, by omega⟩, wrap_i64 (n := 100 * (0 + (u : Int))) ⟨by omega, by omega⟩, decide_eq_true (by omega), decide_eq_true (by omega)]; rfl
 show (bif !(s106 s2012 (S55.mk (0 + (u : Int)) (0 + (v : Int)))) then _ else bindO (s108 (S45.mk p.fFrom p.fTo y) q) _) = _;rw [e106, hR]
 cases hd : decide (r.2 ≠ 0)
 ·show (bif decide (r.2 ≠ 0) then some ([], r.2) else some ([] ++ [S131.mk n97 r.1], 0)) = _;rw [hd]; rfl
 ·show (bif decide (r.2 ≠ 0) then some ([], r.2) else some ([] ++ [S131.mk n97 r.1], 0)) = _;rw [hd]; rfl
theorem qv8 (a0 : S45) (a1 : Int) (a2 : S2027) : ∀ (l : List S104) (k : Nat) (x : List S104), s2003_l1 a0 a1 a2 l k x = s2003_l1 a0 a1 a2 [] 0 (x ++ l)
 | [], k, x => by rw [List.append_nil, s2003_l1, s2003_l1]
 | y :: l, k, x => by
  have e : s2003_l1 a0 a1 a2 (y :: l) k x = s2003_l1 a0 a1 a2 l (k + 1) (x ++ [y]) := by rw [s2003_l1]
  rw [e, qv8 a0 a1 a2 l, List.append_assoc]; rfl
theorem qv9 (r6 : Int × Int) : ∀ (R : List S45) (k : Nat), (∀ o ∈ R, andNotI o.Days r6.1 = 0) → s2003_l2 r6 R k = some s2007
 | [], k, _ => by rw [s2003_l2]
 | o :: R, k, h => by
  rw [s2003_l2, decide_eq_false (by rw [h o List.mem_cons_self]; simp), cond_false];exact qv9 r6 R _ fun o ho => h o (List.mem_cons_of_mem _ ho)
theorem qzq {a0 : S45} {a1 : Int} {a2 : S2027} (hp : RedP a0) (hm0 : 100 ≤ a1) (hm1 : a1 ≤ 1300) (hq : okS (S67.mk a2.Season.Year a2.Season.Kind)) : s2003_l1 a0 a1 a2 [] 0 a2.Notes = some true := by
 have h7 : s2007 = true := qgw;rw [s2003_l1, h7]
 cases hc : (!(s21 a2.Notes 8)) || (decide ((s28 a2.Notes) ≠ 0))
 ·rw [cond_false];simp only [Bool.or_eq_false_iff, decide_eq_false_iff_not] at hc
  have h27 : s27 a2.Notes = 0 := by
   have h := qql a2.Notes;rw [qvj] at h
   omega
  have h122 := q1g ql5 qg6 hp hm0 hm1 h27;have e29 : s29 (⟨#[97]⟩) (⟨#[68]⟩) a0 a1 = (s103 n97 k68 a0 a1, 0) := qqu _ _ ql5 qg6 hp hm0 hm1;obtain ⟨y, e72, hy, hk⟩ := qtk a2.Notes h122 hp hm0 hm1;rw [e29];show bindO (s72 s2012 (s103 n97 k68 a0 a1) a2.Notes) _ = _;rw [e72];simp only [bindO];have hpo := period_ok a0 hp.1
  have hbits : ∀ j < 7, bitB (y : Int) j = true → bitB a0.Days j = true := fun j hj hb => by
   have := (hk j hj hb).1;rw [List.countP_pos_iff] at this;obtain ⟨d, hd, h⟩ := this;rw [Bool.and_eq_true, decide_eq_true_eq] at h;have := qdl hd;rw [qcz, show (wd d).toNat = j by omega] at this;exact this
  have hand : andNotI (y : Int) a0.Days = 0 := qi7 ⟨by omega, by omega⟩ ⟨by omega, by omega⟩ hbits
  have c1 : (((decide (IntKind.i64.wrap ((0 : Int) + 0) ≠ 0) || decide ((y : Int) < 0)) || decide (127 < (y : Int))) || decide (andNotI (y : Int) a0.Days ≠ 0)) = false := by
   rw [hand, decide_eq_false (show ¬ (y : Int) < 0 by omega), decide_eq_false (show ¬ 127 < (y : Int) by omega)]; rfl
  rw [c1, cond_false]
  by_cases hy0 : y = 0
  ·rw [decide_eq_true (by omega), cond_true]
  ·rw [decide_eq_false (by omega), cond_false];have hless : s102 (S45.mk a0.fFrom a0.fTo (y : Int)) = 0 := qq4 hpo.1 hpo.2.1 hpo.2.2.1 hpo.2.2.2.1 (by omega) (by omega)
   have hsub : ∀ d, inM (y : Int) d = true → inM a0.Days d = true := fun d h => by
    have hw := qc8 d;rw [qcz] at h ⊢;exact hbits _ (by omega) h
   rcases qth hless hq with ⟨e, he, hne, h1⟩ | ⟨own, R, ho, h1, h2, h3, h4, h5, h6⟩
   ·have e64 := qfw hp hm0 hm1 h27 hq hless hy hy0 hsub hk h1
    have hz : decide (e ≠ 0) = true := by rcases he with rfl | rfl <;> rfl
    have hz2 : (decide (e = 30) || decide (e = 13)) = true := by rcases he with rfl | rfl <;> rfl
    rw [qq7 hless hq h1]
    simp only
    show bindO (s64 s2012 [redQ a0 a1 (y : Int)] a2.Notes (S67.mk a2.Season.Year a2.Season.Kind)) _ = _;rw [e64, hz, cond_true];simp only [bindO];rw [decide_eq_false (by simp), cond_false, cond_true, hz2]; rfl
   ·have e64 := qfw hp hm0 hm1 h27 hq hless hy hy0 hsub hk h1;rw [qq7 hless hq h1]
    simp only
    show bindO (s64 s2012 [redQ a0 a1 (y : Int)] a2.Notes (S67.mk a2.Season.Year a2.Season.Kind)) _ = _;rw [e64, decide_eq_false (show ¬ (R, (0 : Int)).2 ≠ 0 from fun h => h rfl), cond_false];have i0 : ixO [S131.mk n97 R] 0 = some (S131.mk n97 R) := rfl;have e2 : decide (((List.length [S131.mk n97 R] : Nat) : Int) ≠ 1) = false := rfl;have e4 : decide ((S131.mk n97 R).Name = (⟨#[97]⟩ : ByteArray)) = true := decide_eq_true rfl
    have fin : s2003_l2 ((y : Int), 0) R 0 = some true := by
     rw [qv9 ((y : Int), 0) R 0, h7];intro o hoR;have hod := period_ok o (h3 o hoR);exact qi7 ⟨by omega, by omega⟩ ⟨by omega, by omega⟩ (qrw hless hq rfl h2 h6 o hoR)
    simp only [bindO];rw [decide_eq_false (show ¬ (0 : Int) ≠ 0 by decide)];simp only [cond_false, e2, Bool.not_false, cond_true, i0, bindO, e4, Bool.not_true, Bool.or_self, Bool.false_or, qte, decide_true, decide_not, Bool.not_true, Bool.not_false];exact fin
 ·rw [cond_true]
theorem qm9 (a0 : S45) (a1 : Int) (a2 : S2027) : s2003 a0 a1 a2 = some true := by
 unfold s2003
 cases hc : ((!(s2005 a0 a1)) || (decide ((s41 (S67.mk a2.Season.Year a2.Season.Kind)) ≠ 0))) || (decide (8 < (List.length a2.Notes : Int)))
 ·rw [cond_false];simp only [Bool.or_eq_false_iff, Bool.not_eq_false', decide_eq_false_iff_not] at hc;obtain ⟨hp, hm0, hm1, _⟩ := qv1 hc;have hq : okS (S67.mk a2.Season.Year a2.Season.Kind) := q1c (by rw [qiy]; exact Decidable.not_not.1 hc.1.2);rw [qv8, List.nil_append];exact qzq hp hm0 hm1 hq
 ·rw [cond_true, qgw]
end Go.Sim
