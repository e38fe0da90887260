/-
  What is proved: lemmas and contracts of functions on the way to the law useRights (part 10).
-/
import Derived.Test.YtdfgeoefbbkcnaaGreatDoorVrA9
import Derived.Test.YtdfgeoefbbkcnaaGreatDoorVrA4
import Derived.Scope
import Derived.Test.YtdfgeoefbbkcnaaGreatDoorVrA8
set_option linter.unusedSectionVars false
set_option linter.unusedSimpArgs false
set_option linter.unusedVariables false
set_option linter.unnecessarySimpa false
set_option linter.deprecated false
namespace Go.Sim
def lp (y : Int) : Int := bif s224 y then 1 else 0
theorem wa (y : Int) : 0 ≤ lp y ∧ lp y ≤ 1 := by unfold lp; cases s224 y <;> decide
theorem qoq (y : Int) : s198 y = 365 + lp y := by unfold s198 lp; cases s224 y <;> rfl
theorem qor (y : Int) : s222 y = s198 y := rfl
def Dy : Nat → Int
 | 0 => 0
 | n + 1 => Dy n + s198 (2000 + (n : Int))
theorem qdx : ∀ n : Nat, 365 * (n : Int) ≤ Dy n ∧ Dy n ≤ 366 * (n : Int)
 | 0 => by simp [Dy]
 | n + 1 => by
  have h1 := qdx n;have h2 := qa1 (2000 + (n : Int));rw [Dy]; omega
theorem qcf : ∀ (n k : Nat) (x : Int), 0 ≤ x → x + 366 * (n : Int) ≤ 1000000000 → s200_l2 n x (2000 + (k : Int)) = x + (Dy (k + n) - Dy k)
 | 0, k, x, _, _ => by rw [s200_l2]; simp
 | n + 1, k, x, h0, h1 => by
  have h2 := qa1 (2000 + (k : Int));rw [s200_l2, wrap_i64 ⟨by omega, by omega⟩]
  have e : (2000 + (k : Int)) + 1 = 2000 + ((k + 1 : Nat) : Int) := by omega
  rw [e, qcf n (k + 1) _ (by omega) (by omega), Dy]
  have e2 : k + 1 + n = k + (n + 1) := by omega
  rw [e2]; omega
theorem qe2 (y m : Int) : ∀ (n k : Nat) (x : Int), 0 ≤ x → x + 366 * (n : Int) ≤ 1000000000 → k + n ≤ 1000000 → s221_l1 y m n x (k : Int) = s221_l2 y ((m - 1).toNat) (x + (Dy (k + n) - Dy k)) 1
 | 0, k, x, _, _, _ => by rw [s221_l1]; simp
 | n + 1, k, x, h0, h1, h3 => by
  have h2 := qa1 (2000 + (k : Int));rw [s221_l1, wrap_i64 (n := 2000 + (k : Int)) ⟨by omega, by omega⟩, qor, wrap_i64 ⟨by omega, by omega⟩]
  have e : (k : Int) + 1 = ((k + 1 : Nat) : Int) := by omega
  rw [e, qe2 y m n (k + 1) _ (by omega) (by omega) (by omega), Dy]
  have e2 : k + 1 + n = k + (n + 1) := by omega
  rw [e2]
  congr 1
  omega
def N3 (y : Int) : Int := 89 + lp y + Dy (y - 2000).toNat
def N10 (y : Int) : Int := 303 + lp y + Dy (y - 2000).toNat
theorem qr3 (y : Int) : s199 y 2 = 28 + lp y := by unfold s199 lp; cases s224 y <;> rfl
theorem qf6 {y : Int} (h : 2000 ≤ y) (h' : y ≤ 3000) : 80 ≤ N3 y ∧ N3 y ≤ 1000000 ∧ 80 ≤ N10 y ∧ N10 y ≤ 1000000 := by
 have h1 := wa y;have h2 := qdx (y - 2000).toNat;unfold N3 N10
 omega
theorem w4 {y : Int} (h : 2000 ≤ y) : ((y - 2000).toNat : Int) = y - 2000 := Int.toNat_of_nonneg (by omega)
theorem qr4 {y : Int} (h : 2000 ≤ y) (h' : y ≤ 3000) : s200 y 3 31 = N3 y := by
 have h1 := wa y;have hn := w4 h;have h5 := qcf (y - 2000).toNat 0 (89 + lp y) (by omega) (by omega)
 have e1 : s199 y 1 = 31 := by simp [s199]
 unfold s200;show s200_l1 y 2 (IntKind.i64.wrap (31 - 1)) 1 = _;rw [wrap_i64 ⟨by omega, by omega⟩, s200_l1, e1, wrap_i64 ⟨by omega, by omega⟩, s200_l1, show (1 : Int) + 1 = 2 from rfl, qr3, wrap_i64 ⟨by omega, by omega⟩, s200_l1]
 have e3 : (31 : Int) - 1 + 31 + (28 + lp y) = 89 + lp y := by omega
 rw [e3]
 have h6 : s200_l2 (y - 2000).toNat (89 + lp y) 2000 = 89 + lp y + (Dy (0 + (y - 2000).toNat) - Dy 0) := by simpa using h5
 rw [h6, Nat.zero_add];unfold N3
 simp [Dy]
theorem qos {y : Int} (h : 2000 ≤ y) (h' : y ≤ 3000) : s200 y 10 31 = N10 y := by
 have h1 := wa y;have hn := w4 h;have h5 := qcf (y - 2000).toNat 0 (303 + lp y) (by omega) (by omega)
 have e1 : s199 y 1 = 31 := by simp [s199]
 have e3 : s199 y 3 = 31 := by simp [s199]
 have e4 : s199 y 4 = 30 := by simp [s199]
 have e5 : s199 y 5 = 31 := by simp [s199]
 have e6 : s199 y 6 = 30 := by simp [s199]
 have e7 : s199 y 7 = 31 := by simp [s199]
 have e8 : s199 y 8 = 31 := by simp [s199]
 have e9 : s199 y 9 = 30 := by simp [s199]
 unfold s200;show s200_l1 y 9 (IntKind.i64.wrap (31 - 1)) 1 = _;rw [wrap_i64 ⟨by omega, by omega⟩, s200_l1, e1, wrap_i64 ⟨by omega, by omega⟩, s200_l1, show (1 : Int) + 1 = 2 from rfl, qr3, wrap_i64 ⟨by omega, by omega⟩];rw [s200_l1, show (2 : Int) + 1 = 3 from rfl, e3, wrap_i64 ⟨by omega, by omega⟩, s200_l1, show (3 : Int) + 1 = 4 from rfl, e4, wrap_i64 ⟨by omega, by omega⟩];rw [s200_l1, show (4 : Int) + 1 = 5 from rfl, e5, wrap_i64 ⟨by omega, by omega⟩, s200_l1, show (5 : Int) + 1 = 6 from rfl, e6, wrap_i64 ⟨by omega, by omega⟩];rw [s200_l1, show (6 : Int) + 1 = 7 from rfl, e7, wrap_i64 ⟨by omega, by omega⟩, s200_l1, show (7 : Int) + 1 = 8 from rfl, e8, wrap_i64 ⟨by omega, by omega⟩];rw [s200_l1, show (8 : Int) + 1 = 9 from rfl, e9, wrap_i64 ⟨by omega, by omega⟩, s200_l1]
 have e : (31 : Int) - 1 + 31 + (28 + lp y) + 31 + 30 + 31 + 30 + 31 + 31 + 30 = 303 + lp y := by omega
 rw [e]
 have h6 : s200_l2 (y - 2000).toNat (303 + lp y) 2000 = 303 + lp y + (Dy (0 + (y - 2000).toNat) - Dy 0) := by simpa using h5
 rw [h6, Nat.zero_add];unfold N10
 simp [Dy]
theorem qla {y : Int} (h : 2000 ≤ y) (h' : y ≤ 3000) : (0 ≤ s200 y 3 31 ∧ s200 y 3 31 ≤ 1000000000) ∧ (s200 y 3 31 + 6) % 7 ≤ s200 y 3 31 ∧ (0 ≤ s200 y 10 31 ∧ s200 y 10 31 ≤ 1000000000) ∧ (s200 y 10 31 + 6) % 7 ≤ s200 y 10 31 := by
 have := qf6 h h';rw [qr4 h h', qos h h']
 omega
theorem quh (x : Int) : s180 x < 7 := by unfold s180; exact Int.tmod_lt_of_pos _ (by decide)
theorem qlb {d : Int} (h : s153 d = 0) : 0 ≤ d ∧ d ≤ 99999 := by
 unfold s153 s155 s154 at h
 by_cases h1 : d < 0
 ·simp [h1] at h
 ·by_cases h2 : 99999 < d
  ·simp [h2] at h
  ·omega
end Go.Sim
set_option maxRecDepth 10000
namespace Go.Sim
open Go.Proofs
def s111 (a0 : S67) : Option S45 :=
 (bif decide (a0.Kind = (⟨#[83]⟩)) then bindO (s162 a0.Year 3) fun r1 => bindO (s162 a0.Year 10) fun r2 => some (S45.mk r1 (IntKind.i64.wrap (r2 - 1)) 127) else bindO (s162 a0.Year 10) fun r3 => bindO (s162 (IntKind.i64.wrap (a0.Year + 1)) 3) fun r4 => some (S45.mk r3 (IntKind.i64.wrap (r4 - 1)) 127))
theorem c111 {g : List (Nat × List Value)} (a0 : S67) {R : S45}  (hy1 : 2000 ≤ a0.Year) (hy2 : a0.Year ≤ 2999) (hR : s111 a0 = some R) : Con (EG g) 111 [G.agg [G.int a0.Year, G.str a0.Kind]] (G.agg [G.int R.fFrom, G.int R.fTo, G.int R.Days]) := by
 unfold s111 at hR;refine qn Tryz.func111 rfl rfl fun w0 M0 => ?_;obtain ⟨hq1, hq2, hq3, hq4⟩ := qla (y := a0.Year) hy1 (by omega);have hwy := wrap_i64 (n := a0.Year + 1) ⟨by omega, by omega⟩;obtain ⟨hq5, hq6, hq7, hq8⟩ := qla (y := IntKind.i64.wrap (a0.Year + 1)) (by omega) (by omega);refine qb (qa [.p, .w] (su (zl rfl rfl) rfl (sw (zq 2 rfl z46 rfl rfl) rfl (qc (qb (qb ?_))))));refine qa [.p, .p, .p] (su (qd rfl qhn rfl) rfl (su (qf rfl ty9 rfl) rfl (su (jr rfl rfl rfl) rfl (qc (qj _ rfl (fun h1 => ?_) (fun h1 => ?_))))))
 ·replace h1 : (decide (a0.Kind = (⟨#[83]⟩))) = true := h1;replace hR := zj hR h1;(try simp only [bB] at h1);refine qb ?_;obtain ⟨r1, br1, hR⟩ := qk hR;obtain ⟨r2, br2, hR⟩ := qk hR;refine zu [.p, .p, .p, .p, .p, .p, .p, .p, .w] (by kernel_rfl) (su (qd rfl qhm rfl) rfl (su (qf rfl ty3 rfl) rfl (su (qg rfl K162 rfl (c162 a0.Year 3 iA iA iA iA br1) (qe rfl (qe rfl qm))) rfl (su (qd rfl qhm rfl) rfl (su (qf rfl ty3 rfl) rfl (su (qg rfl K162 rfl (c162 a0.Year 10 iA iA iA iA br2) (qe rfl (qe rfl qm))) rfl ?_))))));refine su (jb rfl rfl rfl) rfl (su (je rfl z46 rfl pl46 (zr rfl (zr rfl (zr rfl kw))) rfl) rfl (jf rfl rfl (za (tv := .g (G.agg [G.int r1, G.int (IntKind.i64.wrap (r2 - 1)), G.int 127])) rfl ty46 rfl rfl rfl rfl rfl) (qc (qo ?_))));obtain rfl := Option.some.inj hR;exact zb rfl (kx rfl rfl ty46 rfl rfl)
 ·replace h1 : (decide (a0.Kind = (⟨#[83]⟩))) = false := h1;replace hR := zk hR h1;(try simp only [bB] at h1);refine ql (qb ?_);obtain ⟨r3, br3, hR⟩ := qk hR;obtain ⟨r4, br4, hR⟩ := qk hR;refine zu [.p, .p, .p, .p, .p, .p, .p, .p, .p, .w] (by kernel_rfl) (su (qd rfl qhm rfl) rfl (su (qf rfl ty3 rfl) rfl (su (qg rfl K162 rfl (c162 a0.Year 10 iA iA iA iA br3) (qe rfl (qe rfl qm))) rfl (su (qd rfl qhm rfl) rfl (su (qf rfl ty3 rfl) rfl (su (z6 rfl rfl rfl) rfl ?_))))));refine su (qg rfl K162 rfl (c162 (IntKind.i64.wrap (a0.Year + 1)) 3 iA iA iA iA br4) (qe rfl (qe rfl qm))) rfl (su (jb rfl rfl rfl) rfl (su (je rfl z46 rfl pl46 (zr rfl (zr rfl (zr rfl kw))) rfl) rfl (jf rfl rfl (za (tv := .g (G.agg [G.int r3, G.int (IntKind.i64.wrap (r4 - 1)), G.int 127])) rfl ty46 rfl rfl rfl rfl rfl) (qc (qo ?_)))));obtain rfl := Option.some.inj hR;exact zb rfl (kx rfl rfl ty46 rfl rfl)
def s158 (a0 : Int) : Option (S67 × Int) :=
 (bif decide ((s153 a0) ≠ 0) then some ((S67.mk 0 ByteArray.empty), (s153 a0)) else bindO (s138 s193) fun r1 => bindO (bif !(decide (a0 < r1)) then s138 (s139 s194) else some default) fun r2 => (bif (decide (a0 < r1)) || (decide (r2 ≤ a0)) then some ((S67.mk 0 ByteArray.empty), 30) else bindO (s195 a0) fun r3 => bindO (s189 r3.1 3) fun r4 => (bif decide (a0 < r4) then some ((S67.mk (IntKind.i64.wrap (r3.1 - 1)) (⟨#[87]⟩)), 0) else bindO (s189 r3.1 10) fun r5 => (bif decide (a0 < r5) then some ((S67.mk r3.1 (⟨#[83]⟩)), 0) else some ((S67.mk r3.1 (⟨#[87]⟩)), 0)))))
theorem c158 (a0 : Int) {R : S67 × Int}   (hR : s158 a0 = some R) : Con (EG glT) 158 [G.int a0] (G.tup [G.agg [G.int R.1.Year, G.str R.1.Kind], G.int R.2]) := by
 unfold s158 at hR;refine qn Tryz.func158 rfl rfl fun w0 M0 => ?_;refine qb (qa [.w, .p] (sw (zq 2 rfl z68 rfl rfl) rfl (sa rfl rfl (qc (qb (qb ?_))))));refine qa [.p, .p, .p] (sm rfl rfl (su (qg rfl K153 rfl (c153 a0) (qe rfl qm)) rfl (sa rfl rfl (qc (qb (qa [.p, .p] ?_))))));refine sm rfl rfl (su (jg rfl rfl rfl) rfl (qc (qj _ rfl (fun h1 => ?_) (fun h1 => ?_))))
 ·replace h1 : (decide ((s153 a0) ≠ 0)) = true := h1;replace hR := zj hR h1;(try simp only [bB] at h1);refine qb (qa [.p, .p, .w, .p] (su (je rfl z68 rfl pl68 kw rfl) rfl (sm rfl rfl (jf rfl rfl (za (tv := .g (G.agg [G.int 0, G.str ByteArray.empty])) rfl ty68 rfl rfl rfl rfl rfl) (sa rfl rfl (qc ?_))))));refine qo ?_;obtain rfl := Option.some.inj hR;exact resN rfl ⟨kx rfl rfl ty68 rfl rfl, rv_g rfl, trivial⟩ (by simp)
 ·replace h1 : (decide ((s153 a0) ≠ 0)) = false := h1;replace hR := zk hR h1;(try simp only [bB] at h1);have hdr := qlb (d := a0) (by omega);refine ql (qb (qb ?_));obtain ⟨r1, br1, hR⟩ := qk hR;obtain ⟨r2, br2, hR⟩ := qk hR;refine qa [.p, .p, .p, .p, .p, .p, .p, .p, .p, .p, .p] (sm rfl rfl (su (qg rfl K193 rfl (c193 ) qm) rfl (su (qg rfl K138 rfl (c138 s193 br1) (qe rfl qm)) rfl (su (qu rfl rfl rfl) rfl (sm rfl rfl (sg rfl rfl (fun h => qh rfl rfl) rfl ?_))))));refine sg rfl rfl (fun h => qg rfl K194 rfl (c194 ) qm) rfl (sg rfl rfl (fun h => qg rfl K139 rfl (c139 s194) (qe (gd h rfl) qm)) rfl (sg rfl rfl (fun h => qg rfl K138 rfl (c138 (s139 s194) (qej br2 h)) (qe (gd h rfl) qm)) rfl (sg rfl rfl (fun h => ko rfl (gd h rfl) (gd h rfl)) rfl (su (jj rfl rfl rfl rfl) rfl (qc (qj _ rfl (fun h2 => ?_) (fun h2 => ?_)))))))
  ·replace h2 : ((decide (a0 < r1)) || (decide (r2 ≤ a0))) = true := h2;replace hR := zj hR h2;(try simp only [bB] at h2);refine qb (qa [.p, .w, .p] (su (je rfl z68 rfl pl68 kw rfl) rfl (jf rfl rfl (za (tv := .g (G.agg [G.int 0, G.str ByteArray.empty])) rfl ty68 rfl rfl rfl rfl rfl) (sa rfl rfl (qc (qo ?_))))));obtain rfl := Option.some.inj hR;exact resN rfl ⟨kx rfl rfl ty68 rfl rfl, rv_g rfl, trivial⟩ (by simp)
  ·replace h2 : ((decide (a0 < r1)) || (decide (r2 ≤ a0))) = false := h2;replace hR := zk hR h2;(try simp only [bB] at h2);refine ql (qb ?_);obtain ⟨r3, br3, hR⟩ := qk hR;refine qa [.p, .p, .p, .p] (sm rfl rfl (su (qg rfl K195 rfl (c195 a0 iA iA br3) (qe rfl qm)) rfl (su (qnq rfl Tryz.underlying239 ty3 rfl rfl (by decide) (by decide) rfl) rfl (sa rfl rfl (qc (qb ?_))))));refine qi (qb ?_);obtain ⟨r4, br4, hR⟩ := qk hR;refine qa [.p, .p, .p, .p, .p] (sm rfl rfl (sm rfl rfl (su (qg rfl K189 rfl (c189 r3.1 3 iA br4) (qe rfl (qe rfl qm))) rfl (su (qu rfl rfl rfl) rfl (sa rfl rfl (qc ?_))))));refine qj _ rfl (fun h3 => ?_) (fun h3 => ?_)
   ·replace h3 : (decide (a0 < r4)) = true := h3;replace hR := zj hR h3;(try simp only [bB] at h3);refine qb (qa [.p, .p, .p, .w, .p] (sm rfl rfl (su (jb rfl rfl rfl) rfl (su (je rfl z68 rfl pl68 (zr rfl (zr rfl kw)) rfl) rfl (jf rfl rfl (za (tv := .g (G.agg [G.int (IntKind.i64.wrap (r3.1 - 1)), G.str (⟨#[87]⟩)])) rfl ty68 rfl rfl rfl rfl rfl) (sa rfl rfl ?_))))));refine qc (qo ?_);obtain rfl := Option.some.inj hR;exact resN rfl ⟨kx rfl rfl ty68 rfl rfl, rv_g rfl, trivial⟩ (by simp)
   ·replace h3 : (decide (a0 < r4)) = false := h3;replace hR := zk hR h3;(try simp only [bB] at h3);refine qb ?_;obtain ⟨r5, br5, hR⟩ := qk hR;refine qa [.p, .p, .p, .p, .p] (sm rfl rfl (sm rfl rfl (su (qg rfl K189 rfl (c189 r3.1 10 iA br5) (qe rfl (qe rfl qm))) rfl (su (qu rfl rfl rfl) rfl (sa rfl rfl (qc ?_))))));refine qj _ rfl (fun h4 => ?_) (fun h4 => ?_)
    ·replace h4 : (decide (a0 < r5)) = true := h4;replace hR := zj hR h4;(try simp only [bB] at h4);refine qb (qa [.p, .p, .w, .p] (sm rfl rfl (su (je rfl z68 rfl pl68 (zr rfl (zr rfl kw)) rfl) rfl (jf rfl rfl (za (tv := .g (G.agg [G.int r3.1, G.str (⟨#[83]⟩)])) rfl ty68 rfl rfl rfl rfl rfl) (sa rfl rfl (qc ?_))))));refine qo ?_;obtain rfl := Option.some.inj hR;exact resN rfl ⟨kx rfl rfl ty68 rfl rfl, rv_g rfl, trivial⟩ (by simp)
    ·replace h4 : (decide (a0 < r5)) = false := h4;replace hR := zk hR h4;(try simp only [bB] at h4);refine ql (qb (qa [.p, .p, .w, .p] (sm rfl rfl (su (je rfl z68 rfl pl68 (zr rfl (zr rfl kw)) rfl) rfl (jf rfl rfl (za (tv := .g (G.agg [G.int r3.1, G.str (⟨#[87]⟩)])) rfl ty68 rfl rfl rfl rfl rfl) (sa rfl rfl ?_))))));refine qc (qo ?_);obtain rfl := Option.some.inj hR;exact resN rfl ⟨kx rfl rfl ty68 rfl rfl, rv_g rfl, trivial⟩ (by simp)
def s159 (a0 : Int) (a1 : S67) : Option (Int × Int) :=
 bindO (s158 a0) fun r1 => (bif decide ((s152 [r1.2, (s107 a1), (s154 (!decide (r1.1.Kind = a1.Kind)) 13)]) ≠ 0) then some (0, (s152 [r1.2, (s107 a1), (s154 (!decide (r1.1.Kind = a1.Kind)) 13)])) else bindO (s138 a1) fun r2 => bindO (s138 r1.1) fun r3 => bindO (s138 (s139 a1)) fun r4 => (bif decide (r4 ≤ IntKind.i64.wrap ((IntKind.i64.wrap (r2 + a0)) - r3)) then some (0, 7) else some (IntKind.i64.wrap ((IntKind.i64.wrap (r2 + a0)) - r3), 0)))
theorem c159 (a0 : Int) (a1 : S67) {R : Int × Int}   (hR : s159 a0 a1 = some R) : Con (EG glT) 159 [G.int a0, G.agg [G.int a1.Year, G.str a1.Kind]] (G.tup [G.int R.1, G.int R.2]) := by
 unfold s159 at hR;refine qn Tryz.func159 rfl rfl fun w0 M0 => ?_;refine qb (qa [.p, .p, .p] (su (zl rfl rfl) rfl (sa rfl rfl (sa rfl rfl (qc (qb ?_))))));obtain ⟨r1, br1, hR⟩ := qk hR;refine qa [.p, .p, .p, .p, .p, .w, .w, .p] (sm rfl rfl (su (qg rfl K158 rfl (c158 a0 br1) (qe rfl qm)) rfl (sm rfl rfl (su (zo rfl rfl rfl) rfl (su (zo rfl rfl rfl) rfl (sw (zq 6 rfl z68 rfl rfl) rfl ?_))))));refine jf rfl rfl (za (tv := .g (G.agg [G.int r1.1.Year, G.str r1.1.Kind])) rfl ty68 rfl rfl rfl rfl rfl) (sa rfl rfl (qc (qb (qb (zu [.p, .p, .p, .p, .r, .p, .p, .p, .p, .p, .p, .p] (by kernel_rfl) (sm rfl rfl ?_))))));refine su (qt rfl ty68 rfl rfl rfl) rfl (su (qg rfl K107 rfl (c107 a1) (qe rfl qm)) rfl (su (zg rfl qbt rfl) rfl (sr (z4 rfl ty9 rfl rfl rfl) rfl (su (qd rfl qbt rfl) rfl (su (qf rfl ty9 rfl) rfl (su (j7 rfl rfl rfl) rfl ?_))))));refine su (qg rfl K154 rfl (c154 (!decide (r1.1.Kind = a1.Kind)) 13) (qe rfl (qe rfl qm))) rfl (su (qr rfl Tryz.underlying170 ty37 z37 rfl (qy rfl (qy rfl (qy rfl jc))) rfl (by simp []) (by decide)) rfl (su (qg rfl K152 rfl (c152 [r1.2, (s107 a1), (s154 (!decide (r1.1.Kind = a1.Kind)) 13)]) (qe rfl qm)) rfl (sa rfl rfl (qc (qb (qa [.p, .p] ?_))))));refine sm rfl rfl (su (jg rfl rfl rfl) rfl (qc (qj _ rfl (fun h1 => ?_) (fun h1 => ?_))))
 ·replace h1 : (decide ((s152 [r1.2, (s107 a1), (s154 (!decide (r1.1.Kind = a1.Kind)) 13)]) ≠ 0)) = true := h1;replace hR := zj hR h1;(try simp only [bB] at h1);refine qb (qa [.p, .p, .p] (sm rfl rfl (sa rfl rfl (sa rfl rfl (qc (qo ?_))))));obtain rfl := Option.some.inj hR;exact resN rfl ⟨rv_g rfl, rv_g rfl, trivial⟩ (by simp)
 ·replace h1 : (decide ((s152 [r1.2, (s107 a1), (s154 (!decide (r1.1.Kind = a1.Kind)) 13)]) ≠ 0)) = false := h1;replace hR := zk hR h1;(try simp only [bB] at h1);refine ql (qb ?_);obtain ⟨r2, br2, hR⟩ := qk hR;obtain ⟨r3, br3, hR⟩ := qk hR;refine zu [.p, .p, .p, .p, .r, .p, .p, .p] (by kernel_rfl) (su (qt rfl ty68 rfl rfl rfl) rfl (su (qg rfl K138 rfl (c138 a1 br2) (qe rfl qm)) rfl (sm rfl rfl (su (z6 rfl rfl rfl) rfl (sr (zx rfl ty68 rfl rfl rfl rfl) rfl (su (qg rfl K138 rfl (c138 r1.1 br3) (qe rfl qm)) rfl ?_))))));refine su (jb rfl rfl rfl) rfl (sa rfl rfl (qc (qb (qb ?_))));obtain ⟨r4, br4, hR⟩ := qk hR;refine qa [.p, .p, .p, .p, .p] (sm rfl rfl (su (qt rfl ty68 rfl rfl rfl) rfl (su (qg rfl K139 rfl (c139 a1) (qe rfl qm)) rfl (su (qg rfl K138 rfl (c138 (s139 a1) br4) (qe rfl qm)) rfl (su (ko rfl rfl rfl) rfl (qc ?_))))));refine qj _ rfl (fun h2 => ?_) (fun h2 => ?_)
  ·replace h2 : (decide (r4 ≤ IntKind.i64.wrap ((IntKind.i64.wrap (r2 + a0)) - r3))) = true := h2;replace hR := zj hR h2;(try simp only [bB] at h2);refine qb (qa [.p, .p] (sa rfl rfl (sa rfl rfl (qc (qo ?_)))));obtain rfl := Option.some.inj hR;exact resN rfl ⟨rv_g rfl, rv_g rfl, trivial⟩ (by simp)
  ·replace h2 : (decide (r4 ≤ IntKind.i64.wrap ((IntKind.i64.wrap (r2 + a0)) - r3))) = false := h2;replace hR := zk hR h2;(try simp only [bB] at h2);refine ql (qb (qa [.p, .p, .p] (sm rfl rfl (sa rfl rfl (sa rfl rfl (qc ?_))))));refine qo ?_;obtain rfl := Option.some.inj hR;exact resN rfl ⟨rv_g rfl, rv_g rfl, trivial⟩ (by simp)
section
variable {E : Env} {o : Oper} {ev : Operand → TV}
theorem qqu {α : Type} {f : α → List G} {l : List α} {t el : TypeId} {x hi mx : Operand} {k : Nat} {b : Bool} (ho : o.op = .slice t x none (some hi) (some mx)) (ht : E.P.underlying t = some (.slice el)) (hk : tyK E.P el = some (k, b)) (hx : ev x = .g (.sl k (l.map f)))
  (hhi : ev hi = .g (.int (l.length : Int))) (hmx : ev mx = .g (.int (l.length : Int))) (mem : Mem) : Eff E o mem ev (.g (.sl k (l.map f))) :=
 z7 (fun w M ρ e' he => by
  have h1 := he x (by rw [ho]; simp [Op.operands]);rw [hx] at h1;have g1 := he hi (by rw [ho]; simp [Op.operands]);rw [hhi] at g1;have g1' : e' hi = .int .i64 (l.length : Int) := g1;have g2 := he mx (by rw [ho]; simp [Op.operands]);rw [hmx] at g2;have g2' : e' mx = .int .i64 (l.length : Int) := g2;obtain ⟨ad, cap, h2, h3, h4, h5, h6⟩ := h1;rw [List.length_map] at h2 h3
  have hb : (Instr.sliceBounds true l.length cap none (some (.int .i64 (l.length : Int))) (some (.int .i64 (l.length : Int)))).run E.P w = .ok (0, l.length, l.length) w := by
   simp [Instr.sliceBounds, xu (P := E.P) (w := w) (show l.length ≤ l.length from Nat.le_refl _), xu (P := E.P) (w := w) h3]
  refine ⟨.slice (if l.length = 0 then ad else ad.map (·.add (0 * k))) (l.length - 0) (l.length - 0), ?_, (if l.length = 0 then ad else ad.map (·.add (0 * k))), l.length, ?_, ?_, ?_, h5, ?_⟩
  ·simp only [execOp, ho, h2, Instr.sliceAt, Instr.slice, Sem.run_bind, Sem.run_map, run_underlying ht, Result.andThen_ok, Option.map_none, Option.map_some, g1', g2', hb, run_sizeOf hk, Sem.run_pure]
  ·simp
  ·simp
  ·omega
  ·have e0 : (if l.length = 0 then ad else ad.map (·.add (0 * k))) = ad := by
    split
    ·rfl
    ·cases ad with
     | none => rfl
     | some a => simp [Addr.add]
   rw [e0]
   rcases h6 with ⟨h6, h7⟩ | h6
   ·refine .inl ⟨h6, fun hn => ?_⟩;have := h7 hn
    omega
   ·exact .inr h6) mem
theorem qot {t : TypeId} {x lo hi : Operand} {s : ByteArray} {ka kc : IntKind} {a c : Int} (ho : o.op = .slice t x (some lo) (some hi) none) (ht : E.P.underlying t = some .string) (hx : ev x = .g (.str s)) (hlo : ev lo = .g (.lit (.int ka a))) (hhi : ev hi = .g (.lit (.int kc c)))
  (h0 : 0 ≤ a) (hac : a ≤ c) (hcl : c ≤ (s.size : Int)) (mem : Mem) : Eff E o mem ev (.g (.str (s.extract a.toNat c.toNat))) :=
 z7 (fun w M ρ e' he => by
  have h1 := he x (by rw [ho]; simp [Op.operands]);rw [hx] at h1;have h1' : e' x = .string s := h1
  have hb := we (P := E.P) (isS := false) (w := w) (e' := e') (ρ := ρ) (M := M) (lo := some lo) (hi := some hi) (len := s.size) (cap := s.size) (xm hlo h0) (xm hhi (by omega)) (by omega) (by omega) (Nat.le_refl _) (fun y hy => he y (by
   rw [ho]
   rcases hy with h | h <;> cases h <;> simp [Op.operands]))
  refine ⟨.string (s.extract a.toNat c.toNat), ?_, rfl⟩;simp only [Option.map_some] at hb
  simp [execOp, ho, h1', Instr.sliceAt, Instr.slice, underlying, ht, hb]) mem
def ascope (Q : Exit → ASt → Prop) : Exit → ASt → Prop
 | .goto _, _ => False
 | e, s => Q e s
theorem qqv {w0 : World} {M0 : Nat → Prop} {c : Code} {Q : Exit → ASt → Prop} {s : ASt} (h : AWp E w0 M0 c (ascope Q) s) : AWp E w0 M0 (.scope c) Q s :=
 fun a w ha => wp_scope_straight (wp_mono (h a w ha) fun e a' w' ⟨s', h1, h2⟩ => by
  cases e <;> first | exact h2.elim | exact ⟨s', h1, h2⟩)
end
end Go.Sim
set_option maxRecDepth 10000
namespace Go.Sim
open Go.Proofs
def s110_l2 (rec1 : Int → Option (S67 × Bool)) (a0 : Int) (x2 : Int) : Nat → Int → Option (S67 × Bool)
 | 0, x4 => rec1 (x2 + 1)
 | k6 + 1, x4 => bindO (s111 (S67.mk x2 (ByteArray.extract (⟨#[83, 87]⟩) (Int.toNat x4) (Int.toNat (IntKind.i64.wrap (x4 + 1)))))) fun r7 => (bif (s157 r7 a0) then some ((S67.mk x2 (ByteArray.extract (⟨#[83, 87]⟩) (Int.toNat x4) (Int.toNat (IntKind.i64.wrap (x4 + 1))))), true) else s110_l2 rec1 a0 x2 k6 (x4 + 1))
def s110_l1 (a0 : Int) : Nat → Int → Option (S67 × Bool)
 | 0, x2 => some ((S67.mk 0 ByteArray.empty), false)
 | k3 + 1, x2 => s110_l2 (fun z0_ => s110_l1 a0 k3 z0_) a0 x2 (((2 : Int) - 0).toNat) 0
def s110 (a0 : Int) : Option (S67 × Bool) :=
 bindO (s161 a0) fun r1 => s110_l1 a0 ((((min 2272 r1.1) + 1) - (max 2000 (IntKind.i64.wrap (r1.1 - 1)))).toNat) (max 2000 (IntKind.i64.wrap (r1.1 - 1)))
theorem c110 {g : List (Nat × List Value)} (a0 : Int) {R : S67 × Bool}  (h0 : 0 ≤ a0) (h1 : a0 ≤ 100000) (hR : s110 a0 = some R) : Con (EG g) 110 [G.int a0] (G.tup [G.agg [G.int R.1.Year, G.str R.1.Kind], G.bool R.2]) := by
 unfold s110 at hR;refine qn Tryz.func110 rfl rfl fun w0 M0 => ?_;refine qb (qa [.w, .p] (sw (zq 2 rfl z74 rfl rfl) rfl (sa rfl rfl (qc (qb ?_)))));obtain ⟨r1, br1, hR⟩ := qk hR;refine qa [.p, .p, .p, .p] (sm rfl rfl (su (qg rfl K161 rfl (c161 a0 iA iA br1) (qe rfl qm)) rfl (su (qnq rfl Tryz.underlying239 ty3 rfl rfl (by decide) (by decide) rfl) rfl (sa rfl rfl (qc (qb ?_))))));refine qb (qa [.p, .p, .p, .p] (sm rfl rfl (su (jb rfl rfl rfl) rfl (su (qmr rfl rfl rfl) rfl (sa rfl rfl (qc ?_))))));refine qi (qq (γ := Nat × Int) (fun g => ([(0, .g (G.int a0)), (2, .ptr 2 0), (4, .g (G.int r1.1)), (5, .g (G.int g.2))], [(2, .box [.g (G.int 0), .g (G.str ByteArray.empty)])])) (fun g => g.1 = (((min 2272 r1.1) + 1) - g.2).toNat ∧ 2000 ≤ g.2 ∧ s110_l1 a0 g.1 g.2 = some R) (fun g => g.1) ⟨rfl, ((((min 2272 r1.1) + 1) - (max 2000 (IntKind.i64.wrap (r1.1 - 1)))).toNat, max 2000 (IntKind.i64.wrap (r1.1 - 1))), ⟨rfl, rfl, rfl, rfl, trivial⟩, ⟨rfl, trivial⟩, rfl, ⟨rfl, iD, (by exact hR)⟩, trivial⟩ ?_)
 ·rintro ⟨k3, x2⟩ ⟨hk1, iv1_0, hR⟩;replace hk1 : k3 = (((min 2272 r1.1) + 1) - x2).toNat := hk1;replace hR : s110_l1 a0 k3 x2 = some R := hR;replace iv1_0 : 2000 ≤ x2 := iv1_0;refine qb (qb (qa [.p, .p, .p, .p] (sm rfl rfl (sm rfl rfl (su (qsq rfl rfl rfl) rfl (su (j8 rfl rfl rfl) rfl ?_))))));refine qc (qj _ rfl (fun h1 => ?_) (fun h1 => ?_))
  ·replace h1 : (decide (x2 ≤ min 2272 r1.1)) = true := h1;replace h1 := decT h1;obtain ⟨k3, rfl⟩ : ∃ m, k3 = m + 1 := ⟨k3 - 1, by omega⟩;rw [s110_l1] at hR;(try dsimp only at hR);refine ql (qb (qi (qb (qa [.p] (sa rfl rfl (qc ?_))))));refine qi (qq (γ := Nat × Int) (fun g => ([(0, .g (G.int a0)), (2, .ptr 2 0), (4, .g (G.int r1.1)), (5, .g (G.int x2)), (6, .g (G.int g.2))], [(2, .box [.g (G.int 0), .g (G.str ByteArray.empty)])])) (fun g => g.1 = ((2 : Int) - g.2).toNat ∧ 0 ≤ g.2 ∧ s110_l2 (fun z0_ => s110_l1 a0 k3 z0_) a0 x2 g.1 g.2 = some R) (fun g => g.1) ⟨rfl, (((2 : Int) - 0).toNat, 0), ⟨rfl, rfl, rfl, rfl, rfl, trivial⟩, ⟨rfl, trivial⟩, rfl, ⟨rfl, iD, (by exact hR)⟩, trivial⟩ ?_)
   ·rintro ⟨k6, x4⟩ ⟨hk2, iv2_0, hR⟩;replace hk2 : k6 = ((2 : Int) - x4).toNat := hk2;replace hR : s110_l2 (fun z0_ => s110_l1 a0 k3 z0_) a0 x2 k6 x4 = some R := hR;replace iv2_0 : 0 ≤ x4 := iv2_0;refine qb (qb (qa [.p, .p] (sm rfl rfl (su (qu rfl rfl rfl) rfl (qc (qj _ rfl (fun h3 => ?_) (fun h3 => ?_)))))))
    ·replace h3 : (decide (x4 < 2)) = true := h3;replace h3 := decT h3;obtain ⟨k6, rfl⟩ : ∃ m, k6 = m + 1 := ⟨k6 - 1, by omega⟩;rw [s110_l2] at hR;(try dsimp only at hR);refine ql (qb (qi (qb ?_)));have hw := wrap_i64 (n := x4 + 1) ⟨by omega, by omega⟩;refine qa [.p, .p, .p, .p, .p, .p, .w, .w] (sm rfl rfl (sm rfl rfl (sm rfl rfl (su (z6 rfl rfl rfl) rfl (su (qot rfl Tryz.underlying9 rfl rfl rfl (by dsimp only; omega) (by dsimp only; omega) (by show IntKind.i64.wrap (x4 + 1) ≤ (2 : Int); omega)) rfl (su (je rfl z74 rfl pl74 (zr rfl (zr rfl kw)) rfl) rfl ?_))))));refine sw (zq 7 rfl z74 rfl rfl) rfl (jf rfl rfl (za (tv := .g (G.agg [G.int x2, G.str (ByteArray.extract (⟨#[83, 87]⟩) (Int.toNat x4) (Int.toNat (IntKind.i64.wrap (x4 + 1))))])) rfl ty74 rfl rfl rfl rfl rfl) (qc (qb ?_)));obtain ⟨r7, br7, hR⟩ := qk hR;refine qa [.r, .p, .p, .p] (sr (zx rfl ty74 rfl rfl rfl rfl) rfl (su (qg rfl K111 rfl (c111 (S67.mk x2 (ByteArray.extract (⟨#[83, 87]⟩) (Int.toNat x4) (Int.toNat (IntKind.i64.wrap (x4 + 1))))) iA iA br7) (qe rfl qm)) rfl (sm rfl rfl (su (qg rfl K157 rfl (c157 r7 a0) (qe rfl (qe rfl qm))) rfl (qc (qj _ rfl (fun h5 => ?_) (fun h5 => ?_)))))))
     ·replace h5 : ((s157 r7 a0)) = true := h5;replace hR := zj hR h5;(try simp only [bB] at h5);refine qb (qa [.r, .w, .p] (sr (zx rfl ty74 rfl rfl rfl rfl) rfl (jf rfl rfl (za (tv := .g (G.agg [G.int x2, G.str (ByteArray.extract (⟨#[83, 87]⟩) (Int.toNat x4) (Int.toNat (IntKind.i64.wrap (x4 + 1))))])) rfl ty74 rfl rfl rfl rfl rfl) (sa rfl rfl (qc (qo ?_))))));obtain rfl := Option.some.inj hR;exact resN rfl ⟨kx rfl rfl ty74 rfl rfl, rv_g rfl, trivial⟩ (by simp)
     ·replace h5 : ((s157 r7 a0)) = false := h5;replace hR := zk hR h5;(try simp only [bB] at h5);refine ql (qa [.p, .p, .p] (sm rfl rfl (su (zc rfl rfl rfl iG) rfl (sa rfl rfl (qc ?_)))));exact ⟨rfl, (k6, x4 + 1), ⟨rfl, rfl, rfl, rfl, rfl, trivial⟩, ⟨rfl, trivial⟩, rfl, ⟨iB, iB, hR⟩, by simp⟩
    ·replace h3 : (decide (x4 < 2)) = false := h3;replace h3 := decF h3
     obtain rfl : k6 = 0 := by omega
     rw [s110_l2] at hR;refine qw ?_;refine qa [.p, .p, .p] (sm rfl rfl (su (zc rfl rfl rfl iG) rfl (sa rfl rfl (qc ?_))));exact ⟨rfl, (k3, x2 + 1), ⟨rfl, rfl, rfl, rfl, trivial⟩, ⟨rfl, trivial⟩, rfl, ⟨iB, iB, hR⟩, by simp⟩
  ·replace h1 : (decide (x2 ≤ min 2272 r1.1)) = false := h1;replace h1 := decF h1
   obtain rfl : k3 = 0 := by omega
   rw [s110_l1] at hR;refine qw ?_;refine qb (qa [.p, .w, .p] (su (je rfl z74 rfl pl74 kw rfl) rfl (jf rfl rfl (za (tv := .g (G.agg [G.int 0, G.str ByteArray.empty])) rfl ty74 rfl rfl rfl rfl rfl) (sa rfl rfl (qc (qo ?_))))));obtain rfl := Option.some.inj hR;exact resN rfl ⟨kx rfl rfl ty74 rfl rfl, rv_g rfl, trivial⟩ (by simp)
def s197 (a0 : List S45) : List S45 :=
 a0
theorem c197 {g : List (Nat × List Value)} (a0 : List S45)    : Con (EG g) 197 [G.sl 3 (List.map S45.c a0)] (G.sl 3 (List.map S45.c (s197 a0))) := by
 generalize hR : s197 a0 = R;unfold s197 at hR;refine qn Tryz.func197 rfl rfl fun w0 M0 => ?_;refine zd (f := S45.c) (l := a0) 0 rfl fun hla0 => ?_;refine qb (qa [.p] (sa rfl rfl (qc (qb (qa [.p, .p, .p, .p, .p, .p, .p] (sm rfl rfl ?_))))));refine sm rfl rfl (su (qv (f := S45.c) (l := a0) rfl Tryz.underlying69 rfl) rfl (sm rfl rfl (su (qv (f := S45.c) (l := a0) rfl Tryz.underlying69 rfl) rfl (su (qqu (f := S45.c) (l := a0) rfl Tryz.underlying69 ty46 rfl rfl rfl) rfl (sa rfl rfl (qc ?_))))));refine qo ?_;subst hR;exact zb rfl (rv_g rfl)
def s164_j1 (rec1 : Nat → Int → Int) (k3 : Nat) (x6 : Int) : Int :=
 rec1 (k3 + 1) x6
def s164_l2 (rec1 : Nat → Int → Int) (x1 : Int) (k3 : Nat) : Nat → Int → Int → Int
 | 0, x7, x8 => s164_j1 rec1 k3 (IntKind.i64.wrap (x1 + x7))
 | k10 + 1, x7, x8 => s164_l2 rec1 x1 k3 k10 (IntKind.i64.wrap (2 * x7)) (x8 + 1)
def s164_l1 (a1 : Int) : List Int → Nat → Int → Int
 | [], k3, x1 => x1
 | y4 :: t5, k3, x1 => (bif decide ((s163 y4) = a1) then s164_l2 (fun k_ z0_ => s164_l1 a1 t5 k_ z0_) x1 k3 (((s180 y4) - 0).toNat) 1 0 else s164_j1 (fun k_ z0_ => s164_l1 a1 t5 k_ z0_) k3 x1)
def s164 (a0 : List Int) (a1 : Int) : Int :=
 s164_l1 a1 a0 0 0
theorem c164 {g : List (Nat × List Value)} (a0 : List Int) (a1 : Int)    : Con (EG g) 164 [G.sl 1 (List.map cInt a0), G.int a1] (G.int (s164 a0 a1)) := by
 generalize hR : s164 a0 a1 = R;unfold s164 at hR;refine qn Tryz.func164 rfl rfl fun w0 M0 => ?_;refine zd (f := cInt) (l := a0) 0 rfl fun hla0 => ?_;refine qb (qa [.p] (sa rfl rfl (qc (qb (qa [.p] (sa rfl rfl ?_))))));refine qc (qb (qb (qa [.p] (sa rfl rfl (qc (qi ?_))))));refine qq (γ := Nat × (List Int) × Int) (fun g => ([(0, .g (G.sl 1 (List.map cInt a0))), (1, .g (G.int a1)), (5, .g (G.int g.2.2)), (6, .g (G.int ((g.1 : Nat) : Int)))], [])) (fun g => a0.drop g.1 = g.2.1 ∧ s164_l1 a1 g.2.1 g.1 g.2.2 = R) (fun g => List.length g.2.1) ⟨rfl, (0, a0, 0), ⟨rfl, rfl, rfl, rfl, trivial⟩, trivial, rfl, ⟨rfl, hR⟩, trivial⟩ ?_
 ·rintro ⟨k3, t5, x1⟩ ⟨hd, hR⟩;replace hd : a0.drop k3 = t5 := hd;replace hR : s164_l1 a1 t5 k3 x1 = R := hR;refine qb (qb (qa [.p, .p, .p, .p] (sm rfl rfl (sm rfl rfl (su (qv (f := cInt) (l := a0) rfl Tryz.underlying82 rfl) rfl (su (qu rfl rfl rfl) rfl ?_))))));refine qc (zd (f := cInt) (l := a0) 0 rfl fun hlz1 => ?_);refine qj _ rfl (fun h1 => ?_) (fun h1 => ?_)
  ·replace h1 : (decide (((k3 : Nat) : Int) < (List.length a0 : Int))) = true := h1;obtain ⟨y4, t5, rfl, hx1, hd⟩ := ze hd (decT h1);replace h1 := decT h1;rw [s164_l1] at hR;(try dsimp only at hR);refine ql (ja (γ := Int) (fun g => ([(0, .g (G.sl 1 (List.map cInt a0))), (1, .g (G.int a1)), (5, .g (G.int g)), (6, .g (G.int ((k3 : Nat) : Int)))], [])) (fun g => s164_j1 (fun k_ z0_ => s164_l1 a1 t5 k_ z0_) k3 g = R) ?_ ?_)
   ·refine qi (qb (qa [.p, .p, .p, .p, .p, .p, .p] (sm rfl rfl (sm rfl rfl (su (zh (f := cInt) (l := a0) (a := y4) rfl Tryz.underlying82 ty3 rfl rfl (Int.natCast_nonneg _) hx1) rfl (su (qf rfl ty3 rfl) rfl ?_))))));refine su (qg rfl K163 rfl (c163 y4) (qe rfl qm)) rfl (sm rfl rfl (su (jh rfl rfl rfl) rfl (qc (qj _ rfl (fun h3 => ?_) (fun h3 => ?_)))))
    ·replace h3 : (decide ((s163 y4) = a1)) = true := h3;replace hR := zj hR h3;(try simp only [bB] at h3);refine qb (qa [.p] (sa rfl rfl (qc (qb (qb (qa [.p] ?_))))));refine sa rfl rfl (qc (qi (qq (γ := Nat × Int × Int) (fun g => ([(0, .g (G.sl 1 (List.map cInt a0))), (1, .g (G.int a1)), (5, .g (G.int x1)), (6, .g (G.int ((k3 : Nat) : Int))), (7, .g (G.int g.2.1)), (8, .g (G.int g.2.2))], [])) (fun g => g.1 = ((s180 y4) - g.2.2).toNat ∧ 0 ≤ g.2.2 ∧ s164_l2 (fun k_ z0_ => s164_l1 a1 t5 k_ z0_) x1 k3 g.1 g.2.1 g.2.2 = R) (fun g => g.1) ⟨rfl, (((s180 y4) - 0).toNat, 1, 0), ⟨rfl, rfl, rfl, rfl, rfl, rfl, trivial⟩, trivial, rfl, ⟨rfl, iD, hR⟩, trivial⟩ ?_)))
     ·rintro ⟨k10, x7, x8⟩ ⟨hk2, iv2_0, hR⟩;replace hk2 : k10 = ((s180 y4) - x8).toNat := hk2;replace hR : s164_l2 (fun k_ z0_ => s164_l1 a1 t5 k_ z0_) x1 k3 k10 x7 x8 = R := hR;replace iv2_0 : 0 ≤ x8 := iv2_0;refine qb (qb (qa [.p, .p, .p, .p, .p, .p, .p] (sm rfl rfl (sm rfl rfl (sm rfl rfl (su (zh (f := cInt) (l := a0) (a := y4) rfl Tryz.underlying82 ty3 rfl rfl (Int.natCast_nonneg _) hx1) rfl ?_))))));refine su (qf rfl ty3 rfl) rfl (su (qg rfl K180 rfl (c180 y4) (qe rfl qm)) rfl (su (qu rfl rfl rfl) rfl (qc (qj _ rfl (fun h4 => ?_) (fun h4 => ?_)))))
      ·replace h4 : (decide (x8 < (s180 y4))) = true := h4;replace h4 := decT h4;obtain ⟨k10, rfl⟩ : ∃ m, k10 = m + 1 := ⟨k10 - 1, by omega⟩;rw [s164_l2] at hR;(try dsimp only at hR);refine ql (qb (qi (qa [.p, .p, .p] (sm rfl rfl (su (qa2 rfl rfl rfl) rfl (sa rfl rfl ?_))))));refine qc ?_;have h7 := quh y4;refine qa [.p, .p, .p] (sm rfl rfl (su (zc rfl rfl rfl iG) rfl (sa rfl rfl (qc ?_))));exact ⟨rfl, (k10, IntKind.i64.wrap (2 * x7), x8 + 1), ⟨rfl, rfl, rfl, rfl, rfl, rfl, trivial⟩, trivial, rfl, ⟨iB, iB, hR⟩, by simp⟩
      ·replace h4 : (decide (x8 < (s180 y4))) = false := h4;replace h4 := decF h4
       obtain rfl : k10 = 0 := by omega
       rw [s164_l2] at hR;refine qw ?_;refine qa [.p, .p, .p, .p] (sm rfl rfl (sm rfl rfl (su (z6 rfl rfl rfl) rfl (sa rfl rfl (qc ?_)))));exact ⟨rfl, IntKind.i64.wrap (x1 + x7), ⟨rfl, rfl, rfl, rfl, trivial⟩, trivial, rfl, hR, trivial⟩
    ·replace hR := zk hR h3;refine ql ?_;exact ⟨rfl, x1, ⟨rfl, rfl, rfl, rfl, trivial⟩, trivial, rfl, hR, trivial⟩
   ·rintro x6 hR;replace hR : s164_j1 (fun k_ z0_ => s164_l1 a1 t5 k_ z0_) k3 x6 = R := hR;unfold s164_j1 at hR;refine qa [.p, .p, .p] (sm rfl rfl (su (zc rfl rfl rfl iE) rfl (sa rfl rfl (qc ?_))));exact ⟨rfl, (k3 + 1, t5, x6), ⟨rfl, rfl, rfl, rfl, trivial⟩, trivial, rfl, ⟨hd, hR⟩, by simp⟩
  ·replace h1 : (decide (((k3 : Nat) : Int) < (List.length a0 : Int))) = false := h1;obtain rfl := zm hd (decF h1);rw [s164_l1] at hR;refine qw ?_;refine qb (qa [.p, .p] (sm rfl rfl (sa rfl rfl (qc (qo ?_)))));subst hR;exact zb rfl (rv_g rfl)
theorem qqw {l : List Int} {P : Int → Prop} {k : Nat} {y : Int} (h : ∀ x ∈ List.take k l, P x) (hy : l[k]? = some y) (hp : P y) : ∀ x ∈ List.take (k + 1) l, P x := by
 intro x hx;have hk : k < l.length := (List.getElem?_eq_some_iff.1 hy).1;rw [List.take_succ, hy] at hx
 rcases List.mem_append.1 hx with hx | hx
 ·exact h x hx
 ·simp at hx; rw [hx]; exact hp
theorem qxc {l : List Int} {P : Int → Prop} {k j : Nat} {y : Int} (h : ∀ x ∈ List.take k l, P x) (hk : l.length ≤ k) (hy : l[j]? = some y) : P y := by
 rw [List.take_of_length_le hk] at h;exact h y (List.mem_of_getElem? hy)
theorem qqx {y : Int} (h : 0 ≤ y ∧ y ≤ 99999) : 0 ≤ s188 y ∧ s188 y < 7 := by
 unfold s188;rw [wrap_i64 ⟨by omega, by omega⟩, Int.tmod_eq_emod_of_nonneg (by omega)]
 omega
theorem qxd {y b : Int} (h : ¬ s152 [s153 y, b] ≠ 0) : 0 ≤ y ∧ y ≤ 99999 := qlb (qna (s153 y) b (Decidable.not_not.1 h)).1
end Go.Sim
set_option maxRecDepth 10000
namespace Go.Sim
open Go.Proofs
def s112_j1 (rec1 : Nat → (List S45) → Int → Option (List S45)) (k4 : Nat) (x7 : List S45) (x8 : Int) : Option (List S45) :=
 rec1 (k4 + 1) x7 x8
def s112_l1 (a0 : List Int) : List Int → Nat → (List S45) → Int → Option (List S45)
 | [], k4, x1, x2 => some x1
 | y5 :: t6, k4, x1, x2 => bindO (bif decide (0 < ((k4 : Nat) : Int)) then ixO a0 (IntKind.i64.wrap (((k4 : Nat) : Int) - 1)) else some default) fun y9 => (bif (decide (0 < ((k4 : Nat) : Int))) && (decide ((s163 y9) = (s163 y5))) then bindO (ixO x1 (IntKind.i64.wrap ((List.length x1 : Int) - 1))) fun y10 => s112_j1 (fun k_ z0_ z1_ => s112_l1 a0 t6 k_ z0_ z1_) k4 (List.set x1 (Int.toNat (IntKind.i64.wrap ((List.length x1 : Int) - 1))) (S45.mk y10.fFrom y5 y10.Days)) x2 else bindO (bif decide (0 < ((k4 : Nat) : Int)) then ixO a0 (IntKind.i64.wrap (((k4 : Nat) : Int) - 1)) else some default) fun y11 => bindO (bif (decide (0 < ((k4 : Nat) : Int))) && (decide ((s163 y11) = IntKind.i64.wrap ((s163 y5) - 1))) then ixO x1 (IntKind.i64.wrap ((List.length x1 : Int) - 1)) else some default) fun y12 => (bif (((decide (0 < ((k4 : Nat) : Int))) && (decide ((s163 y11) = IntKind.i64.wrap ((s163 y5) - 1)))) && (decide (y12.Days = (s164 a0 (s163 y5))))) && (decide (x2 < 57)) then bindO (ixO x1 (IntKind.i64.wrap ((List.length x1 : Int) - 1))) fun y13 => s112_j1 (fun k_ z0_ z1_ => s112_l1 a0 t6 k_ z0_ z1_) k4 (List.set x1 (Int.toNat (IntKind.i64.wrap ((List.length x1 : Int) - 1))) (S45.mk y13.fFrom y5 y13.Days)) (IntKind.i64.wrap (x2 + 1)) else s112_j1 (fun k_ z0_ z1_ => s112_l1 a0 t6 k_ z0_ z1_) k4 (x1 ++ [(S45.mk y5 y5 (s164 a0 (s163 y5)))]) 1))
def s112 (a0 : List Int) : Option (List S45) :=
 s112_l1 a0 a0 0 [] 0
theorem n112 {g : List (Nat × List Value)} (a0 : List Int) {R : List S45}  (hb0 : a0.length ≤ 401) (hR : s112 a0 = some R) : ConN (EG g) 112 [G.sl 1 (List.map cInt a0)] 46 3 (List.map S45.c R) := by
 unfold s112 at hR;refine kl Tryz.func112 rfl rfl fun w0 M0 => ?_;refine zd (f := cInt) (l := a0) 0 rfl fun hla0 => ?_;refine qb (qa [.w] (sw (zt 2 46 3 rfl rfl rfl) rfl (qc (qb (qa [.w] (sw (zt 3 46 3 rfl rfl rfl) rfl ?_))))));refine qc (qb (qa [.p] (sa rfl rfl (qc (qb (qb ?_))))));refine qa [.p] (sa rfl rfl (qc (qi (qq (γ := Nat × (List Int) × (List S45) × Int) (fun g => ([(0, .g (G.sl 1 (List.map cInt a0))), (3, .osl 3 3 0 (List.length g.2.2.1)), (4, .g (G.int g.2.2.2)), (5, .g (G.int ((g.1 : Nat) : Int)))], [(3, .arr 46 3 (List.map S45.c g.2.2.1))])) (fun g => g.2.2.1.length ≤ g.1 ∧ a0.drop g.1 = g.2.1 ∧ s112_l1 a0 g.2.1 g.1 g.2.2.1 g.2.2.2 = some R) (fun g => List.length g.2.1) ⟨rfl, (0, a0, [], 0), ⟨rfl, rfl, rfl, rfl, trivial⟩, ⟨rfl, trivial⟩, rfl, ⟨iH, rfl, hR⟩, trivial⟩ ?_))))
 ·rintro ⟨k4, t6, x1, x2⟩ ⟨iv1_0, hd, hR⟩;replace hd : a0.drop k4 = t6 := hd;replace hR : s112_l1 a0 t6 k4 x1 x2 = some R := hR;replace iv1_0 : x1.length ≤ k4 := iv1_0;refine qb (qb (qa [.p, .p, .p, .p] (sm rfl rfl (sm rfl rfl (su (qv (f := cInt) (l := a0) rfl Tryz.underlying82 rfl) rfl (su (qu rfl rfl rfl) rfl ?_))))));refine qc (zd (f := cInt) (l := a0) 0 rfl fun hlz1 => ?_);refine qj _ rfl (fun h1 => ?_) (fun h1 => ?_)
  ·replace h1 : (decide (((k4 : Nat) : Int) < (List.length a0 : Int))) = true := h1;obtain ⟨y5, t6, rfl, hx1, hd⟩ := ze hd (decT h1);replace h1 := decT h1;rw [s112_l1] at hR;(try dsimp only at hR);refine ql (ja (γ := (List S45) × Int) (fun g => ([(0, .g (G.sl 1 (List.map cInt a0))), (3, .osl 3 3 0 (List.length g.1)), (4, .g (G.int g.2)), (5, .g (G.int ((k4 : Nat) : Int)))], [(3, .arr 46 3 (List.map S45.c g.1))])) (fun g => g.1.length ≤ k4 + 1 ∧ s112_j1 (fun k_ z0_ z1_ => s112_l1 a0 t6 k_ z0_ z1_) k4 g.1 g.2 = some R) ?_ ?_)
   ·refine qi (qb (qa [.p, .p, .p, .p, .p, .p] (sm rfl rfl (sm rfl rfl (su (zh (f := cInt) (l := a0) (a := y5) rfl Tryz.underlying82 ty3 rfl rfl (Int.natCast_nonneg _) hx1) rfl (su (qf rfl ty3 rfl) rfl ?_))))));refine su (qg rfl K163 rfl (c163 y5) (qe rfl qm)) rfl (sa rfl rfl (qc (qb (qb ?_))));obtain ⟨y9, by9, hR⟩ := qk hR;refine qa [.p, .p, .p, .p, .p, .p, .p, .p, .p, .p, .p, .p] (sm rfl rfl (su (z0 rfl rfl rfl) rfl (sm rfl rfl (sg rfl rfl (fun h => qh rfl rfl) rfl (sg rfl rfl (fun h => qh rfl rfl) rfl (sg rfl rfl (fun h => jb rfl (gd h rfl) rfl) rfl ?_))))));refine sg rfl rfl (fun h => zh (f := cInt) (l := a0) (a := y9) rfl Tryz.underlying82 ty3 (gd h rfl) (gd h rfl) (z5 (jp by9 h)) (qz (jp by9 h))) rfl (sg rfl rfl (fun h => qf rfl ty3 (gd h rfl)) rfl (sg rfl rfl (fun h => qg rfl K163 rfl (c163 y9) (qe (gd h rfl) qm)) rfl (sg rfl rfl (fun h => qh rfl rfl) rfl (sg rfl rfl (fun h => jh rfl (gd h rfl) (gd h rfl)) rfl (su (zf rfl rfl rfl rfl) rfl (qc ?_))))));refine qj _ rfl (fun h3 => ?_) (fun h3 => ?_)
    ·replace h3 : ((decide (0 < ((k4 : Nat) : Int))) && (decide ((s163 y9) = (s163 y5)))) = true := h3;replace hR := zj hR h3;(try simp only [bB] at h3);refine qb ?_;obtain ⟨y10, by10, hR⟩ := qk hR;refine qa [.p, .p, .p, .p, .p, .p, .p, .p, .p, .p, .w] (su (qp rfl rfl) rfl (su (qp rfl rfl) rfl (su (qan rfl Tryz.underlying69 rfl) rfl (su (jb rfl rfl rfl) rfl (sm rfl rfl (sm rfl rfl ?_))))));refine su (zh (f := cInt) (l := a0) (a := y5) rfl Tryz.underlying82 ty3 rfl rfl (Int.natCast_nonneg _) hx1) rfl (su (qf rfl ty3 rfl) rfl (su (jl rfl Tryz.underlying69 ty46 rfl rfl (z5 by10) (Nat.lt_of_lt_of_eq (jk (qz by10)) rfl)) rfl (su (qcg rfl wy rfl) rfl (jf rfl rfl (qky (f := S45.c) (l := x1) (a := y10) (a' := (S45.mk y10.fFrom y5 y10.Days)) rfl ty3 rfl rfl rfl (qz by10) rfl rfl rfl) (qc (qw ?_))))));exact ⟨rfl, (List.set x1 (Int.toNat (IntKind.i64.wrap ((List.length x1 : Int) - 1))) (S45.mk y10.fFrom y5 y10.Days), x2), ⟨rfl, (by simp only [List.length_set]; rfl), rfl, rfl, trivial⟩, ⟨rfl, trivial⟩, rfl, ⟨iC, hR⟩, trivial⟩
    ·replace h3 : ((decide (0 < ((k4 : Nat) : Int))) && (decide ((s163 y9) = (s163 y5)))) = false := h3;replace hR := zk hR h3;(try simp only [bB] at h3);refine ql (qb (qa [.p, .p, .p, .p] (sm rfl rfl (sm rfl rfl (su (qg rfl K164 rfl (c164 a0 (s163 y5)) (qe rfl (qe rfl qm))) rfl (sa rfl rfl ?_))))));refine qc (qb (qb ?_));obtain ⟨y11, by11, hR⟩ := qk hR;obtain ⟨y12, by12, hR⟩ := qk hR;refine qa [.p, .p, .p, .p, .p, .p, .p, .p, .p, .p, .p, .p, .p, .p, .p, .p, .p, .p, .p, .p, .r, .p, .p, .p, .p, .p, .p, .p] (sm rfl rfl (su (z0 rfl rfl rfl) rfl (sm rfl rfl (sg rfl rfl (fun h => qh rfl rfl) rfl (sg rfl rfl (fun h => qh rfl rfl) rfl (sg rfl rfl (fun h => jb rfl (gd h rfl) rfl) rfl ?_))))));refine sg rfl rfl (fun h => zh (f := cInt) (l := a0) (a := y11) rfl Tryz.underlying82 ty3 (gd h rfl) (gd h rfl) (z5 (jp by11 h)) (qz (jp by11 h))) rfl (sg rfl rfl (fun h => qf rfl ty3 (gd h rfl)) rfl (sg rfl rfl (fun h => qg rfl K163 rfl (c163 y11) (qe (gd h rfl) qm)) rfl (sg rfl rfl (fun h => qh rfl rfl) rfl (sg rfl rfl (fun h => jb rfl (gd h rfl) rfl) rfl (sg rfl rfl (fun h => jh rfl (gd h rfl) (gd h rfl)) rfl (su (zf rfl rfl rfl rfl) rfl ?_))))));refine sm rfl rfl (sg rfl rfl (fun h => qp rfl rfl) rfl (sg rfl rfl (fun h => qp rfl rfl) rfl (sg rfl rfl (fun h => qan rfl Tryz.underlying69 (gd h rfl)) rfl (sg rfl rfl (fun h => jb rfl (gd h rfl) rfl) rfl (sg rfl rfl (fun h => jl rfl Tryz.underlying69 ty46 (gd h rfl) (gd h rfl) (z5 (jp by12 h)) (Nat.lt_of_lt_of_eq (jk (qz (jp by12 h))) rfl)) rfl (sg rfl rfl (fun h => qcg rfl qg7 (gd h rfl)) rfl ?_))))));refine xn rfl rfl rfl (kp _ _) (fun h => vi (f := S45.c) (l := x1) (a := y12) rfl ty3 (gd h rfl) rfl (qz (jp by12 h)) rfl) rfl ?_;refine sg rfl rfl (fun h => qh rfl rfl) rfl (sg rfl rfl (fun h => jh rfl (gd h rfl) (gd h rfl)) rfl (su (zf rfl rfl rfl rfl) rfl (sm rfl rfl (sg rfl rfl (fun h => qh rfl rfl) rfl (sg rfl rfl (fun h => qu rfl (gd h rfl) rfl) rfl (su (zf rfl rfl rfl rfl) rfl ?_))))));refine qc (qj _ rfl (fun h4 => ?_) (fun h4 => ?_))
     ·replace h4 : ((((decide (0 < ((k4 : Nat) : Int))) && (decide ((s163 y11) = IntKind.i64.wrap ((s163 y5) - 1)))) && (decide (y12.Days = (s164 a0 (s163 y5))))) && (decide (x2 < 57))) = true := h4;replace hR := zj hR h4;(try simp only [bB] at h4);refine qb ?_;obtain ⟨y13, by13, hR⟩ := qk hR;refine qa [.p, .p, .p, .p, .p, .p, .p, .p, .p, .p, .w] (su (qp rfl rfl) rfl (su (qp rfl rfl) rfl (su (qan rfl Tryz.underlying69 rfl) rfl (su (jb rfl rfl rfl) rfl (sm rfl rfl (sm rfl rfl ?_))))));refine su (zh (f := cInt) (l := a0) (a := y5) rfl Tryz.underlying82 ty3 rfl rfl (Int.natCast_nonneg _) hx1) rfl (su (qf rfl ty3 rfl) rfl (su (jl rfl Tryz.underlying69 ty46 rfl rfl (z5 by13) (Nat.lt_of_lt_of_eq (jk (qz by13)) rfl)) rfl (su (qcg rfl wy rfl) rfl (jf rfl rfl (qky (f := S45.c) (l := x1) (a := y13) (a' := (S45.mk y13.fFrom y5 y13.Days)) rfl ty3 rfl rfl rfl (qz by13) rfl rfl rfl) (qc (qb ?_))))));refine qa [.p, .p, .p] (sm rfl rfl (su (z6 rfl rfl rfl) rfl (sa rfl rfl (qc (qw ?_)))));exact ⟨rfl, (List.set x1 (Int.toNat (IntKind.i64.wrap ((List.length x1 : Int) - 1))) (S45.mk y13.fFrom y5 y13.Days), IntKind.i64.wrap (x2 + 1)), ⟨rfl, (by simp only [List.length_set]; rfl), rfl, rfl, trivial⟩, ⟨rfl, trivial⟩, rfl, ⟨iC, hR⟩, trivial⟩
     ·replace h4 : ((((decide (0 < ((k4 : Nat) : Int))) && (decide ((s163 y11) = IntKind.i64.wrap ((s163 y5) - 1)))) && (decide (y12.Days = (s164 a0 (s163 y5))))) && (decide (x2 < 57))) = false := h4;replace hR := zk hR h4;(try simp only [bB] at h4);refine ql (qb (qfn [.p, .pn 3, .pn 3, .pn 3, .pn 3, .pn 3, .pn 3, .pn 3, .pn 3, .pn 3, .pn 3, .pn 3, .kn 3, .p] (by kernel_rfl) (su (qp rfl rfl) rfl (vz rfl rfl (qh rfl rfl) rfl rfl rfl ?_))));refine vz rfl rfl (qh rfl rfl) rfl rfl rfl ?_;refine vz rfl rfl (zh (f := cInt) (l := a0) (a := y5) rfl Tryz.underlying82 ty3 rfl rfl (Int.natCast_nonneg _) hx1) rfl rfl rfl ?_;refine vz rfl rfl (qf rfl ty3 rfl) rfl rfl rfl ?_;refine vz rfl rfl (qh rfl rfl) rfl rfl rfl ?_;refine vz rfl rfl (qh rfl rfl) rfl rfl rfl ?_;refine vz rfl rfl (zh (f := cInt) (l := a0) (a := y5) rfl Tryz.underlying82 ty3 rfl rfl (Int.natCast_nonneg _) hx1) rfl rfl rfl ?_;refine vz rfl rfl (qf rfl ty3 rfl) rfl rfl rfl ?_;refine vz rfl rfl (qh rfl rfl) rfl rfl rfl ?_;refine vz rfl rfl (je rfl z46 rfl pl46 (zr rfl (zr rfl (zr rfl kw))) rfl) rfl rfl rfl ?_;refine vz rfl rfl (qr rfl Tryz.underlying69 ty46 z46 rfl (qy rfl jc) rfl (by exact lens rfl) (by decide)) rfl rfl rfl ?_;refine qip rfl rfl (jd (f := S45.c) (out := x1) (new := [(S45.mk y5 y5 (s164 a0 (s163 y5)))]) rfl qxe rfl rfl (km rfl (ky (by decide) (by simp [S45.c]))) (vu rfl) (by simp; omega)) rfl ?_;refine su (qx rfl rfl) rfl (qc (qa [.p] (sa rfl rfl (qc ?_))));exact ⟨rfl, (x1 ++ [(S45.mk y5 y5 (s164 a0 (s163 y5)))], 1), ⟨rfl, rfl, rfl, rfl, trivial⟩, ⟨rfl, trivial⟩, rfl, ⟨iC, hR⟩, trivial⟩
   ·rintro ⟨x7, x8⟩ ⟨jv1_0, hR⟩;replace jv1_0 : x7.length ≤ k4 + 1 := jv1_0;replace hR : s112_j1 (fun k_ z0_ z1_ => s112_l1 a0 t6 k_ z0_ z1_) k4 x7 x8 = some R := hR;unfold s112_j1 at hR;refine qa [.p, .p, .p] (sm rfl rfl (su (zc rfl rfl rfl iE) rfl (sa rfl rfl (qc ?_))));exact ⟨rfl, (k4 + 1, t6, x7, x8), ⟨rfl, rfl, rfl, rfl, trivial⟩, ⟨rfl, trivial⟩, rfl, ⟨iB, hd, hR⟩, by simp⟩
  ·replace h1 : (decide (((k4 : Nat) : Int) < (List.length a0 : Int))) = false := h1;obtain rfl := zm hd (decF h1);rw [s112_l1] at hR;refine qw ?_;refine qb (qa [.p, .p] (su (qp rfl rfl) rfl (su (qx rfl rfl) rfl (qc (qo ?_)))));obtain rfl := Option.some.inj hR;exact kz rfl rfl rfl ((List.length_map ..).trans rfl)
def s43_l1 (a1 : List S45) : List S45 → Nat → Option Bool
 | [], k2 => some true
 | y3 :: t4, k2 => bindO (ixO a1 ((k2 : Nat) : Int)) fun y5 => (bif !(eqAnd [decide (y3.fFrom = y5.fFrom), decide (y3.fTo = y5.fTo), decide (y3.Days = y5.Days)]) then some false else s43_l1 a1 t4 (k2 + 1))
def s43 (a0 : List S45) (a1 : List S45) : Option Bool :=
 (bif decide ((List.length a0 : Int) ≠ (List.length a1 : Int)) then some false else s43_l1 a1 a0 0)
theorem c43 {g : List (Nat × List Value)} (a0 : List S45) (a1 : List S45) {R : Bool}   (hR : s43 a0 a1 = some R) : Con (EG g) 43 [G.sl 3 (List.map S45.c a0), G.sl 3 (List.map S45.c a1)] (G.bool R) := by
 unfold s43 at hR;refine qn Tryz.func43 rfl rfl fun w0 M0 => ?_;refine zd (f := S45.c) (l := a0) 0 rfl fun hla0 => ?_;refine zd (f := S45.c) (l := a1) 1 rfl fun hla1 => ?_;refine qb (qa [.p] (sa rfl rfl (qc (qb (qb (qa [.p, .p, .p, .p, .p] ?_))))));refine sm rfl rfl (su (qv (f := S45.c) (l := a0) rfl Tryz.underlying69 rfl) rfl (sm rfl rfl (su (qv (f := S45.c) (l := a1) rfl Tryz.underlying69 rfl) rfl (su (jg rfl rfl rfl) rfl (qc (qj _ rfl (fun h1 => ?_) (fun h1 => ?_)))))))
 ·replace hR := zj hR h1;refine qb (qa [.p] (sa rfl rfl (qc (qo ?_))));obtain rfl := Option.some.inj hR;exact zb rfl (rv_g rfl)
 ·replace h1 : (decide ((List.length a0 : Int) ≠ (List.length a1 : Int))) = false := h1;replace hR := zk hR h1;(try simp only [bB] at h1);refine ql (qb (qb (qa [.p] (sa rfl rfl (qc (qi ?_))))));refine qq (γ := Nat × (List S45)) (fun g => ([(0, .g (G.sl 3 (List.map S45.c a0))), (1, .g (G.sl 3 (List.map S45.c a1))), (5, .g (G.int ((g.1 : Nat) : Int)))], [])) (fun g => a0.drop g.1 = g.2 ∧ s43_l1 a1 g.2 g.1 = some R) (fun g => List.length g.2) ⟨rfl, (0, a0), ⟨rfl, rfl, rfl, trivial⟩, trivial, rfl, ⟨rfl, hR⟩, trivial⟩ ?_
  ·rintro ⟨k2, t4⟩ ⟨hd, hR⟩;replace hd : a0.drop k2 = t4 := hd;replace hR : s43_l1 a1 t4 k2 = some R := hR;refine qb (qb (qa [.p, .p, .p, .p] (sm rfl rfl (sm rfl rfl (su (qv (f := S45.c) (l := a0) rfl Tryz.underlying69 rfl) rfl (su (qu rfl rfl rfl) rfl ?_))))));refine qc (zd (f := S45.c) (l := a0) 0 rfl fun hlz1 => ?_);refine qj _ rfl (fun h2 => ?_) (fun h2 => ?_)
   ·replace h2 : (decide (((k2 : Nat) : Int) < (List.length a0 : Int))) = true := h2;obtain ⟨y3, t4, rfl, hx1, hd⟩ := ze hd (decT h2);replace h2 := decT h2;rw [s43_l1] at hR;(try dsimp only at hR);refine ql (qb (qi (qb ?_)));obtain ⟨y5, by5, hR⟩ := qk hR;refine zu [.p, .p, .p, .p, .p, .p, .p, .p, .p] (by kernel_rfl) (sm rfl rfl (sm rfl rfl (su (zh (f := S45.c) (l := a0) (a := y3) rfl Tryz.underlying69 ty46 rfl rfl (Int.natCast_nonneg _) hx1) rfl (su (qt rfl ty46 rfl rfl rfl) rfl (sm rfl rfl (sm rfl rfl ?_))))));refine su (zh (f := S45.c) (l := a1) (a := y5) rfl Tryz.underlying69 ty46 rfl rfl (z5 by5) (qz by5)) rfl (su (qt rfl ty46 rfl rfl rfl) rfl (su (qcp [.int .i64 y3.fFrom, .int .i64 y3.fTo, .int .i64 y3.Days] [.int .i64 y5.fFrom, .int .i64 y5.fTo, .int .i64 y5.Days] rfl qxf rfl rfl rfl rfl rfl) rfl (qc (qj _ rfl (fun h4 => ?_) (fun h4 => ?_)))))
    ·replace hR := zj hR h4;refine qb (qa [.p] (sa rfl rfl (qc (qo ?_))));obtain rfl := Option.some.inj hR;exact zb rfl (rv_g rfl)
    ·replace h4 : (!(eqAnd [decide (y3.fFrom = y5.fFrom), decide (y3.fTo = y5.fTo), decide (y3.Days = y5.Days)])) = false := h4;replace hR := zk hR h4;(try simp only [bB] at h4);refine ql (qa [.p, .p, .p] (sm rfl rfl (su (zc rfl rfl rfl iE) rfl (sa rfl rfl (qc ?_)))));exact ⟨rfl, (k2 + 1, t4), ⟨rfl, rfl, rfl, trivial⟩, trivial, rfl, ⟨hd, hR⟩, by simp⟩
   ·replace h2 : (decide (((k2 : Nat) : Int) < (List.length a0 : Int))) = false := h2;obtain rfl := zm hd (decF h2);rw [s43_l1] at hR;refine qw ?_;refine qb (qa [.p] (sa rfl rfl (qc (qo ?_))));obtain rfl := Option.some.inj hR;exact zb rfl (rv_g rfl)
section
variable {E : Env} {ops : Array Oper} {o : Oper} {os : List Oper} {cs : List Cls} {s : ASt} {r : TV} {K : ASt → Prop}
theorem qyv {d i : Nat} {b : Blk} (hd : o.dst = some d) (hg : o.guard = none) (hb : lookO s.mem i = some b) (he : ∀ m, lookO m i = some b → Eff E o m (s.eval E) r) (hn : Nat.blt d s.n = true) (hk : AOps E ops os cs (s.put (some d) r) K) : AOps E ops (o :: os) (.rq i :: cs) s K :=
 ⟨s.put (some d) r, ⟨fun d' h => by rw [hd] at h; cases h; exact Nat.le_of_ble_eq_true hn, true, r, s.mem, none, by unfold Wanted; rw [hg], fun _ => ⟨rfl, rfl, b, hb, he⟩, (by intro h; cases h), by rw [hd]; rfl⟩, hk⟩
theorem qyw {d i : Nat} {blk : Blk} (hd : o.dst = some d) (hg : o.guard = none) (hb : lookO s.mem i = none) (he : ∀ m, lookO m i = none → EffW E o m (s.eval E) r ((i, blk) :: m) none) (hn : Nat.blt d s.n = true) (hk : AOps E ops os cs ⟨s.n, upd d r s.tmps, (i, blk) :: s.mem⟩ K) : AOps E ops (o :: os) (.al i :: cs) s K :=
 ⟨⟨s.n, upd d r s.tmps, (i, blk) :: s.mem⟩, ⟨fun d' h => by rw [hd] at h; cases h; exact Nat.le_of_ble_eq_true hn, true, r, (i, blk) :: s.mem, none, by unfold Wanted; rw [hg], fun _ => ⟨rfl, blk, rfl, hb, he⟩, (by intro h; cases h), by rw [hd]; rfl⟩, hk⟩
end
end Go.Sim
set_option maxRecDepth 10000
namespace Go.Sim
open Go.Proofs
def s160_j1 (rec3 : (List S45) → Int → Option ((List S45) × Int)) (x6 : List (Int × Int)) (x10 : List S45) (y13 : Int) (y14 : Int) (x16 : Int) (x17 : Int) : Option ((List S45) × Int) :=
 rec3 (x10 ++ [(S45.mk y14 x17 (mgetD x6 (s196 y13) 0))]) x16
def s160_j2 (rec4 : Int → Int → Int → Option ((List S45) × Int)) (a0 : List Int) (x18 : Int) (x22 : Int) : Option ((List S45) × Int) :=
 bindO (ixO a0 x18) fun y23 => rec4 (IntKind.i64.wrap (x18 + 1)) x22 y23
def s160_l4 (rec3 : (List S45) → Int → Option ((List S45) × Int)) (a0 : List Int) (x6 : List (Int × Int)) (x10 : List S45) (y13 : Int) (y14 : Int) : Nat → Int → Int → Int → Option ((List S45) × Int)
 | 0, _, _, _ => none
 | k21 + 1, x18, x19, x20 => (bif decide (x18 < (List.length a0 : Int)) then bindO (ixO a0 x18) fun y24 => (bif decide ((s196 y24) = x19) then s160_j2 (fun z0_ z1_ z2_ => s160_l4 rec3 a0 x6 x10 y13 y14 k21 z0_ z1_ z2_) a0 x18 x19 else (bif ((decide ((s196 y24) = IntKind.i64.wrap (x19 + 1))) && (decide ((mgetD x6 (s196 y24) 0) = (mgetD x6 (s196 y13) 0)))) && (decide (IntKind.i64.wrap ((s196 y24) - (s196 y13)) < 57)) then s160_j2 (fun z0_ z1_ z2_ => s160_l4 rec3 a0 x6 x10 y13 y14 k21 z0_ z1_ z2_) a0 x18 (s196 y24) else s160_j1 rec3 x6 x10 y13 y14 x18 x20)) else s160_j1 rec3 x6 x10 y13 y14 x18 x20)
def s160_l3 (a0 : List Int) (x6 : List (Int × Int)) : Nat → (List S45) → Int → Option ((List S45) × Int)
 | 0, _, _ => none
 | k12 + 1, x10, x11 => (bif decide (x11 < (List.length a0 : Int)) then bindO (ixO a0 x11) fun y13 => bindO (ixO a0 x11) fun y14 => bindO (ixO a0 x11) fun y15 => s160_l4 (fun z0_ z1_ => s160_l3 a0 x6 k12 z0_ z1_) a0 x6 x10 y13 y14 ((((List.length a0 : Int) - x11).toNat) + 1) x11 (s196 y13) y15 else some ((s197 x10), 0))
def s160_l2 (a0 : List Int) : List Int → Nat → (List (Int × Int)) → Option ((List S45) × Int)
 | [], k7, x6 => s160_l3 a0 x6 ((((List.length a0 : Int) - 0).toNat) + 1) [] 0
 | y8 :: t9, k7, x6 => s160_l2 a0 t9 (k7 + 1) (mset x6 (s196 y8) (orI (mgetD x6 (s196 y8) 0) (shlI 1 (s188 y8))))
def s160_l1 (a0 : List Int) : List Int → Nat → Option ((List S45) × Int)
 | [], k2 => s160_l2 a0 a0 0 []
 | y3 :: t4, k2 => bindO (bif decide (0 < ((k2 : Nat) : Int)) then ixO a0 (max 0 (IntKind.i64.wrap (((k2 : Nat) : Int) - 1))) else some default) fun y25 => (bif decide ((s152 [(s153 y3), (s154 ((decide (0 < ((k2 : Nat) : Int))) && (decide (y3 ≤ y25))) 11)]) ≠ 0) then some ([], (s152 [(s153 y3), (s154 ((decide (0 < ((k2 : Nat) : Int))) && (decide (y3 ≤ y25))) 11)])) else s160_l1 a0 t4 (k2 + 1))
def s160 (a0 : List Int) : Option ((List S45) × Int) :=
 (bif decide (512 < (List.length a0 : Int)) then some ([], 5) else s160_l1 a0 a0 0)
theorem c160 {g : List (Nat × List Value)} (a0 : List Int) {R : (List S45) × Int}  (hb0 : a0.length ≤ 401) (hR : s160 a0 = some R) : Con (EG g) 160 [G.sl 1 (List.map cInt a0)] (G.tup [G.sl 3 (List.map S45.c R.1), G.int R.2]) := by
 unfold s160 at hR;refine qn Tryz.func160 rfl rfl fun w0 M0 => ?_;refine zd (f := cInt) (l := a0) 0 rfl fun hla0 => ?_;refine qb (qa [.p, .p] (sa rfl rfl (sa rfl rfl (qc (qb (qb ?_))))));refine qa [.p, .p, .p] (sm rfl rfl (su (qv (f := cInt) (l := a0) rfl Tryz.underlying82 rfl) rfl (su (z0 rfl rfl rfl) rfl (qc (qj _ rfl (fun h1 => ?_) (fun h1 => ?_))))))
 ·replace h1 : (decide (512 < (List.length a0 : Int))) = true := h1;replace hR := zj hR h1;(try simp only [bB] at h1);refine qb (qa [.p, .p] (sa rfl rfl (sa rfl rfl (qc (qo ?_)))));obtain rfl := Option.some.inj hR;exact resN rfl ⟨w7 rfl (qbx _), rv_g rfl, trivial⟩ (by simp)
 ·replace h1 : (decide (512 < (List.length a0 : Int))) = false := h1;replace hR := zk hR h1;(try simp only [bB] at h1);refine ql (qb (qb (qa [.p, .p, .p] (sm rfl rfl (su (qv (f := cInt) (l := a0) rfl Tryz.underlying82 rfl) rfl (sm rfl rfl ?_))))));refine qc (qi (qq (γ := Nat × (List Int)) (fun g => ([(0, .g (G.sl 1 (List.map cInt a0))), (19, .g (G.sl 1 (List.map cInt a0))), (20, .g (G.int (List.length a0 : Int))), (21, .g (G.int ((g.1 : Nat) : Int)))], [])) (fun g => (∀ x ∈ List.take g.1 a0, 0 ≤ x ∧ x ≤ 99999) ∧ a0.drop g.1 = g.2 ∧ s160_l1 a0 g.2 g.1 = some R) (fun g => List.length g.2) ⟨rfl, (0, a0), ⟨rfl, rfl, rfl, rfl, trivial⟩, trivial, rfl, ⟨(fun x hx => absurd hx (by simp)), rfl, hR⟩, trivial⟩ ?_))
  ·rintro ⟨k2, t4⟩ ⟨iv1_0, hd, hR⟩;replace hd : a0.drop k2 = t4 := hd;replace hR : s160_l1 a0 t4 k2 = some R := hR;replace iv1_0 : (∀ x ∈ List.take k2 a0, 0 ≤ x ∧ x ≤ 99999) := iv1_0;refine qb (qa [.p] (su (qu rfl rfl rfl) rfl (qc (zd (f := cInt) (l := a0) 0 rfl fun hlz1 => ?_))));refine qb (qj _ rfl (fun h2 => ?_) (fun h2 => ?_))
   ·replace h2 : (decide (((k2 : Nat) : Int) < (List.length a0 : Int))) = true := h2;obtain ⟨y3, t4, rfl, hx1, hd⟩ := ze hd (decT h2);replace h2 := decT h2;rw [s160_l1] at hR;(try dsimp only at hR);refine ql (qb (qi (qb (qa [.p, .p, .p, .p, .p] (sm rfl rfl (su (zh (f := cInt) (l := a0) (a := y3) rfl Tryz.underlying82 ty3 rfl rfl (Int.natCast_nonneg _) hx1) rfl ?_))))));refine su (qf rfl ty3 rfl) rfl (sa rfl rfl (sa rfl rfl (qc (qb ?_))));obtain ⟨y25, by25, hR⟩ := qk hR;refine qa [.p, .p, .p, .p, .p, .p, .p, .p, .p, .p, .p, .p, .p, .p, .p, .p, .p, .p] (sm rfl rfl (su (qg rfl K153 rfl (c153 y3) (qe rfl qm)) rfl (sm rfl rfl (su (z0 rfl rfl rfl) rfl (sm rfl rfl (sg rfl rfl (fun h => qh rfl rfl) rfl ?_))))));refine sg rfl rfl (fun h => qh rfl rfl) rfl (sg rfl rfl (fun h => qh rfl rfl) rfl (sg rfl rfl (fun h => jb rfl (gd h rfl) rfl) rfl (sg rfl rfl (fun h => qmr rfl rfl (gd h rfl)) rfl (sg rfl rfl (fun h => zh (f := cInt) (l := a0) (a := y25) rfl Tryz.underlying82 ty3 (gd h rfl) (gd h rfl) (z5 (jp by25 h)) (qz (jp by25 h))) rfl (sg rfl rfl (fun h => qf rfl ty3 (gd h rfl)) rfl (sg rfl rfl (fun h => j8 rfl (gd h rfl) (gd h rfl)) rfl ?_))))));refine su (zf rfl rfl rfl rfl) rfl (su (qg rfl K154 rfl (c154 ((decide (0 < ((k2 : Nat) : Int))) && (decide (y3 ≤ y25))) 11) (qe rfl (qe rfl qm))) rfl (su (qr rfl Tryz.underlying170 ty37 z37 rfl (qy rfl (qy rfl jc)) rfl (by simp []) (by decide)) rfl (su (qg rfl K152 rfl (c152 [(s153 y3), (s154 ((decide (0 < ((k2 : Nat) : Int))) && (decide (y3 ≤ y25))) 11)]) (qe rfl qm)) rfl (sa rfl rfl (qc (qb ?_))))));refine qa [.p, .p] (sm rfl rfl (su (jg rfl rfl rfl) rfl (qc (qj _ rfl (fun h10 => ?_) (fun h10 => ?_)))))
    ·replace h10 : (decide ((s152 [(s153 y3), (s154 ((decide (0 < ((k2 : Nat) : Int))) && (decide (y3 ≤ y25))) 11)]) ≠ 0)) = true := h10;replace hR := zj hR h10;(try simp only [bB] at h10);refine qb (qa [.p, .p, .p] (sm rfl rfl (sa rfl rfl (sa rfl rfl (qc (qo ?_))))));obtain rfl := Option.some.inj hR;exact resN rfl ⟨w7 rfl (qbx _), rv_g rfl, trivial⟩ (by simp)
    ·replace h10 : (decide ((s152 [(s153 y3), (s154 ((decide (0 < ((k2 : Nat) : Int))) && (decide (y3 ≤ y25))) 11)]) ≠ 0)) = false := h10;replace hR := zk hR h10;(try simp only [bB] at h10);refine ql (qa [.p, .p] (su (zc rfl rfl rfl iE) rfl (sm rfl rfl (qc ?_))));exact ⟨rfl, (k2 + 1, t4), ⟨rfl, rfl, rfl, rfl, trivial⟩, trivial, rfl, ⟨(qqw iv1_0 hx1 (qxd h10)), hd, hR⟩, by simp⟩
   ·replace h2 : (decide (((k2 : Nat) : Int) < (List.length a0 : Int))) = false := h2;obtain rfl := zm hd (decF h2);rw [s160_l1] at hR;refine qw ?_;refine qb (qa [.w, .p] (sw (qdm 47 rfl rfl) rfl (su (qcz rfl rfl) rfl (qc (qb (qb ?_))))));refine qa [.p, .p, .p] (sm rfl rfl (su (qv (f := cInt) (l := a0) rfl Tryz.underlying82 rfl) rfl (sm rfl rfl (qc (qi (qq (γ := Nat × (List Int) × (List (Int × Int))) (fun g => ([(0, .g (G.sl 1 (List.map cInt a0))), (7, .omap 47), (48, .g (G.sl 1 (List.map cInt a0))), (49, .g (G.int (List.length a0 : Int))), (50, .g (G.int ((g.1 : Nat) : Int)))], [(47, mpB (K := Int) (V := Int) (Value.int .i64) (fun v => G.int v) g.2.2)])) (fun g => a0.drop g.1 = g.2.1 ∧ s160_l2 a0 g.2.1 g.1 g.2.2 = some R) (fun g => List.length g.2.1) ⟨rfl, (0, a0, []), ⟨rfl, rfl, rfl, rfl, rfl, trivial⟩, ⟨rfl, trivial⟩, rfl, ⟨rfl, hR⟩, trivial⟩ ?_))))))
    ·rintro ⟨k7, t9, x6⟩ ⟨hd, hR⟩;replace hd : a0.drop k7 = t9 := hd;replace hR : s160_l2 a0 t9 k7 x6 = some R := hR;refine qb (qa [.p] (su (qu rfl rfl rfl) rfl (qc (zd (f := cInt) (l := a0) 0 rfl fun hlz2 => ?_))));refine qb (qj _ rfl (fun h4 => ?_) (fun h4 => ?_))
     ·replace h4 : (decide (((k7 : Nat) : Int) < (List.length a0 : Int))) = true := h4;obtain ⟨y8, t9, rfl, hx2, hd⟩ := ze hd (decT h4);replace h4 := decT h4;rw [s160_l2] at hR;(try dsimp only at hR);refine ql (qb (qi (qb (qa [.p, .p, .p] (su (zh (f := cInt) (l := a0) (a := y8) rfl Tryz.underlying82 ty3 rfl rfl (Int.natCast_nonneg _) hx2) rfl (su (qf rfl ty3 rfl) rfl ?_))))));refine sa rfl rfl (qc ?_);have hv8 := qqx (qxc iv1_0 (by have := decF h2; omega) hx2);refine zu [.p, .p, .p, .r, .p, .p, .p, .p, .w] (by kernel_rfl) (su (qam rfl rfl) rfl (sm rfl rfl (su (qg rfl K196 rfl (c196 y8) (qe rfl qm)) rfl (sr (qa4 (kf := Value.int .i64) (vf := (fun v => G.int v)) (m := x6) (k := (s196 y8)) (z := 0) rfl Tryz.underlying224 Tryz.underlying3 zr3 (fun _ _ => rfl) rfl rfl rfl) rfl (sm rfl rfl (su (qg rfl K188 rfl (c188 y8) (qe rfl qm)) rfl ?_))))));refine su (qtz rfl rfl rfl (by omega)) rfl (su (qty rfl rfl rfl) rfl (jf rfl rfl (qev (kf := Value.int .i64) (vf := (fun v => G.int v)) (m := x6) (k := (s196 y8)) (v := orI (mgetD x6 (s196 y8) 0) (shlI 1 (s188 y8))) (ins := false) rfl Tryz.underlying224 Tryz.underlying3 rfl rfl rfl rfl) (qc (qa [.p, .p] (su (zc rfl rfl rfl iE) rfl (sm rfl rfl ?_))))));refine qc ?_;exact ⟨rfl, (k7 + 1, t9, mset x6 (s196 y8) (orI (mgetD x6 (s196 y8) 0) (shlI 1 (s188 y8)))), ⟨rfl, rfl, rfl, rfl, rfl, trivial⟩, ⟨rfl, trivial⟩, rfl, ⟨hd, hR⟩, by simp⟩
     ·replace h4 : (decide (((k7 : Nat) : Int) < (List.length a0 : Int))) = false := h4;obtain rfl := zm hd (decF h4);rw [s160_l2] at hR;refine qw ?_;refine qb (qa [.w] (sw (zt 10 46 3 rfl rfl rfl) rfl (qc (qb (qb (qa [.p] ?_))))));refine sa rfl rfl (qc (qi (qq (γ := Nat × (List S45) × Int) (fun g => ([(0, .g (G.sl 1 (List.map cInt a0))), (7, .omap 47), (10, .osl 10 3 0 (List.length g.2.1)), (11, .g (G.int g.2.2))], [(10, .arr 46 3 (List.map S45.c g.2.1)), (47, mpB (K := Int) (V := Int) (Value.int .i64) (fun v => G.int v) x6)])) (fun g => ((List.length a0 : Int) - g.2.2).toNat < g.1 ∧ 0 ≤ g.2.2 ∧ g.2.2 ≤ (List.length a0 : Int) ∧ (g.2.1.length : Int) ≤ g.2.2 ∧ s160_l3 a0 x6 g.1 g.2.1 g.2.2 = some R) (fun g => g.1) ⟨rfl, ((((List.length a0 : Int) - 0).toNat) + 1, [], 0), ⟨rfl, rfl, rfl, rfl, trivial⟩, ⟨rfl, rfl, trivial⟩, rfl, ⟨Nat.lt_succ_self _, iD, iD, iD, hR⟩, trivial⟩ ?_)))
      ·rintro ⟨k12, x10, x11⟩ ⟨hk3, iv3_0, iv3_1, iv3_2, hR⟩;replace hk3 : ((List.length a0 : Int) - x11).toNat < k12 := hk3;replace hR : s160_l3 a0 x6 k12 x10 x11 = some R := hR;replace iv3_0 : 0 ≤ x11 := iv3_0;replace iv3_1 : x11 ≤ (List.length a0 : Int) := iv3_1;replace iv3_2 : (x10.length : Int) ≤ x11 := iv3_2;obtain ⟨k12, rfl⟩ : ∃ m, k12 = m + 1 := ⟨k12 - 1, by omega⟩;rw [s160_l3] at hR;(try dsimp only at hR);refine qb (qb (qa [.p, .p, .p, .p] (sm rfl rfl (sm rfl rfl (su (qv (f := cInt) (l := a0) rfl Tryz.underlying82 rfl) rfl (su (qu rfl rfl rfl) rfl ?_))))));refine qc (qj _ rfl (fun h6 => ?_) (fun h6 => ?_))
       ·replace h6 : (decide (x11 < (List.length a0 : Int))) = true := h6;replace hR := zj hR h6;(try simp only [bB] at h6);refine ql (qi (qqv (qb ?_)));obtain ⟨y13, by13, hR⟩ := qk hR;refine qa [.p, .p, .p, .p, .p, .p] (sm rfl rfl (sm rfl rfl (su (zh (f := cInt) (l := a0) (a := y13) rfl Tryz.underlying82 ty3 rfl rfl (z5 by13) (qz by13)) rfl (su (qf rfl ty3 rfl) rfl (su (qg rfl K196 rfl (c196 y13) (qe rfl qm)) rfl (sa rfl rfl ?_))))));refine qc (qb ?_);obtain ⟨y14, by14, hR⟩ := qk hR;obtain ⟨y15, by15, hR⟩ := qk hR;refine zu [.p, .p, .p, .p, .p, .p, .p, .p, .p, .p, .rq 47, .p, .al 13, .w] (by kernel_rfl) (sm rfl rfl (sm rfl rfl (su (zh (f := cInt) (l := a0) (a := y14) rfl Tryz.underlying82 ty3 rfl rfl (z5 by14) (qz by14)) rfl (su (qf rfl ty3 rfl) rfl (sm rfl rfl (sm rfl rfl ?_))))));refine su (zh (f := cInt) (l := a0) (a := y15) rfl Tryz.underlying82 ty3 rfl rfl (z5 by15) (qz by15)) rfl (su (qf rfl ty3 rfl) rfl (su (qam rfl rfl) rfl (sm rfl rfl (qyv (i := 47) rfl rfl rfl (fun m_ hm_ => qa4 (kf := Value.int .i64) (vf := (fun v => G.int v)) (m := x6) (k := (s196 y13)) (z := 0) rfl Tryz.underlying224 Tryz.underlying3 zr3 (fun _ _ => rfl) rfl rfl hm_) rfl ?_))));refine su (je rfl z46 rfl pl46 (zr rfl (zr rfl (zr rfl kw))) rfl) rfl (qyw (i := 13) rfl rfl rfl (fun m_ hm_ => zq 13 rfl z46 rfl hm_) rfl ?_);refine jf rfl rfl (za (tv := .g (G.agg [G.int y14, G.int y15, G.int (mgetD x6 (s196 y13) 0)])) rfl ty46 rfl rfl rfl rfl rfl) (qc (qb (qa [.p, .p] (sm rfl rfl (sa rfl rfl (qc ?_))))));refine qb (qqy (ja (γ := Int × Int) (fun g => ([(0, .g (G.sl 1 (List.map cInt a0))), (7, .omap 47), (10, .osl 10 3 0 (List.length x10)), (11, .g (G.int g.1)), (13, .ptr 13 0)], [(10, .arr 46 3 (List.map S45.c x10)), (13, .box [.g (G.int y14), .g (G.int g.2), .g (G.int (mgetD x6 (s196 y13) 0))]), (47, mpB (K := Int) (V := Int) (Value.int .i64) (fun v => G.int v) x6)])) (fun g => x11 < g.1 ∧ g.1 ≤ (List.length a0 : Int) ∧ s160_j1 (fun z0_ z1_ => s160_l3 a0 x6 k12 z0_ z1_) x6 x10 y13 y14 g.1 g.2 = some R) ?_ ?_))
        ·refine qi (qq (γ := Nat × Int × Int × Int) (fun g => ([(0, .g (G.sl 1 (List.map cInt a0))), (7, .omap 47), (10, .osl 10 3 0 (List.length x10)), (11, .g (G.int g.2.1)), (12, .g (G.int (s196 y13))), (13, .ptr 13 0), (14, .g (G.int g.2.2.1))], [(10, .arr 46 3 (List.map S45.c x10)), (13, .box [.g (G.int y14), .g (G.int g.2.2.2), .g (G.int (mgetD x6 (s196 y13) 0))]), (47, mpB (K := Int) (V := Int) (Value.int .i64) (fun v => G.int v) x6)])) (fun g => ((List.length a0 : Int) - g.2.1).toNat < g.1 ∧ 0 ≤ g.2.1 ∧ g.2.1 ≤ (List.length a0 : Int) ∧ x11 ≤ g.2.1 ∧ (g.2.1 = x11 → g.2.2.1 = s196 y13) ∧ s160_l4 (fun z0_ z1_ => s160_l3 a0 x6 k12 z0_ z1_) a0 x6 x10 y13 y14 g.1 g.2.1 g.2.2.1 g.2.2.2 = some R) (fun g => g.1) ⟨rfl, ((((List.length a0 : Int) - x11).toNat) + 1, x11, (s196 y13), y15), ⟨rfl, rfl, rfl, rfl, rfl, rfl, rfl, trivial⟩, ⟨rfl, rfl, rfl, trivial⟩, rfl, ⟨Nat.lt_succ_self _, iD, iD, iD, iD, hR⟩, trivial⟩ ?_)
         ·rintro ⟨k21, x18, x19, x20⟩ ⟨hk4, iv4_0, iv4_1, iv4_2, iv4_3, hR⟩;replace hk4 : ((List.length a0 : Int) - x18).toNat < k21 := hk4;replace hR : s160_l4 (fun z0_ z1_ => s160_l3 a0 x6 k12 z0_ z1_) a0 x6 x10 y13 y14 k21 x18 x19 x20 = some R := hR;replace iv4_0 : 0 ≤ x18 := iv4_0;replace iv4_1 : x18 ≤ (List.length a0 : Int) := iv4_1;replace iv4_2 : x11 ≤ x18 := iv4_2;replace iv4_3 : (x18 = x11 → x19 = s196 y13) := iv4_3;obtain ⟨k21, rfl⟩ : ∃ m, k21 = m + 1 := ⟨k21 - 1, by omega⟩;rw [s160_l4] at hR;(try dsimp only at hR);refine qb (qb (qa [.p, .p, .p, .p] (sm rfl rfl (sm rfl rfl (su (qv (f := cInt) (l := a0) rfl Tryz.underlying82 rfl) rfl (su (qu rfl rfl rfl) rfl ?_))))));refine qc (qj _ rfl (fun h7 => ?_) (fun h7 => ?_))
          ·replace h7 : (decide (x18 < (List.length a0 : Int))) = true := h7;replace hR := zj hR h7;(try simp only [bB] at h7);refine ql (qb (qi (ja (γ := Int) (fun g => ([(0, .g (G.sl 1 (List.map cInt a0))), (7, .omap 47), (10, .osl 10 3 0 (List.length x10)), (11, .g (G.int x18)), (12, .g (G.int (s196 y13))), (13, .ptr 13 0), (14, .g (G.int g))], [(10, .arr 46 3 (List.map S45.c x10)), (13, .box [.g (G.int y14), .g (G.int x20), .g (G.int (mgetD x6 (s196 y13) 0))]), (47, mpB (K := Int) (V := Int) (Value.int .i64) (fun v => G.int v) x6)])) (fun g => s160_j2 (fun z0_ z1_ z2_ => s160_l4 (fun z0_ z1_ => s160_l3 a0 x6 k12 z0_ z1_) a0 x6 x10 y13 y14 k21 z0_ z1_ z2_) a0 x18 g = some R) ?_ ?_)))
           ·refine qb ?_;obtain ⟨y24, by24, hR⟩ := qk hR
            have hy24 : x18 = x11 → s196 y24 = s196 y13 := fun e => by rw [e] at by24; rw [Option.some.inj (by24.symm.trans by13)]
            refine qa [.p, .p, .p, .p, .p, .p] (sm rfl rfl (sm rfl rfl (su (zh (f := cInt) (l := a0) (a := y24) rfl Tryz.underlying82 ty3 rfl rfl (z5 by24) (qz by24)) rfl (su (qf rfl ty3 rfl) rfl (su (qg rfl K196 rfl (c196 y24) (qe rfl qm)) rfl (sa rfl rfl ?_))))));refine qc (qi (qb (qa [.p, .p, .p, .p] (sm rfl rfl (sm rfl rfl (su (jh rfl rfl rfl) rfl ?_))))));refine sa rfl rfl (qc (qj _ rfl (fun h8 => ?_) (fun h8 => ?_)))
            ·replace hR := zj hR h8;refine ql ?_;exact ⟨rfl, x19, ⟨rfl, rfl, rfl, rfl, rfl, rfl, rfl, trivial⟩, ⟨rfl, rfl, rfl, trivial⟩, rfl, hR, trivial⟩
            ·replace h8 : (decide ((s196 y24) = x19)) = false := h8;replace hR := zk hR h8;(try simp only [bB] at h8);refine qb (qa [.p, .p, .p, .p, .p, .p, .p, .r, .p, .r, .p, .p, .p, .p, .p, .p, .p, .p, .p] (sm rfl rfl (sm rfl rfl (su (z6 rfl rfl rfl) rfl (su (jh rfl rfl rfl) rfl (sm rfl rfl ?_))))));refine sg rfl rfl (fun h => qam rfl rfl) rfl (sg rfl rfl (fun h => qh rfl rfl) rfl (xn rfl rfl rfl (kp _ _) (fun h => qa4 (kf := Value.int .i64) (vf := (fun v => G.int v)) (m := x6) (k := (s196 y24)) (z := 0) rfl Tryz.underlying224 Tryz.underlying3 zr3 (fun _ _ => rfl) (gd h rfl) (gd h rfl) rfl) rfl ?_));refine sg rfl rfl (fun h => zg rfl qg7 rfl) rfl (xn rfl rfl rfl (kp _ _) (fun h => z4 rfl ty3 (gd h rfl) rfl rfl) rfl ?_);refine sg rfl rfl (fun h => jh rfl (gd h rfl) (gd h rfl)) rfl (su (zf rfl rfl rfl rfl) rfl (sm rfl rfl (sg rfl rfl (fun h => qh rfl rfl) rfl (sg rfl rfl (fun h => qh rfl rfl) rfl (sg rfl rfl (fun h => jb rfl (gd h rfl) (gd h rfl)) rfl (sg rfl rfl (fun h => qu rfl (gd h rfl) rfl) rfl ?_))))));refine su (zf rfl rfl rfl rfl) rfl (sa rfl rfl (qc (qj _ rfl (fun h9 => ?_) (fun h9 => ?_))))
             ·replace hR := zj hR h9;refine qa [.p, .p] (sm rfl rfl (sa rfl rfl (qc ?_)));exact ⟨rfl, (s196 y24), ⟨rfl, rfl, rfl, rfl, rfl, rfl, rfl, trivial⟩, ⟨rfl, rfl, rfl, trivial⟩, rfl, hR, trivial⟩
             ·replace h9 : (((decide ((s196 y24) = IntKind.i64.wrap (x19 + 1))) && (decide ((mgetD x6 (s196 y24) 0) = (mgetD x6 (s196 y13) 0)))) && (decide (IntKind.i64.wrap ((s196 y24) - (s196 y13)) < 57))) = false := h9;replace hR := zk hR h9;(try simp only [bB] at h9);refine qw ?_;exact ⟨rfl, (x18, x20), ⟨rfl, rfl, rfl, rfl, rfl, trivial⟩, ⟨rfl, rfl, rfl, trivial⟩, rfl, ⟨iB, iB, hR⟩, trivial⟩
           ·rintro x22 hR;replace hR : s160_j2 (fun z0_ z1_ z2_ => s160_l4 (fun z0_ z1_ => s160_l3 a0 x6 k12 z0_ z1_) a0 x6 x10 y13 y14 k21 z0_ z1_ z2_) a0 x18 x22 = some R := hR;unfold s160_j2 at hR;obtain ⟨y23, by23, hR⟩ := qk hR;refine qa [.p, .p, .p, .p, .p, .w] (sm rfl rfl (sm rfl rfl (su (zh (f := cInt) (l := a0) (a := y23) rfl Tryz.underlying82 ty3 rfl rfl (z5 by23) (qz by23)) rfl (su (qf rfl ty3 rfl) rfl (su (zg rfl wy rfl) rfl (jf rfl rfl (za (tv := .g (G.int y23)) rfl ty3 rfl rfl rfl rfl rfl) ?_))))));refine qc ?_;have hw := wrap_i64 (n := x18 + 1) ⟨by omega, by omega⟩;refine qa [.p, .p, .p] (sm rfl rfl (su (z6 rfl rfl rfl) rfl (sa rfl rfl (qc ?_))));exact ⟨rfl, (k21, IntKind.i64.wrap (x18 + 1), x22, y23), ⟨rfl, rfl, rfl, rfl, rfl, rfl, rfl, trivial⟩, ⟨rfl, rfl, rfl, trivial⟩, rfl, ⟨iB, iB, iB, iB, iB, hR⟩, by simp⟩
          ·replace h7 : (decide (x18 < (List.length a0 : Int))) = false := h7;replace hR := zk hR h7;(try simp only [bB] at h7);refine qw ?_;exact ⟨rfl, (x18, x20), ⟨rfl, rfl, rfl, rfl, rfl, trivial⟩, ⟨rfl, rfl, rfl, trivial⟩, rfl, ⟨iB, iB, hR⟩, trivial⟩
        ·rintro ⟨x16, x17⟩ ⟨jv2_0, jv2_1, hR⟩;replace jv2_0 : x11 < x16 := jv2_0;replace jv2_1 : x16 ≤ (List.length a0 : Int) := jv2_1;replace hR : s160_j1 (fun z0_ z1_ => s160_l3 a0 x6 k12 z0_ z1_) x6 x10 y13 y14 x16 x17 = some R := hR;unfold s160_j1 at hR;refine qa [.p, .r, .p, .k, .p] (su (qp rfl rfl) rfl (sr (zx rfl ty46 rfl rfl rfl rfl) rfl (su (qr rfl Tryz.underlying69 ty46 z46 rfl (qy rfl jc) rfl (by exact lens rfl) (by decide)) rfl (st_k rfl rfl (jd (f := S45.c) (out := x10) (new := [(S45.mk y14 x17 (mgetD x6 (s196 y13) 0))]) rfl qxe rfl rfl (km rfl (ky (by decide) (by simp [S45.c]))) (vu rfl) (by simp; omega)) rfl (su (qx rfl rfl) rfl (qc ?_))))));exact ⟨rfl, (k12, x10 ++ [(S45.mk y14 x17 (mgetD x6 (s196 y13) 0))], x16), ⟨rfl, rfl, rfl, rfl, trivial⟩, ⟨rfl, rfl, trivial⟩, rfl, ⟨iB, iB, iB, iB, hR⟩, by simp⟩
       ·replace h6 : (decide (x11 < (List.length a0 : Int))) = false := h6;replace hR := zk hR h6;(try simp only [bB] at h6);refine qw ?_;refine qb (w3 (l := [(10, .g (G.sl 3 (List.map S45.c x10)))]) (m := []) 10 rfl ⟨.inr (qn6 rfl), trivial⟩ trivial rfl rfl ?_);refine qa [.p, .p, .p, .p] (sm rfl rfl (su (qg rfl K197 rfl (c197 x10) (qe rfl qm)) rfl (sa rfl rfl (sa rfl rfl (qc (qo ?_))))));obtain rfl := Option.some.inj hR;exact resN rfl ⟨rv_g rfl, rv_g rfl, trivial⟩ (by simp)
theorem c69' {g : List (Nat × List Value)} (a0 : S45) : Con (EG g) 69 [G.agg [G.int a0.fFrom, G.int a0.fTo, G.int a0.Days]] (G.tup [G.sl 1 (List.map cInt ((s69 a0)).1), G.int ((s69 a0)).2]) := by
 intro w M vs hM hgl hv;refine (c69 a0 w M vs hM hgl hv).mono ?_;rintro e w' ⟨v, h1, h2, us, h3, h4⟩;refine ⟨v, h1, h2, us, h3, ?_⟩
 match us, h4 with
 | [u1, u2], ⟨k1, k2, k3⟩ => exact ⟨qrr k1, k2, k3⟩
theorem xh {p : S45} (h : s102 p = 0) : (s104 p).length ≤ 401 ∧ ∀ d ∈ s104 p, 0 ≤ d ∧ d ≤ 99999 := by
 obtain ⟨q1, q2, q3, q4, q5, q6⟩ := period_ok p h;rw [qdh p h];refine ⟨?_, fun d hd => ?_⟩
 ·have := qbo p.Days (p.fTo + 1 - p.fFrom).toNat p.fFrom
  omega
 ·have := qa3 p.Days (p.fTo + 1 - p.fFrom).toNat p.fFrom d hd
  omega
theorem qf7 {p : S45} (h : s102 p = 0) : (s69 p).1 = s104 p := by
 rw [qdh p h];unfold s69;rw [decide_eq_false (by simpa using h), cond_false]
theorem qqz {p : S45} (h : s102 p = 0) : ((s69 p).1).length ≤ 401 := by
 rw [qf7 h]; exact (xh h).1
theorem qxg {p : S45} (h : s102 p = 0) {k : Nat} {y : Int} (hy : (s104 p)[k]? = some y) : 0 ≤ y ∧ y ≤ 99999 := (xh h).2 y (List.mem_of_getElem? hy)
theorem qou (rec1 : Int → Option (S67 × Bool)) (a0 x2 : Int) (hrec : ∀ z x, rec1 z = some (x, true) → z ≤ x.Year) : ∀ (k : Nat) (x4 : Int) (x : S67), s110_l2 rec1 a0 x2 k x4 = some (x, true) → x2 ≤ x.Year
 | 0, x4, x, h => by
  rw [s110_l2] at h;have := hrec _ _ h
  omega
 | k + 1, x4, x, h => by
  rw [s110_l2] at h;obtain ⟨y, h1, h⟩ := qk h
  cases hc : s157 y a0
  ·rw [hc, cond_false] at h;exact qou rec1 a0 x2 hrec k _ x h
  ·rw [hc, cond_true] at h
   cases h
   exact Int.le_refl _
theorem qlc (rec1 : Int → Option (S67 × Bool)) (a0 x2 b : Int) (hb : x2 ≤ b) (hrec : ∀ x, rec1 (x2 + 1) = some (x, true) → x.Year ≤ b) : ∀ (k : Nat) (x4 : Int) (x : S67), s110_l2 rec1 a0 x2 k x4 = some (x, true) → x.Year ≤ b
 | 0, x4, x, h => by
  rw [s110_l2] at h;exact hrec _ h
 | k + 1, x4, x, h => by
  rw [s110_l2] at h;obtain ⟨y, h1, h⟩ := qk h
  cases hc : s157 y a0
  ·rw [hc, cond_false] at h;exact qlc rec1 a0 x2 b hb hrec k _ x h
  ·rw [hc, cond_true] at h
   cases h
   exact hb
theorem qld (a0 : Int) : ∀ (k : Nat) (x2 : Int) (x : S67), s110_l1 a0 k x2 = some (x, true) → x2 ≤ x.Year
 | 0, x2, x, h => by rw [s110_l1] at h; cases h
 | k + 1, x2, x, h => by
  rw [s110_l1] at h;exact qou _ a0 x2 (fun z x h => qld a0 k z x h) _ _ x h
theorem qh8 (a0 b : Int) : ∀ (k : Nat) (x2 : Int) (x : S67), k = (b + 1 - x2).toNat → s110_l1 a0 k x2 = some (x, true) → x.Year ≤ b
 | 0, x2, x, _, h => by rw [s110_l1] at h; cases h
 | k + 1, x2, x, hk, h => by
  rw [s110_l1] at h;exact qlc _ a0 x2 b (by omega) (fun x h => qh8 a0 b k (x2 + 1) x (by omega) h) _ _ x h
theorem qui {d : Int} {r : S67 × Bool} (h : s110 d = some r) (hr : r.2 = true) : 2000 ≤ r.1.Year ∧ r.1.Year ≤ 2272 := by
 obtain ⟨x, t⟩ := r;have hr : t = true := hr;subst hr;unfold s110 at h;obtain ⟨y, h1, h⟩ := qk h;have g1 := qld d _ _ x h;have g2 := qh8 d (min 2272 y.1) _ _ x rfl h;show 2000 ≤ x.Year ∧ x.Year ≤ 2272
 omega
end Go.Sim
set_option maxRecDepth 10000
namespace Go.Sim
open Go.Proofs
def s108_j1 (rec2 : Nat → (List Int) → Option ((List S45) × Int)) (k9 : Nat) (x13 : List Int) : Option ((List S45) × Int) :=
 rec2 (k9 + 1) x13
def s108_l2 (a1 : S67) : List Int → Nat → (List Int) → Option ((List S45) × Int)
 | [], k9, x7 => bindO (s160 x7) fun r12 => some (r12.1, r12.2)
 | y10 :: t11, k9, x7 => bindO (s159 y10 a1) fun r14 => (bif decide (r14.2 = 0) then s108_j1 (fun k_ z0_ => s108_l2 a1 t11 k_ z0_) k9 (x7 ++ [r14.1]) else s108_j1 (fun k_ z0_ => s108_l2 a1 t11 k_ z0_) k9 x7)
def s108_l1 (a0 : S45) (a1 : S67) : List Int → Nat → Int → ByteArray → Option ((List S45) × Int)
 | [], k4, x2, x3 => (bif (decide (0 < (List.length ((s69 a0).1) : Int))) && (!decide (x3 = a1.Kind)) then some ([], 13) else s108_l2 a1 ((s69 a0).1) 0 [])
 | y5 :: t6, k4, x2, x3 => bindO (s158 y5) fun r15 => (bif (decide (r15.2 ≠ 0)) || ((decide (0 < ((k4 : Nat) : Int))) && (!(eqAnd [decide (r15.1.Year = x2), decide (r15.1.Kind = x3)]))) then some ([], 30) else s108_l1 a0 a1 t6 (k4 + 1) r15.1.Year r15.1.Kind)
def s108 (a0 : S45) (a1 : S67) : Option ((List S45) × Int) :=
 s108_l1 a0 a1 ((s69 a0).1) 0 0 ByteArray.empty
theorem c108 (a0 : S45) (a1 : S67) {R : (List S45) × Int}  (hp : s102 a0 = 0) (hR : s108 a0 a1 = some R) : Con (EG glT) 108 [G.agg [G.int a0.fFrom, G.int a0.fTo, G.int a0.Days], G.agg [G.int a1.Year, G.str a1.Kind]] (G.tup [G.sl 3 (List.map S45.c R.1), G.int R.2]) := by
 unfold s108 at hR;refine qn Tryz.func108 rfl rfl fun w0 M0 => ?_;have hl := qqz hp;refine qb (qa [.p, .p, .p, .p] (su (zl rfl rfl) rfl (su (zl rfl rfl) rfl (sa rfl rfl (sa rfl rfl (qc ?_))))));refine qb (qa [.p, .p, .p, .p, .p, .p, .p] (su (qt rfl ty46 rfl rfl rfl) rfl (su (qg rfl K69 rfl (c69' a0) (qe rfl qm)) rfl (sm rfl rfl (su (zo rfl rfl rfl) rfl (su (zo rfl rfl rfl) rfl ?_))))));refine sa rfl rfl (sa rfl rfl (qc (qb (qa [.w] (sw (zq 8 rfl z68 rfl rfl) rfl (qc ?_))))));refine qb (qb (qa [.p, .p, .p] (sm rfl rfl (su (qv (f := cInt) (l := (s69 a0).1) rfl Tryz.underlying82 rfl) rfl (sm rfl rfl (qc ?_))))));refine qi (qq (γ := Nat × (List Int) × Int × ByteArray) (fun g => ([(3, .g (G.ref [G.int a1.Year, G.str a1.Kind])), (6, .g (G.sl 1 (List.map cInt ((s69 a0).1)))), (8, .ptr 8 0), (23, .g (G.sl 1 (List.map cInt ((s69 a0).1)))), (24, .g (G.int (List.length ((s69 a0).1) : Int))), (25, .g (G.int ((g.1 : Nat) : Int)))], [(8, .box [.g (G.int g.2.2.1), .g (G.str g.2.2.2)])])) (fun g => ((s69 a0).1).drop g.1 = g.2.1 ∧ s108_l1 a0 a1 g.2.1 g.1 g.2.2.1 g.2.2.2 = some R) (fun g => List.length g.2.1) ⟨rfl, (0, ((s69 a0).1), 0, ByteArray.empty), ⟨rfl, rfl, rfl, rfl, rfl, rfl, trivial⟩, ⟨rfl, trivial⟩, rfl, ⟨rfl, hR⟩, trivial⟩ ?_)
 ·rintro ⟨k4, t6, x2, x3⟩ ⟨hd, hR⟩;replace hd : ((s69 a0).1).drop k4 = t6 := hd;replace hR : s108_l1 a0 a1 t6 k4 x2 x3 = some R := hR;refine qb (qa [.p] (su (qu rfl rfl rfl) rfl (qc (zd (f := cInt) (l := (s69 a0).1) 6 rfl fun hlz1 => ?_))));refine qb (qj _ rfl (fun h1 => ?_) (fun h1 => ?_))
  ·replace h1 : (decide (((k4 : Nat) : Int) < (List.length ((s69 a0).1) : Int))) = true := h1;obtain ⟨y5, t6, rfl, hx1, hd⟩ := ze hd (decT h1);replace h1 := decT h1;rw [s108_l1] at hR;(try dsimp only at hR);refine ql (qb (qi (qb (qa [.p, .p, .p, .p, .p] (sm rfl rfl (su (zh (f := cInt) (l := (s69 a0).1) (a := y5) rfl Tryz.underlying82 ty3 rfl rfl (Int.natCast_nonneg _) hx1) rfl ?_))))));refine su (qf rfl ty3 rfl) rfl (sa rfl rfl (sa rfl rfl (qc (qb ?_))));obtain ⟨r15, br15, hR⟩ := qk hR;refine qa [.p, .p, .p, .p, .p, .w, .w, .p] (sm rfl rfl (su (qg rfl K158 rfl (c158 y5 br15) (qe rfl qm)) rfl (sm rfl rfl (su (zo rfl rfl rfl) rfl (su (zo rfl rfl rfl) rfl (sw (zq 11 rfl z68 rfl rfl) rfl ?_))))));refine jf rfl rfl (za (tv := .g (G.agg [G.int r15.1.Year, G.str r15.1.Kind])) rfl ty68 rfl rfl rfl rfl rfl) (sa rfl rfl (qc (qb (qb (qa [.p, .p, .p, .p, .p, .p, .r, .r, .p, .p, .p] (sm rfl rfl ?_))))));refine su (jg rfl rfl rfl) rfl (sm rfl rfl (sg rfl rfl (fun h => qh rfl rfl) rfl (sg rfl rfl (fun h => z0 rfl (gd h rfl) rfl) rfl (sg rfl rfl (fun h => qh rfl (gd h rfl)) rfl (xn rfl rfl rfl (zn _ _ _) (fun h => zx rfl ty68 rfl rfl rfl rfl) rfl ?_)))));refine xn rfl rfl rfl (zn _ _ _) (fun h => zx rfl ty68 rfl rfl rfl rfl) rfl ?_;refine st_g rfl rfl rfl (zn _ _ _) (fun h => qcp [.int .i64 r15.1.Year, .string r15.1.Kind] [.int .i64 x2, .string x3] rfl qxh (gd h rfl) (gd h rfl) rfl rfl rfl) rfl (sg rfl rfl (fun h => zf rfl (gd h rfl) rfl (gd2 h rfl)) rfl (su (jj rfl rfl rfl rfl) rfl (qc (qj _ rfl (fun h7 => ?_) (fun h7 => ?_)))))
   ·replace h7 : ((decide (r15.2 ≠ 0)) || ((decide (0 < ((k4 : Nat) : Int))) && (!(eqAnd [decide (r15.1.Year = x2), decide (r15.1.Kind = x3)])))) = true := h7;replace hR := zj hR h7;(try simp only [bB] at h7);refine qb (qa [.p, .p] (sa rfl rfl (sa rfl rfl (qc (qo ?_)))));obtain rfl := Option.some.inj hR;exact resN rfl ⟨w7 rfl (qbx _), rv_g rfl, trivial⟩ (by simp)
   ·replace h7 : ((decide (r15.2 ≠ 0)) || ((decide (0 < ((k4 : Nat) : Int))) && (!(eqAnd [decide (r15.1.Year = x2), decide (r15.1.Kind = x3)])))) = false := h7;replace hR := zk hR h7;(try simp only [bB] at h7);refine ql (qa [.r, .w] (sr (zx rfl ty68 rfl rfl rfl rfl) rfl (jf rfl rfl (za (tv := .g (G.agg [G.int r15.1.Year, G.str r15.1.Kind])) rfl ty68 rfl rfl rfl rfl rfl) (qc (qa [.p, .p] (su (zc rfl rfl rfl iE) rfl ?_))))));refine sm rfl rfl (qc ?_);exact ⟨rfl, (k4 + 1, t6, r15.1.Year, r15.1.Kind), ⟨rfl, rfl, rfl, rfl, rfl, rfl, trivial⟩, ⟨rfl, trivial⟩, rfl, ⟨hd, hR⟩, by simp⟩
  ·replace h1 : (decide (((k4 : Nat) : Int) < (List.length ((s69 a0).1) : Int))) = false := h1;obtain rfl := zm hd (decF h1);rw [s108_l1] at hR;refine qw ?_;refine qb (qb (qa [.p, .p, .p, .p, .p, .r, .p, .p, .p, .p] (sm rfl rfl (su (qv (f := cInt) (l := (s69 a0).1) rfl Tryz.underlying82 rfl) rfl (su (z0 rfl rfl rfl) rfl (sm rfl rfl ?_))))));refine sg rfl rfl (fun h => zg rfl qbt rfl) rfl (xn rfl rfl rfl (kp _ _) (fun h => z4 rfl ty9 (gd h rfl) rfl rfl) rfl ?_);refine sg rfl rfl (fun h => qd rfl qbt rfl) rfl (sg rfl rfl (fun h => qf rfl ty9 (gd h rfl)) rfl (sg rfl rfl (fun h => j7 rfl (gd h rfl) (gd h rfl)) rfl (su (zf rfl rfl rfl rfl) rfl (qc (qj _ rfl (fun h3 => ?_) (fun h3 => ?_))))))
   ·replace h3 : ((decide (0 < (List.length ((s69 a0).1) : Int))) && (!decide (x3 = a1.Kind))) = true := h3;replace hR := zj hR h3;(try simp only [bB] at h3);refine qb (qa [.p, .p] (sa rfl rfl (sa rfl rfl (qc (qo ?_)))));obtain rfl := Option.some.inj hR;exact resN rfl ⟨w7 rfl (qbx _), rv_g rfl, trivial⟩ (by simp)
   ·replace h3 : ((decide (0 < (List.length ((s69 a0).1) : Int))) && (!decide (x3 = a1.Kind))) = false := h3;replace hR := zk hR h3;(try simp only [bB] at h3);refine ql (qb (qa [.w] (sw (zt 13 3 1 rfl rfl rfl) rfl (qc (qb (qb ?_))))));refine qa [.p, .p, .p] (sm rfl rfl (su (qv (f := cInt) (l := (s69 a0).1) rfl Tryz.underlying82 rfl) rfl (sm rfl rfl (qc (qi (qq (γ := Nat × (List Int) × (List Int)) (fun g => ([(3, .g (G.ref [G.int a1.Year, G.str a1.Kind])), (13, .osl 13 1 0 (List.length g.2.2)), (58, .g (G.sl 1 (List.map cInt ((s69 a0).1)))), (59, .g (G.int (List.length ((s69 a0).1) : Int))), (60, .g (G.int ((g.1 : Nat) : Int)))], [(13, .arr 3 1 (List.map cInt g.2.2))])) (fun g => g.2.2.length ≤ g.1 ∧ g.1 ≤ ((s69 a0).1).length ∧ g.2.2.length ≤ g.1 ∧ ((s69 a0).1).drop g.1 = g.2.1 ∧ s108_l2 a1 g.2.1 g.1 g.2.2 = some R) (fun g => List.length g.2.1) ⟨rfl, (0, ((s69 a0).1), []), ⟨rfl, rfl, rfl, rfl, rfl, trivial⟩, ⟨rfl, trivial⟩, rfl, ⟨iH, iH, iH, rfl, hR⟩, trivial⟩ ?_))))))
    ·rintro ⟨k9, t11, x7⟩ ⟨iv2_0, iv2_1, iv2_2, hd, hR⟩;replace hd : ((s69 a0).1).drop k9 = t11 := hd;replace hR : s108_l2 a1 t11 k9 x7 = some R := hR;replace iv2_0 : x7.length ≤ k9 := iv2_0;replace iv2_1 : k9 ≤ ((s69 a0).1).length := iv2_1;replace iv2_2 : x7.length ≤ k9 := iv2_2;refine qb (qa [.p] (su (qu rfl rfl rfl) rfl (qc (zd (f := cInt) (l := (s69 a0).1) 58 rfl fun hlz2 => ?_))));refine qb (qj _ rfl (fun h4 => ?_) (fun h4 => ?_))
     ·replace h4 : (decide (((k9 : Nat) : Int) < (List.length ((s69 a0).1) : Int))) = true := h4;obtain ⟨y10, t11, rfl, hx2, hd⟩ := ze hd (decT h4);replace h4 := decT h4;rw [s108_l2] at hR;(try dsimp only at hR);refine ql (ja (γ := (List Int)) (fun g => ([(3, .g (G.ref [G.int a1.Year, G.str a1.Kind])), (13, .osl 13 1 0 (List.length g)), (58, .g (G.sl 1 (List.map cInt ((s69 a0).1)))), (59, .g (G.int (List.length ((s69 a0).1) : Int))), (60, .g (G.int ((k9 : Nat) : Int)))], [(13, .arr 3 1 (List.map cInt g))])) (fun g => g.length ≤ k9 + 1 ∧ s108_j1 (fun k_ z0_ => s108_l2 a1 t11 k_ z0_) k9 g = some R) ?_ ?_)
      ·refine qi (qb (qa [.p, .p, .p] (su (zh (f := cInt) (l := (s69 a0).1) (a := y10) rfl Tryz.underlying82 ty3 rfl rfl (Int.natCast_nonneg _) hx2) rfl (su (qf rfl ty3 rfl) rfl (sa rfl rfl (qc ?_))))));refine qb ?_;obtain ⟨r14, br14, hR⟩ := qk hR;refine qa [.p, .p, .p, .p, .p, .p, .p, .p] (sm rfl rfl (su (qt rfl ty68 rfl rfl rfl) rfl (su (qg rfl K159 rfl (c159 y10 a1 br14) (qe rfl (qe rfl qm))) rfl (sm rfl rfl (su (zo rfl rfl rfl) rfl (su (zo rfl rfl rfl) rfl ?_))))));refine sa rfl rfl (sa rfl rfl (qc (qb (qa [.p, .p] (sm rfl rfl (su (jh rfl rfl rfl) rfl ?_))))));refine qc (qj _ rfl (fun h6 => ?_) (fun h6 => ?_))
       ·replace h6 : (decide (r14.2 = 0)) = true := h6;replace hR := zj hR h6;(try simp only [bB] at h6);refine qa [.p, .p, .p, .k, .p] (su (qp rfl rfl) rfl (sm rfl rfl (su (qr rfl Tryz.underlying82 ty3 z3 rfl (qy rfl jc) rfl (by simp []) (by decide)) rfl (st_k rfl rfl (jd (f := cInt) (out := x7) (new := [r14.1]) rfl qfq rfl rfl (km rfl (ky (by decide) (by simp []))) (vu rfl) (by simp; omega)) rfl (su (qx rfl rfl) rfl (qc ?_))))));exact ⟨rfl, x7 ++ [r14.1], ⟨rfl, rfl, rfl, rfl, rfl, trivial⟩, ⟨rfl, trivial⟩, rfl, ⟨iC, hR⟩, trivial⟩
       ·replace h6 : (decide (r14.2 = 0)) = false := h6;replace hR := zk hR h6;(try simp only [bB] at h6);refine ql ?_;exact ⟨rfl, x7, ⟨rfl, rfl, rfl, rfl, rfl, trivial⟩, ⟨rfl, trivial⟩, rfl, ⟨iC, hR⟩, trivial⟩
      ·rintro x13 ⟨jv1_0, hR⟩;replace jv1_0 : x13.length ≤ k9 + 1 := jv1_0;replace hR : s108_j1 (fun k_ z0_ => s108_l2 a1 t11 k_ z0_) k9 x13 = some R := hR;unfold s108_j1 at hR;refine qa [.p, .p] (su (zc rfl rfl rfl iE) rfl (sm rfl rfl (qc ?_)));exact ⟨rfl, (k9 + 1, t11, x13), ⟨rfl, rfl, rfl, rfl, rfl, trivial⟩, ⟨rfl, trivial⟩, rfl, ⟨iB, iB, iB, hd, hR⟩, by simp⟩
     ·replace h4 : (decide (((k9 : Nat) : Int) < (List.length ((s69 a0).1) : Int))) = false := h4;obtain rfl := zm hd (decF h4);rw [s108_l2] at hR;refine qw ?_;refine qb (w3 (l := [(13, .g (G.sl 1 (List.map cInt x7)))]) (m := []) 13 rfl ⟨.inr (qn6 rfl), trivial⟩ trivial rfl rfl ?_);obtain ⟨r12, br12, hR⟩ := qk hR;refine qa [.p, .p, .p, .p, .p, .p] (sm rfl rfl (su (qg rfl K160 rfl (c160 x7 iA br12) (qe rfl qm)) rfl (su (zo rfl rfl rfl) rfl (su (zo rfl rfl rfl) rfl (sa rfl rfl (sa rfl rfl ?_))))));refine qc (qo ?_);obtain rfl := Option.some.inj hR;exact resN rfl ⟨rv_g rfl, rv_g rfl, trivial⟩ (by simp)
def s42_j1 (rec2 : Nat → (List Int) → Option ((List S45) × Int)) (k9 : Nat) (x13 : List Int) : Option ((List S45) × Int) :=
 rec2 (k9 + 1) x13
def s42_l2 (a1 : S67) (x2 : Int) (x3 : ByteArray) : List Int → Nat → (List Int) → Option ((List S45) × Int)
 | [], k9, x7 => bindO (s112 x7) fun r12 => some (r12, 0)
 | y10 :: t11, k9, x7 => bindO (s111 (S67.mk x2 x3)) fun r14 => bindO (s111 a1) fun r15 => bindO (s111 a1) fun r16 => (bif decide (IntKind.i64.wrap ((IntKind.i64.wrap (y10 - r14.fFrom)) + r15.fFrom) ≤ r16.fTo) then s42_j1 (fun k_ z0_ => s42_l2 a1 x2 x3 t11 k_ z0_) k9 (x7 ++ [IntKind.i64.wrap ((IntKind.i64.wrap (y10 - r14.fFrom)) + r15.fFrom)]) else s42_j1 (fun k_ z0_ => s42_l2 a1 x2 x3 t11 k_ z0_) k9 x7)
def s42_l1 (a0 : S45) (a1 : S67) : List Int → Nat → Int → ByteArray → Option ((List S45) × Int)
 | [], k4, x2, x3 => (bif (decide (0 < (List.length (s104 a0) : Int))) && (!decide (x3 = a1.Kind)) then some ([], 13) else s42_l2 a1 x2 x3 (s104 a0) 0 [])
 | y5 :: t6, k4, x2, x3 => bindO (s110 y5) fun r17 => (bif (!r17.2) || ((decide (0 < ((k4 : Nat) : Int))) && (!(eqAnd [decide (r17.1.Year = x2), decide (r17.1.Kind = x3)]))) then some ([], 30) else s42_l1 a0 a1 t6 (k4 + 1) r17.1.Year r17.1.Kind)
def s42 (a0 : S45) (a1 : S67) : Option ((List S45) × Int) :=
 s42_l1 a0 a1 (s104 a0) 0 0 ByteArray.empty
theorem c42 {g : List (Nat × List Value)} (a0 : S45) (a1 : S67) {R : (List S45) × Int}  (hp : s102 a0 = 0) (hy1 : 2000 ≤ a1.Year) (hy2 : a1.Year ≤ 2272) (hR : s42 a0 a1 = some R) : Con (EG g) 42 [G.agg [G.int a0.fFrom, G.int a0.fTo, G.int a0.Days], G.agg [G.int a1.Year, G.str a1.Kind]] (G.tup [G.sl 3 (List.map S45.c R.1), G.int R.2]) := by
 unfold s42 at hR;refine qn Tryz.func42 rfl rfl fun w0 M0 => ?_
 obtain ⟨hp0, hp1⟩ : 0 ≤ a0.fFrom ∧ a0.fTo ≤ 1000000 := by have := period_ok a0 hp; omega
 have hl := (xh hp).1;refine qb (qa [.p, .p, .p, .p] (su (zl rfl rfl) rfl (su (zl rfl rfl) rfl (sa rfl rfl (sa rfl rfl (qc ?_))))));refine qb (qa [.p, .p, .p] (su (qt rfl ty46 rfl rfl rfl) rfl (su (qg rfl K104 rfl (c104 a0 iA iA) (qe rfl qm)) rfl (sa rfl rfl (qc (qb ?_))))));refine qa [.w] (sw (zq 7 rfl z74 rfl rfl) rfl (qc (qb (qb (qa [.p] (sa rfl rfl ?_))))));refine qc (qi (qq (γ := Nat × (List Int) × Int × ByteArray) (fun g => ([(3, .g (G.ref [G.int a1.Year, G.str a1.Kind])), (6, .g (G.sl 1 (List.map cInt (s104 a0)))), (7, .ptr 7 0), (8, .g (G.int ((g.1 : Nat) : Int)))], [(7, .box [.g (G.int g.2.2.1), .g (G.str g.2.2.2)])])) (fun g => (0 < g.1 → 2000 ≤ g.2.2.1 ∧ g.2.2.1 ≤ 2272) ∧ (s104 a0).drop g.1 = g.2.1 ∧ s42_l1 a0 a1 g.2.1 g.1 g.2.2.1 g.2.2.2 = some R) (fun g => List.length g.2.1) ⟨rfl, (0, (s104 a0), 0, ByteArray.empty), ⟨rfl, rfl, rfl, rfl, trivial⟩, ⟨rfl, trivial⟩, rfl, ⟨iH, rfl, hR⟩, trivial⟩ ?_))
 ·rintro ⟨k4, t6, x2, x3⟩ ⟨iv1_0, hd, hR⟩;replace hd : (s104 a0).drop k4 = t6 := hd;replace hR : s42_l1 a0 a1 t6 k4 x2 x3 = some R := hR;replace iv1_0 : (0 < k4 → 2000 ≤ x2 ∧ x2 ≤ 2272) := iv1_0;refine qb (qb (qa [.p, .p, .p, .p] (sm rfl rfl (sm rfl rfl (su (qv (f := cInt) (l := (s104 a0)) rfl Tryz.underlying82 rfl) rfl (su (qu rfl rfl rfl) rfl ?_))))));refine qc (zd (f := cInt) (l := (s104 a0)) 6 rfl fun hlz1 => ?_);refine qj _ rfl (fun h1 => ?_) (fun h1 => ?_)
  ·replace h1 : (decide (((k4 : Nat) : Int) < (List.length (s104 a0) : Int))) = true := h1;obtain ⟨y5, t6, rfl, hx1, hd⟩ := ze hd (decT h1);replace h1 := decT h1;rw [s42_l1] at hR;(try dsimp only at hR);refine ql (qb (qi (qb ?_)));obtain ⟨r17, br17, hR⟩ := qk hR;have hy5 := qxg hp hx1;refine qa [.p, .p, .p, .p, .p, .p, .p, .p, .w, .w, .p] (sm rfl rfl (sm rfl rfl (su (zh (f := cInt) (l := (s104 a0)) (a := y5) rfl Tryz.underlying82 ty3 rfl rfl (Int.natCast_nonneg _) hx1) rfl (su (qf rfl ty3 rfl) rfl (su (qg rfl K110 rfl (c110 y5 iA iA br17) (qe rfl qm)) rfl (sm rfl rfl ?_))))));refine su (zo rfl rfl rfl) rfl (su (zo rfl rfl rfl) rfl (sw (zq 9 rfl z74 rfl rfl) rfl (jf rfl rfl (za (tv := .g (G.agg [G.int r17.1.Year, G.str r17.1.Kind])) rfl ty74 rfl rfl rfl rfl rfl) (sa rfl rfl (qc (qb ?_))))));refine qb (qa [.p, .p, .p, .p, .p, .p, .r, .r, .p, .p, .p] (sm rfl rfl (su (kh rfl rfl) rfl (sm rfl rfl (sg rfl rfl (fun h => qh rfl rfl) rfl (sg rfl rfl (fun h => z0 rfl (gd h rfl) rfl) rfl ?_))))));refine sg rfl rfl (fun h => qh rfl (gd h rfl)) rfl (xn rfl rfl rfl (zn _ _ _) (fun h => zx rfl ty74 rfl rfl rfl rfl) rfl ?_);refine xn rfl rfl rfl (zn _ _ _) (fun h => zx rfl ty74 rfl rfl rfl rfl) rfl ?_;refine st_g rfl rfl rfl (zn _ _ _) (fun h => qcp [.int .i64 r17.1.Year, .string r17.1.Kind] [.int .i64 x2, .string x3] rfl qxi (gd h rfl) (gd h rfl) rfl rfl rfl) rfl (sg rfl rfl (fun h => zf rfl (gd h rfl) rfl (gd2 h rfl)) rfl (su (jj rfl rfl rfl rfl) rfl (qc (qj _ rfl (fun h7 => ?_) (fun h7 => ?_)))))
   ·replace h7 : ((!r17.2) || ((decide (0 < ((k4 : Nat) : Int))) && (!(eqAnd [decide (r17.1.Year = x2), decide (r17.1.Kind = x3)])))) = true := h7;replace hR := zj hR h7;(try simp only [bB] at h7);refine qb (qa [.p, .p] (sa rfl rfl (sa rfl rfl (qc (qo ?_)))));obtain rfl := Option.some.inj hR;exact resN rfl ⟨w7 rfl (qbx _), rv_g rfl, trivial⟩ (by simp)
   ·replace h7 : ((!r17.2) || ((decide (0 < ((k4 : Nat) : Int))) && (!(eqAnd [decide (r17.1.Year = x2), decide (r17.1.Kind = x3)])))) = false := h7;replace hR := zk hR h7;(try simp only [bB] at h7);refine ql (qa [.r, .w] (sr (zx rfl ty74 rfl rfl rfl rfl) rfl (jf rfl rfl (za (tv := .g (G.agg [G.int r17.1.Year, G.str r17.1.Kind])) rfl ty74 rfl rfl rfl rfl rfl) (qc (qa [.p, .p, .p] (sm rfl rfl ?_))))));refine su (zc rfl rfl rfl iE) rfl (sa rfl rfl (qc ?_));exact ⟨rfl, (k4 + 1, t6, r17.1.Year, r17.1.Kind), ⟨rfl, rfl, rfl, rfl, trivial⟩, ⟨rfl, trivial⟩, rfl, ⟨(fun _ => qui br17 (by revert h7; cases r17.2 <;> simp)), hd, hR⟩, by simp⟩
  ·replace h1 : (decide (((k4 : Nat) : Int) < (List.length (s104 a0) : Int))) = false := h1;obtain rfl := zm hd (decF h1);rw [s42_l1] at hR;refine qw ?_;refine qb (qb (qa [.p, .p, .p, .p, .p, .r, .p, .p, .p, .p] (sm rfl rfl (su (qv (f := cInt) (l := (s104 a0)) rfl Tryz.underlying82 rfl) rfl (su (z0 rfl rfl rfl) rfl (sm rfl rfl ?_))))));refine sg rfl rfl (fun h => zg rfl qhn rfl) rfl (xn rfl rfl rfl (kp _ _) (fun h => z4 rfl ty9 (gd h rfl) rfl rfl) rfl ?_);refine sg rfl rfl (fun h => qd rfl qhn rfl) rfl (sg rfl rfl (fun h => qf rfl ty9 (gd h rfl)) rfl (sg rfl rfl (fun h => j7 rfl (gd h rfl) (gd h rfl)) rfl (su (zf rfl rfl rfl rfl) rfl (qc (qj _ rfl (fun h3 => ?_) (fun h3 => ?_))))))
   ·replace h3 : ((decide (0 < (List.length (s104 a0) : Int))) && (!decide (x3 = a1.Kind))) = true := h3;replace hR := zj hR h3;(try simp only [bB] at h3);refine qb (qa [.p, .p] (sa rfl rfl (sa rfl rfl (qc (qo ?_)))));obtain rfl := Option.some.inj hR;exact resN rfl ⟨w7 rfl (qbx _), rv_g rfl, trivial⟩ (by simp)
   ·replace h3 : ((decide (0 < (List.length (s104 a0) : Int))) && (!decide (x3 = a1.Kind))) = false := h3;replace hR := zk hR h3;(try simp only [bB] at h3);refine ql (qb (qa [.w] (sw (zt 11 3 1 rfl rfl rfl) rfl (qc (qb (qb ?_))))));refine qa [.p] (sa rfl rfl (qc (qi (qq (γ := Nat × (List Int) × (List Int)) (fun g => ([(3, .g (G.ref [G.int a1.Year, G.str a1.Kind])), (6, .g (G.sl 1 (List.map cInt (s104 a0)))), (7, .ptr 7 0), (11, .osl 11 1 0 (List.length g.2.2)), (12, .g (G.int ((g.1 : Nat) : Int)))], [(7, .box [.g (G.int x2), .g (G.str x3)]), (11, .arr 3 1 (List.map cInt g.2.2))])) (fun g => g.2.2.length ≤ g.1 ∧ g.1 ≤ (s104 a0).length ∧ g.2.2.length ≤ g.1 ∧ (s104 a0).drop g.1 = g.2.1 ∧ s42_l2 a1 x2 x3 g.2.1 g.1 g.2.2 = some R) (fun g => List.length g.2.1) ⟨rfl, (0, (s104 a0), []), ⟨rfl, rfl, rfl, rfl, rfl, trivial⟩, ⟨rfl, rfl, trivial⟩, rfl, ⟨iH, iH, iH, rfl, hR⟩, trivial⟩ ?_))))
    ·rintro ⟨k9, t11, x7⟩ ⟨iv2_0, iv2_1, iv2_2, hd, hR⟩;replace hd : (s104 a0).drop k9 = t11 := hd;replace hR : s42_l2 a1 x2 x3 t11 k9 x7 = some R := hR;replace iv2_0 : x7.length ≤ k9 := iv2_0;replace iv2_1 : k9 ≤ (s104 a0).length := iv2_1;replace iv2_2 : x7.length ≤ k9 := iv2_2;refine qb (qb (qa [.p, .p, .p, .p] (sm rfl rfl (sm rfl rfl (su (qv (f := cInt) (l := (s104 a0)) rfl Tryz.underlying82 rfl) rfl (su (qu rfl rfl rfl) rfl ?_))))));refine qc (zd (f := cInt) (l := (s104 a0)) 6 rfl fun hlz2 => ?_);refine qj _ rfl (fun h4 => ?_) (fun h4 => ?_)
     ·replace h4 : (decide (((k9 : Nat) : Int) < (List.length (s104 a0) : Int))) = true := h4;obtain ⟨y10, t11, rfl, hx2, hd⟩ := ze hd (decT h4);replace h4 := decT h4;rw [s42_l2] at hR;(try dsimp only at hR);refine ql (ja (γ := (List Int)) (fun g => ([(3, .g (G.ref [G.int a1.Year, G.str a1.Kind])), (6, .g (G.sl 1 (List.map cInt (s104 a0)))), (7, .ptr 7 0), (11, .osl 11 1 0 (List.length g)), (12, .g (G.int ((k9 : Nat) : Int)))], [(7, .box [.g (G.int x2), .g (G.str x3)]), (11, .arr 3 1 (List.map cInt g))])) (fun g => g.length ≤ k9 + 1 ∧ s42_j1 (fun k_ z0_ => s42_l2 a1 x2 x3 t11 k_ z0_) k9 g = some R) ?_ ?_)
      ·refine qi (qb ?_);obtain ⟨r14, br14, hR⟩ := qk hR;obtain ⟨r15, br15, hR⟩ := qk hR;have hyr := iv1_0 (by have := decF h1; omega);refine zu [.p, .p, .p, .p, .r, .p, .p, .p, .p, .p, .p, .p, .p] (by kernel_rfl) (sm rfl rfl (sm rfl rfl (su (zh (f := cInt) (l := (s104 a0)) (a := y10) rfl Tryz.underlying82 ty3 rfl rfl (Int.natCast_nonneg _) hx2) rfl (su (qf rfl ty3 rfl) rfl (sr (zx rfl ty74 rfl rfl rfl rfl) rfl (su (qg rfl K111 rfl (c111 (S67.mk x2 x3) iA iA br14) (qe rfl qm)) rfl ?_))))));refine su (qdy rfl qaq rfl rfl) rfl (su (jb rfl rfl rfl) rfl (su (qt rfl ty74 rfl rfl rfl) rfl (su (qg rfl K111 rfl (c111 a1 iA iA br15) (qe rfl qm)) rfl (su (qdy rfl qaq rfl rfl) rfl (su (z6 rfl rfl rfl) rfl (sa rfl rfl ?_))))));refine qc (qb ?_);obtain ⟨r16, br16, hR⟩ := qk hR;refine qa [.p, .p, .p, .p, .p] (sm rfl rfl (su (qt rfl ty74 rfl rfl rfl) rfl (su (qg rfl K111 rfl (c111 a1 iA iA br16) (qe rfl qm)) rfl (su (qdy rfl wy rfl rfl) rfl (su (j8 rfl rfl rfl) rfl (qc ?_))))));refine qj _ rfl (fun h6 => ?_) (fun h6 => ?_)
       ·replace h6 : (decide (IntKind.i64.wrap ((IntKind.i64.wrap (y10 - r14.fFrom)) + r15.fFrom) ≤ r16.fTo)) = true := h6;replace hR := zj hR h6;(try simp only [bB] at h6);refine qa [.p, .p, .p, .k, .p] (su (qp rfl rfl) rfl (sm rfl rfl (su (qr rfl Tryz.underlying82 ty3 z3 rfl (qy rfl jc) rfl (by simp []) (by decide)) rfl (st_k rfl rfl (jd (f := cInt) (out := x7) (new := [IntKind.i64.wrap ((IntKind.i64.wrap (y10 - r14.fFrom)) + r15.fFrom)]) rfl qfq rfl rfl (km rfl (ky (by decide) (by simp []))) (vu rfl) (by simp; omega)) rfl (su (qx rfl rfl) rfl (qc ?_))))));exact ⟨rfl, x7 ++ [IntKind.i64.wrap ((IntKind.i64.wrap (y10 - r14.fFrom)) + r15.fFrom)], ⟨rfl, rfl, rfl, rfl, rfl, trivial⟩, ⟨rfl, rfl, trivial⟩, rfl, ⟨iC, hR⟩, trivial⟩
       ·replace h6 : (decide (IntKind.i64.wrap ((IntKind.i64.wrap (y10 - r14.fFrom)) + r15.fFrom) ≤ r16.fTo)) = false := h6;replace hR := zk hR h6;(try simp only [bB] at h6);refine ql ?_;exact ⟨rfl, x7, ⟨rfl, rfl, rfl, rfl, rfl, trivial⟩, ⟨rfl, rfl, trivial⟩, rfl, ⟨iC, hR⟩, trivial⟩
      ·rintro x13 ⟨jv1_0, hR⟩;replace jv1_0 : x13.length ≤ k9 + 1 := jv1_0;replace hR : s42_j1 (fun k_ z0_ => s42_l2 a1 x2 x3 t11 k_ z0_) k9 x13 = some R := hR;unfold s42_j1 at hR;refine qa [.p, .p, .p] (sm rfl rfl (su (zc rfl rfl rfl iE) rfl (sa rfl rfl (qc ?_))));exact ⟨rfl, (k9 + 1, t11, x13), ⟨rfl, rfl, rfl, rfl, rfl, trivial⟩, ⟨rfl, rfl, trivial⟩, rfl, ⟨iB, iB, iB, hd, hR⟩, by simp⟩
     ·replace h4 : (decide (((k9 : Nat) : Int) < (List.length (s104 a0) : Int))) = false := h4;obtain rfl := zm hd (decF h4);rw [s42_l2] at hR;refine qw ?_;refine qb ?_;obtain ⟨r12, br12, hR⟩ := qk hR;refine qa [.p, .r, .p, .p] (su (qp rfl rfl) rfl (sr (qca rfl K112 rfl (n112 x7 iA br12) (by decide) (qcb fun _ => xd (xd (xd (qc7)))) (qfr rfl rfl qfs)) rfl (sa rfl rfl (sa rfl rfl (qc (qo ?_))))));obtain rfl := Option.some.inj hR;exact resN rfl ⟨rv_g rfl, rv_g rfl, trivial⟩ (by simp)
theorem qq0 {a b c : Int} (h : s90 a b c = 0) : b ≤ a ∧ a ≤ c := qkv h
end Go.Sim
set_option maxRecDepth 10000
namespace Go.Sim
open Go.Proofs
def s39 (a0 : S45) (a1 : S67) : Option ((List S45) × Int) :=
 (bif decide ((s84 [(s102 a0), (s107 a1)]) ≠ 0) then some ([], (s84 [(s102 a0), (s107 a1)])) else bindO (s108 a0 a1) fun r1 => some (r1.1, r1.2))
def s6_j1 (r1 : (List S45) × Int) (x2 : Int) (x3 : List S45) : Option Bool :=
 bindO (s43 r1.1 x3) fun r4 => some (r4 && (decide (r1.2 = x2)))
noncomputable def s6 (a0 : S45) (a1 : S67) : Option Bool :=
 (bif (!s16) || (decide (60 < (ByteArray.size a1.Kind : Int))) then some s16 else bindO (s39 a0 a1) fun r1 => (bif decide ((s35 [(s40 a0), (s41 a1)]) = 0) then bindO (s42 a0 a1) fun r5 => s6_j1 r1 r5.2 r5.1 else s6_j1 r1 (s35 [(s40 a0), (s41 a1)]) []))
def sun (n : Int) : Int := n - (n + 6) % 7
theorem xe (n : Int) : n - 6 ≤ sun n ∧ sun n ≤ n := by unfold sun; omega
theorem qh9 {x : Int} (h : 0 ≤ x) (h' : x ≤ 1000000000) : s188 x = (x + 5) % 7 := by
 unfold s188;rw [wrap_i64 ⟨by omega, by omega⟩, Int.tmod_eq_emod_of_nonneg (by omega)]
theorem qdz : ∀ (k : Nat) (x : Int), (x + 6) % 7 < (k : Int) → 7 ≤ x - (x + 6) % 7 → x ≤ 1000000000 → s162_l1 k x = some (sun x)
 | 0, x, h, _, _ => by omega
 | k + 1, x, h, h1, h2 => by
  rw [s162_l1, qbu (by omega) h2]
  by_cases h3 : (x + 5) % 7 = 6
  ·rw [decide_eq_false (by simpa using h3), cond_false];unfold sun
   congr 1
   omega
  ·rw [decide_eq_true h3, cond_true, wrap_i64 ⟨by omega, by omega⟩, qdz k (x - 1) (by omega) (by omega) (by omega)];unfold sun
   congr 1
   omega
theorem qr5 {y : Int} (h : 2000 ≤ y) (h' : y ≤ 3000) : s162 y 3 = some (sun (N3 y)) := by
 have := qf6 h h';unfold s162;rw [qr4 h h'];exact qdz _ _ (by omega) (by omega) (by omega)
theorem qov {y : Int} (h : 2000 ≤ y) (h' : y ≤ 3000) : s162 y 10 = some (sun (N10 y)) := by
 have := qf6 h h';unfold s162;rw [qos h h'];exact qdz _ _ (by omega) (by omega) (by omega)
theorem qow (y : Int) : s223 y 2 = some (28 + lp y) := by
 have h : s248 y = s224 y := rfl;unfold s223 lp;rw [h]
 cases s224 y <;> rfl
theorem vt {y m r : Int} (hm : m ≠ 2) (h : ixO lenL (IntKind.i64.wrap (m - 1)) = some r) : s223 y m = some r := by
 unfold s223;rw [decide_eq_false hm, Bool.false_and, cond_false, h]
 rfl
theorem qr6 {y m : Int} (h : 2000 ≤ y) (h' : y ≤ 3000) : s221 y m 31 = s221_l2 y ((m - 1).toNat) (30 + Dy (y - 2000).toNat) 1 := by
 have hn := w4 h;unfold s221;rw [wrap_i64 (n := y - 2000) ⟨by omega, by omega⟩, wrap_i64 (n := (31 : Int) - 1) ⟨by omega, by omega⟩];have := qe2 y m (y - 2000).toNat 0 30 (by omega) (by omega) (by omega);simp only [Nat.zero_add, Dy] at this
 have e : (y - 2000 - 0).toNat = (y - 2000).toNat := by simp
 rw [e];show s221_l1 y m (y - 2000).toNat 30 ((0 : Nat) : Int) = _;rw [this]
 congr 1
 omega
theorem qxj {y : Int} (h : 2000 ≤ y) (h' : y ≤ 3000) : s221 y 3 31 = some (N3 y) := by
 have hn := w4 h;have h1 := wa y;have h2 := qdx (y - 2000).toNat;rw [qr6 h h'];show s221_l2 y 2 _ 1 = _;rw [s221_l2, vt (y := y) (m := 1) (r := 31) (by decide) rfl];simp only [bindO];rw [wrap_i64 ⟨by omega, by omega⟩, s221_l2, show (1 : Int) + 1 = 2 from rfl, qow];simp only [bindO];rw [wrap_i64 ⟨by omega, by omega⟩, s221_l2];unfold N3
 congr 1
 omega
theorem quj {y : Int} (h : 2000 ≤ y) (h' : y ≤ 3000) : s221 y 10 31 = some (N10 y) := by
 have hn := w4 h;have h1 := wa y;have h2 := qdx (y - 2000).toNat;rw [qr6 h h'];show s221_l2 y 9 _ 1 = _;rw [s221_l2, vt (y := y) (m := 1) (r := 31) (by decide) rfl];simp only [bindO];rw [wrap_i64 ⟨by omega, by omega⟩, s221_l2, show (1 : Int) + 1 = 2 from rfl, qow];simp only [bindO];rw [wrap_i64 ⟨by omega, by omega⟩, s221_l2, show (2 : Int) + 1 = 3 from rfl, vt (y := y) (m := 3) (r := 31) (by decide) rfl];simp only [bindO];rw [wrap_i64 ⟨by omega, by omega⟩, s221_l2, show (3 : Int) + 1 = 4 from rfl, vt (y := y) (m := 4) (r := 30) (by decide) rfl];simp only [bindO];rw [wrap_i64 ⟨by omega, by omega⟩, s221_l2, show (4 : Int) + 1 = 5 from rfl, vt (y := y) (m := 5) (r := 31) (by decide) rfl];simp only [bindO];rw [wrap_i64 ⟨by omega, by omega⟩, s221_l2, show (5 : Int) + 1 = 6 from rfl, vt (y := y) (m := 6) (r := 30) (by decide) rfl];simp only [bindO];rw [wrap_i64 ⟨by omega, by omega⟩, s221_l2, show (6 : Int) + 1 = 7 from rfl, vt (y := y) (m := 7) (r := 31) (by decide) rfl];simp only [bindO];rw [wrap_i64 ⟨by omega, by omega⟩, s221_l2, show (7 : Int) + 1 = 8 from rfl, vt (y := y) (m := 8) (r := 31) (by decide) rfl];simp only [bindO];rw [wrap_i64 ⟨by omega, by omega⟩, s221_l2, show (8 : Int) + 1 = 9 from rfl, vt (y := y) (m := 9) (r := 30) (by decide) rfl];simp only [bindO];rw [wrap_i64 ⟨by omega, by omega⟩, s221_l2];unfold N10
 congr 1
 omega
theorem qox {y m n : Int} (h : s221 y m 31 = some n) (h0 : 0 ≤ n) (h1 : n ≤ 1000000) : s189 y m = some (sun n) := by
 unfold s189;rw [h];simp only [bindO];rw [qh9 h0 (by omega), wrap_i64 (n := (n + 5) % 7 + 7) ⟨by omega, by omega⟩, wrap_i64 (n := (n + 5) % 7 + 7 - 6) ⟨by omega, by omega⟩, Int.tmod_eq_emod_of_nonneg (by omega), wrap_i64 ⟨by omega, by omega⟩];unfold sun
 congr 1
 omega
theorem qr7 {y : Int} (h : 2000 ≤ y) (h' : y ≤ 3000) : s189 y 3 = some (sun (N3 y)) := by
 have := qf6 h h';exact qox (qxj h h') (by omega) (by omega)
theorem qoy {y : Int} (h : 2000 ≤ y) (h' : y ≤ 3000) : s189 y 10 = some (sun (N10 y)) := by
 have := qf6 h h';exact qox (quj h h') (by omega) (by omega)
def QD (y m R : Int) : Prop := ∀ (k : Nat) (x : Int), 0 ≤ x → x < R → x.toNat < k → ∃ t, s195_l2 y k x m = some (y, t)
theorem quk {y m r : Int} (h : s223 y m = some r) : QD y m r
 | 0, x, _, _, hk => by omega
 | k + 1, x, h0, h1, hk => by
  rw [s195_l2, h];simp only [bindO];rw [decide_eq_false (by omega), cond_false];exact ⟨_, rfl⟩
theorem wb {y m r R : Int} (h : s223 y m = some r) (hr : 0 < r) (hR : r + R ≤ 1000) (hm : 0 ≤ m ∧ m ≤ 100) (hq : QD y (m + 1) R) : QD y m (r + R)
 | 0, x, _, _, hk => by omega
 | k + 1, x, h0, h1, hk => by
  rw [s195_l2, h];simp only [bindO]
  by_cases hx : r ≤ x
  ·rw [decide_eq_true hx, cond_true, wrap_i64 (n := x - r) ⟨by omega, by omega⟩, wrap_i64 (n := m + 1) ⟨by omega, by omega⟩];exact hq k (x - r) (by omega) (by omega) (by omega)
  ·rw [decide_eq_false hx, cond_false];exact ⟨_, rfl⟩
theorem qul (y : Int) : QD y 1 (365 + lp y) := by
 have hl := wa y;have q12 : QD y 12 31 := quk (vt (by decide) rfl);have q11 := wb (R := 31) (vt (y := y) (m := 11) (r := 30) (by decide) rfl) (by decide) (by decide) (by decide) q12;have q10 := wb (R := 30 + 31) (vt (y := y) (m := 10) (r := 31) (by decide) rfl) (by decide) (by decide) (by decide) q11;have q9 := wb (R := 31 + (30 + 31)) (vt (y := y) (m := 9) (r := 30) (by decide) rfl) (by decide) (by decide) (by decide) q10;have q8 := wb (R := 30 + (31 + (30 + 31))) (vt (y := y) (m := 8) (r := 31) (by decide) rfl) (by decide) (by decide) (by decide) q9;have q7 := wb (R := 31 + (30 + (31 + (30 + 31)))) (vt (y := y) (m := 7) (r := 31) (by decide) rfl) (by decide) (by decide) (by decide) q8;have q6 := wb (R := 31 + (31 + (30 + (31 + (30 + 31))))) (vt (y := y) (m := 6) (r := 30) (by decide) rfl) (by decide) (by decide) (by decide) q7;have q5 := wb (R := 30 + (31 + (31 + (30 + (31 + (30 + 31)))))) (vt (y := y) (m := 5) (r := 31) (by decide) rfl) (by decide) (by decide) (by decide) q6;have q4 := wb (R := 31 + (30 + (31 + (31 + (30 + (31 + (30 + 31))))))) (vt (y := y) (m := 4) (r := 30) (by decide) rfl) (by decide) (by decide) (by decide) q5;have q3 := wb (R := 30 + (31 + (30 + (31 + (31 + (30 + (31 + (30 + 31)))))))) (vt (y := y) (m := 3) (r := 31) (by decide) rfl) (by decide) (by decide) (by decide) q4;have q2 := wb (qow y) (by omega) (by omega) (by decide) q3;have q1 := wb (vt (y := y) (m := 1) (r := 31) (by decide) rfl) (by decide) (by omega) (by decide) q2;intro k x h0 h1 hk;exact q1 k x h0 (by omega) hk
theorem qe3 (y : Int) : ∀ (k : Nat) (x m : Int), 0 ≤ x → x ≤ 1000000 → x.toNat < k → ∃ t, s161_l2 y k x m = some (y, t)
 | 0, x, m, _, _, hk => by omega
 | k + 1, x, m, h0, h1, hk => by
  have hr := qkm y m;rw [s161_l2]
  by_cases hx : s199 y m ≤ x
  ·rw [decide_eq_true hx, cond_true, wrap_i64 (n := x - s199 y m) ⟨by omega, by omega⟩];exact qe3 y k _ _ (by omega) (by omega) (by omega)
  ·rw [decide_eq_false hx, cond_false];exact ⟨_, rfl⟩
theorem qia (day : Int) (hd : day ≤ 1000000) : ∀ (k k' n : Nat), Dy n ≤ day → (day - Dy n).toNat < k → (day - Dy n).toNat < k' →
  ∃ (N : Nat) (t1 t2 : Int × Int), s195_l1 k (day - Dy n) (2000 + (n : Int)) = some (2000 + (N : Int), t1) ∧ s161_l1 k' (day - Dy n) (2000 + (n : Int)) = some (2000 + (N : Int), t2) ∧ Dy N ≤ day ∧ day < Dy (N + 1)
 | 0, _, n, _, hk, _ => by omega
 | _ + 1, 0, n, _, _, hk => by omega
 | k + 1, k' + 1, n, h0, hk, hk' => by
  have hr := qa1 (2000 + (n : Int));have hn := qdx n;rw [s195_l1, s161_l1, qor]
  by_cases hx : s198 (2000 + (n : Int)) ≤ day - Dy n
  ·rw [decide_eq_true hx, cond_true, cond_true, wrap_i64 (n := day - Dy n - s198 (2000 + (n : Int))) ⟨by omega, by omega⟩, wrap_i64 (n := 2000 + (n : Int) + 1) ⟨by omega, by omega⟩]
   have e1 : day - Dy n - s198 (2000 + (n : Int)) = day - Dy (n + 1) := by rw [Dy]; omega
   have e2 : 2000 + (n : Int) + 1 = 2000 + ((n + 1 : Nat) : Int) := by omega
   rw [e1, e2];have e3 : Dy (n + 1) = Dy n + s198 (2000 + (n : Int)) := rfl;exact qia day hd k k' (n + 1) (by omega) (by omega) (by omega)
  ·rw [decide_eq_false hx, cond_false, cond_false];have e3 : Dy (n + 1) = Dy n + s198 (2000 + (n : Int)) := rfl;have e4 := qoq (2000 + (n : Int));obtain ⟨t1, g1⟩ := qul (2000 + (n : Int)) ((day - Dy n).toNat + 1) (day - Dy n) (by omega) (by omega) (by omega);obtain ⟨t2, g2⟩ := qe3 (2000 + (n : Int)) ((day - Dy n).toNat + 1) (day - Dy n) 1 (by omega) (by omega) (by omega);exact ⟨n, t1, t2, g1, g2, h0, by omega⟩
theorem qum {day : Int} (h0 : 0 ≤ day) (h1 : day ≤ 1000000) : ∃ (N : Nat) (t1 t2 : Int × Int), s195 day = some (2000 + (N : Int), t1) ∧ s161 day = some (2000 + (N : Int), t2) ∧ Dy N ≤ day ∧ day < Dy (N + 1) := by
 have := qia day h1 (day.toNat + 1) (day.toNat + 1) 0 (by simpa [Dy] using h0) (by simp [Dy]) (by simp [Dy])
 simpa [Dy, s195, s161] using this
abbrev kS : ByteArray := ⟨#[83]⟩
abbrev kW : ByteArray := ⟨#[87]⟩
theorem kSW : ¬ kW = kS := by decide
theorem qq1 {w : Int} (h : 0 ≤ w) (h' : w < 7) : s192 127 w = true := by
 have : w = 0 ∨ w = 1 ∨ w = 2 ∨ w = 3 ∨ w = 4 ∨ w = 5 ∨ w = 6 := by omega
 rcases this with rfl | rfl | rfl | rfl | rfl | rfl | rfl <;> rfl
theorem qle {y : Int} (h : 2000 ≤ y) (h' : y ≤ 3000) : s138 ⟨y, kS⟩ = some (sun (N3 y)) := by
 unfold s138;rw [decide_eq_true rfl, cond_true, qr7 h h']; rfl
theorem qr8 {y : Int} (h : 2000 ≤ y) (h' : y ≤ 3000) : s138 ⟨y, kW⟩ = some (sun (N10 y)) := by
 unfold s138;rw [decide_eq_false kSW, cond_false, qoy h h']; rfl
theorem qr9 {y : Int} (h : 2000 ≤ y) (h' : y ≤ 2999) : s111 ⟨y, kS⟩ = some ⟨sun (N3 y), sun (N10 y) - 1, 127⟩ := by
 have h1 := qf6 h (by omega);have h2 := xe (N10 y);unfold s111;rw [decide_eq_true rfl, cond_true, qr5 h (by omega), qov h (by omega)];simp only [bindO];rw [wrap_i64 ⟨by omega, by omega⟩]
theorem qsa {y : Int} (h : 2000 ≤ y) (h' : y ≤ 2999) : s111 ⟨y, kW⟩ = some ⟨sun (N10 y), sun (N3 (y + 1)) - 1, 127⟩ := by
 have h1 := qf6 (y := y + 1) (by omega) (by omega);have h2 := xe (N3 (y + 1));unfold s111;rw [decide_eq_false kSW, cond_false, qov h (by omega)];simp only [bindO];rw [wrap_i64 (n := y + 1) ⟨by omega, by omega⟩, qr5 (by omega) (by omega)]
 simp only
 rw [wrap_i64 ⟨by omega, by omega⟩]
theorem qoz {f t d : Int} (h0 : 0 ≤ d) (h1 : d ≤ 1000000) : s157 ⟨f, t, 127⟩ d = decide (f ≤ d ∧ d ≤ t) := by
 unfold s157;rw [qbu h0 (by omega), qq1 (by omega) (by omega), Bool.and_true]
 simp
theorem qau (rec1 : Int → Option (S67 × Bool)) {day y : Int} (h0 : 0 ≤ day) (h1 : day ≤ 99999) (h : 2000 ≤ y) (h' : y ≤ 2999) : s110_l2 rec1 day y 2 0 =
  bif decide (sun (N3 y) ≤ day ∧ day ≤ sun (N10 y) - 1) then some (⟨y, kS⟩, true) else bif decide (sun (N10 y) ≤ day ∧ day ≤ sun (N3 (y + 1)) - 1) then some (⟨y, kW⟩, true) else rec1 (y + 1) := by
 have e1 : ByteArray.extract (⟨#[83, 87]⟩) (Int.toNat 0) (Int.toNat (IntKind.i64.wrap (0 + 1))) = kS := rfl;have e2 : ByteArray.extract (⟨#[83, 87]⟩) (Int.toNat (0 + 1)) (Int.toNat (IntKind.i64.wrap (0 + 1 + 1))) = kW := rfl;rw [s110_l2, e1, qr9 h h'];simp only [bindO];rw [qoz h0 (by omega)]
 cases decide (sun (N3 y) ≤ day ∧ day ≤ sun (N10 y) - 1)
 ·rw [cond_false, cond_false, s110_l2, e2, qsa h h'];simp only [bindO];rw [qoz h0 (by omega)]
  cases decide (sun (N10 y) ≤ day ∧ day ≤ sun (N3 (y + 1)) - 1)
  ·rw [cond_false, cond_false, s110_l2]
  ·rfl
 ·rfl
theorem qjs {m n : Nat} (h : m ≤ n) : Dy m ≤ Dy n := by
 induction n with
 | zero => rw [Nat.le_zero.1 h]; exact Int.le_refl _
 | succ n ih =>
  have hr := qa1 (2000 + (n : Int))
  rcases Nat.lt_or_ge n m with h' | h'
  ·have : m = n + 1 := by omega
   rw [this]; exact Int.le_refl _
  ·have := ih h';rw [Dy]; omega
def beg (s : S67) : Int := if s.Kind = kS then sun (N3 s.Year) else sun (N10 s.Year)
def nxt (s : S67) : Int := if s.Kind = kS then sun (N10 s.Year) else sun (N3 (s.Year + 1))
def okS (s : S67) : Prop := 2000 ≤ s.Year ∧ s.Year ≤ 2272 ∧ (s.Kind = kS ∨ s.Kind = kW)
theorem qo0 (n : Nat) : N3 (2000 + (n : Int)) = 89 + lp (2000 + (n : Int)) + Dy n := by
 unfold N3
 have : (2000 + (n : Int) - 2000).toNat = n := by omega
 rw [this]
theorem qlf (n : Nat) : N10 (2000 + (n : Int)) = 303 + lp (2000 + (n : Int)) + Dy n := by
 unfold N10
 have : (2000 + (n : Int) - 2000).toNat = n := by omega
 rw [this]
theorem qd0 (n : Nat) : Dy (n + 1) = Dy n + (365 + lp (2000 + (n : Int))) := by rw [Dy, qoq]
theorem qo1 {day : Int} (h0 : 0 ≤ day) (h1 : day ≤ 99999) :
  (∃ s, s158 day = some (s, 0) ∧ s110 day = some (s, true) ∧ okS s ∧ beg s ≤ day ∧ day < nxt s) ∨ ((∃ s, s158 day = some (s, 30)) ∧ ∃ s, s110 day = some (s, false)) := by
 obtain ⟨N, t1, t2, g1, g2, g3, g4⟩ := qum h0 (by omega);have hN := qdx N
 have hn : (N : Int) ≤ 273 := by omega
 have hl := wa (2000 + (N : Int));have a3 := qo0 N;have a10 := qlf N;have s3 := xe (N3 (2000 + (N : Int)));have s10 := xe (N10 (2000 + (N : Int)));have dn := qd0 N;have b3 := qo0 (N + 1);have bl := wa (2000 + ((N + 1 : Nat) : Int));have bs := xe (N3 (2000 + ((N + 1 : Nat) : Int)))
 have ec : 2000 + (N : Int) + 1 = 2000 + ((N + 1 : Nat) : Int) := by omega
 have hE0 : sun (N3 2000) = 85 := rfl;have hE1 := qo0 273;have hEl := wa (2000 + ((273 : Nat) : Int));have hEs := xe (N3 (2000 + ((273 : Nat) : Int)))
 have h153 : s153 day = 0 := by
  unfold s153 s155 s154;rw [decide_eq_false (by omega : ¬ day < 0), decide_eq_false (by omega : ¬ 99999 < day)]
  rfl
 -- the program
 have p1 : s138 s193 = some (sun (N3 2000)) := qle (by omega) (by omega);have p2 : s138 (s139 s194) = some (sun (N3 2273)) := qle (y := 2273) (by omega) (by omega)
 have c273 : (2000 + ((273 : Nat) : Int)) = 2273 := by omega
 rw [c273] at hE1 hEl hEs
 have eP : s158 day = (bif (decide (day < sun (N3 2000))) || (decide (sun (N3 2273) ≤ day)) then some ((S67.mk 0 ByteArray.empty), 30) else bif decide (day < sun (N3 (2000 + (N : Int)))) then some ((S67.mk (2000 + (N : Int) - 1) kW), 0) else bif decide (day < sun (N10 (2000 + (N : Int)))) then some ((S67.mk (2000 + (N : Int)) kS), 0) else some ((S67.mk (2000 + (N : Int)) kW), 0)) := by
  unfold s158;rw [h153, decide_eq_false (by decide : ¬ (0 : Int) ≠ 0), cond_false, p1];simp only [bindO]
  by_cases hA : day < sun (N3 2000)
  ·rw [decide_eq_true hA, Bool.not_true, cond_false];simp only [Bool.true_or, cond_true]
  ·rw [decide_eq_false hA, Bool.not_false, cond_true, p2];simp only [Bool.false_or]
   cases decide (sun (N3 2273) ≤ day)
   ·rw [cond_false, cond_false, g1]
    simp only
    rw [qr7 (by omega) (by omega), qoy (by omega) (by omega), wrap_i64 (n := 2000 + (N : Int) - 1) ⟨by omega, by omega⟩]
   ·rw [cond_true, cond_true]
 -- the reference
 have eR : s110 day = s110_l1 day (((min 2272 (2000 + (N : Int))) + 1) - (max 2000 (2000 + (N : Int) - 1))).toNat (max 2000 (2000 + (N : Int) - 1)) := by
  unfold s110;rw [g2];simp only [bindO];rw [wrap_i64 (n := 2000 + (N : Int) - 1) ⟨by omega, by omega⟩]
 have l2 : ∀ (r : Int → Option (S67 × Bool)) (y : Int), s110_l2 r day y ((2 : Int) - 0).toNat 0 = s110_l2 r day y 2 0 := fun r y => rfl
 by_cases hA : day < 85
 ·-- before the first season
  right
  refine ⟨⟨_, by rw [eP, decide_eq_true (by omega : day < sun (N3 2000))]; rfl⟩, ?_⟩
  have hN0 : N = 0 := by
   rcases Nat.eq_zero_or_pos N with h | h
   ·exact h
   ·have := qjs (show 1 ≤ N from h);have : Dy 1 = 366 := rfl
    omega
  subst hN0;rw [eR];show ∃ s, s110_l1 day 1 2000 = some (s, false);rw [s110_l1, l2, qau _ h0 h1 (by omega) (by omega)];have q := xe (N10 2000);have q1 : N10 2000 = 304 := rfl;rw [decide_eq_false (by omega), cond_false, decide_eq_false (by omega), cond_false];exact ⟨_, by rw [s110_l1]⟩
 ·by_cases hB : sun (N3 2273) ≤ day
  ·-- behind the last one
   right
   refine ⟨⟨_, by rw [eP, decide_eq_true hB, Bool.or_true]; rfl⟩, ?_⟩
   have hN0 : N = 273 := by
    by_cases h : N = 273
    ·exact h
    ·have := qjs (show N + 1 ≤ 273 by omega)
     omega
   subst hN0;rw [eR];show ∃ s, s110_l1 day 1 2272 = some (s, false);rw [s110_l1, l2, qau _ h0 h1 (by omega) (by omega)];have q := xe (N10 2272);have q1 := qlf 272;have q2 := wa (2000 + ((272 : Nat) : Int));have q3 := qd0 272
   have q4 : (2000 + ((272 : Nat) : Int)) = 2272 := by omega
   have q5 : (272 + 1 : Nat) = 273 := rfl;rw [q4] at q1 q2 q3;rw [q5] at q3
   have q6 : (2272 : Int) + 1 = 2273 := by omega
   rw [q6];rw [decide_eq_false (by omega), cond_false, decide_eq_false (by omega), cond_false];exact ⟨_, by rw [s110_l1]⟩
  ·left
   have eP' : s158 day = (bif decide (day < sun (N3 (2000 + (N : Int)))) then some ((S67.mk (2000 + (N : Int) - 1) kW), 0) else bif decide (day < sun (N10 (2000 + (N : Int)))) then some ((S67.mk (2000 + (N : Int)) kS), 0) else some ((S67.mk (2000 + (N : Int)) kW), 0)) := by
    rw [eP, decide_eq_false (by omega : ¬ day < sun (N3 2000)), decide_eq_false hB]; rfl
   by_cases hC : day < sun (N3 (2000 + (N : Int)))
   ·-- the winter that began the year before
    obtain ⟨M, rfl⟩ : ∃ M, N = M + 1 := by
     cases N with
     | zero => exact absurd hC (by show ¬ day < sun (N3 2000); omega)
     | succ M => exact ⟨M, rfl⟩
    have m10 := qlf M;have m3 := qo0 M;have ml := wa (2000 + (M : Int));have ms := xe (N10 (2000 + (M : Int)));have md := qd0 M
    have e9 : 2000 + ((M + 1 : Nat) : Int) - 1 = 2000 + (M : Int) := by omega
    have e10 : 2000 + (M : Int) + 1 = 2000 + ((M + 1 : Nat) : Int) := by omega
    rw [e9] at eP' eR;refine ⟨⟨2000 + (M : Int), kW⟩, by rw [eP', decide_eq_true hC]; rfl, ?_, ⟨by show 2000 ≤ 2000 + (M : Int); omega, by show 2000 + (M : Int) ≤ 2272; omega, .inr rfl⟩, ?_, ?_⟩
    ·have e11 : max 2000 (2000 + (M : Int)) = 2000 + (M : Int) := by omega
     rw [eR, e11];obtain ⟨k, hk⟩ : ∃ k, ((min 2272 (2000 + ((M + 1 : Nat) : Int))) + 1 - (2000 + (M : Int))).toNat = k + 1 := ⟨((min 2272 (2000 + ((M + 1 : Nat) : Int))) + 1 - (2000 + (M : Int))).toNat - 1, by omega⟩;rw [hk, s110_l1, l2, qau _ h0 h1 (by omega) (by omega), e10];rw [decide_eq_false (by omega), cond_false, decide_eq_true (by omega), cond_true]
    ·show (if kW = kS then _ else sun (N10 (2000 + (M : Int)))) ≤ day;rw [if_neg kSW]; omega
    ·show day < (if kW = kS then _ else sun (N3 (2000 + (M : Int) + 1)));rw [if_neg kSW, e10]; exact hC
   ·have hN2 : (N : Int) ≤ 272 := by
     by_cases h : N = 273
     ·subst h;rw [c273] at hC
      omega
     ·omega
    -- the year before has no season with this day
    have step : s110 day = s110_l2 (fun z0_ => s110_l1 day 0 z0_) day (2000 + (N : Int)) 2 0 := by
     rw [eR]
     cases N with
     | zero => rfl
     | succ M =>
      have m10 := qlf M;have m3 := qo0 M;have ml := wa (2000 + (M : Int));have ms := xe (N10 (2000 + (M : Int)));have md := qd0 M
      have e9 : 2000 + ((M + 1 : Nat) : Int) - 1 = 2000 + (M : Int) := by omega
      have e10 : 2000 + (M : Int) + 1 = 2000 + ((M + 1 : Nat) : Int) := by omega
      have e11 : max 2000 (2000 + ((M + 1 : Nat) : Int) - 1) = 2000 + (M : Int) := by omega
      have e12 : (min 2272 (2000 + ((M + 1 : Nat) : Int)) + 1 - (2000 + (M : Int))).toNat = 2 := by omega
      rw [e11, e12, s110_l1, l2, qau _ h0 h1 (by omega) (by omega), e10];rw [decide_eq_false (by omega), cond_false, decide_eq_false (by omega), cond_false, s110_l1, l2]
    rw [qau _ h0 h1 (by omega) (by omega), ec] at step
    by_cases hD : day < sun (N10 (2000 + (N : Int)))
    ·refine ⟨⟨2000 + (N : Int), kS⟩, by rw [eP', decide_eq_false hC, cond_false, decide_eq_true hD]; rfl, ?_, ⟨by show 2000 ≤ 2000 + (N : Int); omega, by show 2000 + (N : Int) ≤ 2272; omega, .inl rfl⟩, ?_, ?_⟩
     ·rw [step, decide_eq_true (by omega), cond_true]
     ·show (if kS = kS then sun (N3 (2000 + (N : Int))) else _) ≤ day;rw [if_pos rfl]; omega
     ·show day < (if kS = kS then sun (N10 (2000 + (N : Int))) else _);rw [if_pos rfl]; omega
    ·refine ⟨⟨2000 + (N : Int), kW⟩, by rw [eP', decide_eq_false hC, cond_false, decide_eq_false hD]; rfl, ?_, ⟨by show 2000 ≤ 2000 + (N : Int); omega, by show 2000 + (N : Int) ≤ 2272; omega, .inr rfl⟩, ?_, ?_⟩
     ·rw [step, decide_eq_false (by omega), cond_false, decide_eq_true (by omega), cond_true]
     ·show (if kW = kS then _ else sun (N10 (2000 + (N : Int)))) ≤ day;rw [if_neg kSW]; omega
     ·show day < (if kW = kS then _ else sun (N3 (2000 + (N : Int) + 1)));rw [if_neg kSW, ec]; omega
theorem qo2 {s : S67} (h : okS s) : s138 s = some (beg s) := by
 obtain ⟨y, k⟩ := s;obtain ⟨h1, h2, h3⟩ := h;have h1 : 2000 ≤ y := h1;have h2 : y ≤ 2272 := h2
 rcases h3 with h3 | h3
 ·have h3 : k = kS := h3;subst h3;rw [qle h1 (by omega)];unfold beg; rw [if_pos rfl]
 ·have h3 : k = kW := h3;subst h3;rw [qr8 h1 (by omega)];unfold beg; rw [if_neg kSW]
theorem qun {s : S67} (h : okS s) : s138 (s139 s) = some (nxt s) := by
 obtain ⟨y, k⟩ := s;obtain ⟨h1, h2, h3⟩ := h;have h1 : 2000 ≤ y := h1;have h2 : y ≤ 2272 := h2
 rcases h3 with h3 | h3
 ·have h3 : k = kS := h3;subst h3
  have e : s139 ⟨y, kS⟩ = ⟨y, kW⟩ := by unfold s139; rw [decide_eq_true rfl, cond_true]
  rw [e, qr8 h1 (by omega)];unfold nxt; rw [if_pos rfl]
 ·have h3 : k = kW := h3;subst h3
  have e : s139 ⟨y, kW⟩ = ⟨y + 1, kS⟩ := by unfold s139; rw [decide_eq_false kSW, cond_false, wrap_i64 ⟨by show _ ≤ y + 1; omega, by show y + 1 ≤ _; omega⟩]
  rw [e, qle (by omega) (by omega)];unfold nxt; rw [if_neg kSW]
theorem qo3 {s : S67} (h : okS s) : s111 s = some ⟨beg s, nxt s - 1, 127⟩ := by
 obtain ⟨y, k⟩ := s;obtain ⟨h1, h2, h3⟩ := h;have h1 : 2000 ≤ y := h1;have h2 : y ≤ 2272 := h2
 rcases h3 with h3 | h3
 ·have h3 : k = kS := h3;subst h3;rw [qr9 h1 (by omega)];unfold beg nxt; rw [if_pos rfl, if_pos rfl]
 ·have h3 : k = kW := h3;subst h3;rw [qsa h1 (by omega)];unfold beg nxt; rw [if_neg kSW, if_neg kSW]
theorem qd1 {s : S67} (h : okS s) : 0 ≤ beg s ∧ beg s ≤ 1000000 ∧ 0 ≤ nxt s ∧ nxt s ≤ 99999 := by
 obtain ⟨y, k⟩ := s;obtain ⟨h1, h2, _⟩ := h;have h1 : 2000 ≤ y := h1;have h2 : y ≤ 2272 := h2;have a := qf6 h1 (by omega);have b := qf6 (y := y + 1) (by omega) (by omega);have c1 := xe (N3 y);have c2 := xe (N10 y);have c3 := xe (N3 (y + 1))
 have e0 : (y + 1 - 2000).toNat = (y - 2000).toNat + 1 := by omega
 have d0 := qdx (y - 2000).toNat;have d1 := qd0 (y - 2000).toNat;have d2 := qjs (show (y - 2000).toNat + 1 ≤ 273 by omega)
 have d3 : Dy 273 = 99712 := by decide +kernel
 have l0 := wa (2000 + ((y - 2000).toNat : Int));have l1 := wa y;have l2 := wa (y + 1);have e1 : N10 y = 303 + lp y + Dy (y - 2000).toNat := rfl;have e2 : N3 (y + 1) = 89 + lp (y + 1) + Dy (y + 1 - 2000).toNat := rfl;rw [e0] at e2;unfold beg nxt
 by_cases hk : k = kS
 ·simp only [hk, if_true]
  omega
 ·simp only [hk, if_false]
  omega
def eqv (own s : S67) (d : Int) : Int := beg s + d - beg own
theorem qup {s : S67} (h : okS s) : s107 s = 0 := by
 obtain ⟨y, k⟩ := s;obtain ⟨h1, h2, h3⟩ := h;have h1 : 2000 ≤ y := h1;have h2 : y ≤ 2272 := h2;unfold s107 s155 s154;rw [decide_eq_false (by show ¬ y < 2000; omega), decide_eq_false (by show ¬ 2272 < y; omega)]
 rcases h3 with h3 | h3
 ·have h3 : k = kS := h3;subst h3
  rfl
 ·have h3 : k = kW := h3;subst h3
  rfl
theorem qq2 {own s : S67} {d : Int} (hs : okS s) (ho : okS own) (h : s158 d = some (own, 0)) (hk : own.Kind = s.Kind) (hd : 0 ≤ d ∧ d ≤ 99999) : s159 d s = some (bif decide (nxt s ≤ eqv own s d) then (0, 7) else (eqv own s d, 0)) := by
 have a := qd1 hs;have b := qd1 ho;unfold s159;rw [h];simp only [bindO];rw [qup hs, qo2 hs, qo2 ho, qun hs, decide_eq_true hk];have e : s152 [0, 0, s154 (!true) 13] = 0 := rfl;rw [e, decide_eq_false (by decide), cond_false]
 simp only
 rw [wrap_i64 (n := beg s + d) ⟨by omega, by omega⟩, wrap_i64 (n := beg s + d - beg own) ⟨by omega, by omega⟩];show (bif decide (nxt s ≤ eqv own s d) then some (0, 7) else some (eqv own s d, 0)) = _
 cases decide (nxt s ≤ eqv own s d) <;> rfl
def eqvL (own s : S67) (l : List Int) : List Int := (l.map (eqv own s)).filter (fun v => decide (v < nxt s))
theorem qxk {own s : S67} (hs : okS s) (ho : okS own) (hk : own.Kind = s.Kind) : ∀ (l : List Int) (k k' : Nat) (x : List Int), (∀ d ∈ l, s158 d = some (own, 0) ∧ 0 ≤ d ∧ d ≤ 99999) →
  s108_l2 s l k x = (bindO (s160 (x ++ eqvL own s l)) fun r => some (r.1, r.2)) ∧ s42_l2 s own.Year own.Kind l k' x = (bindO (s112 (x ++ eqvL own s l)) fun r => some (r, 0))
 | [], k, k', x, _ => by
  rw [s108_l2, s42_l2]
  simp [eqvL]
 | d :: l, k, k', x, h => by
  obtain ⟨h1, h2, h3⟩ := h d List.mem_cons_self;have a := qd1 hs;have b := qd1 ho;have ih := fun k k' x => qxk hs ho hk l k k' x fun z hz => h z (List.mem_cons_of_mem _ hz);rw [s108_l2, s42_l2, qq2 hs ho h1 hk ⟨h2, h3⟩, qo3 (s := S67.mk own.Year own.Kind) ho, qo3 hs];simp only [bindO];rw [wrap_i64 (n := d - beg (S67.mk own.Year own.Kind)) ⟨by show _ ≤ d - beg own; omega, by show d - beg own ≤ _; omega⟩];rw [wrap_i64 (n := d - beg (S67.mk own.Year own.Kind) + beg s) ⟨by show _ ≤ d - beg own + beg s; omega, by show d - beg own + beg s ≤ _; omega⟩]
  have e : d - beg (S67.mk own.Year own.Kind) + beg s = eqv own s d := by show d - beg own + beg s = beg s + d - beg own; omega
  rw [e]
  by_cases hc : nxt s ≤ eqv own s d
  ·have e2 : eqvL own s (d :: l) = eqvL own s l := by
    unfold eqvL;rw [List.map_cons, List.filter_cons, if_neg (by simp; omega)]
   rw [decide_eq_true hc, cond_true, e2];rw [decide_eq_false (by show ¬ (7 : Int) = 0; decide), cond_false, decide_eq_false (by omega), cond_false];exact ih (k + 1) (k' + 1) x
  ·have e2 : x ++ eqvL own s (d :: l) = (x ++ [eqv own s d]) ++ eqvL own s l := by
    unfold eqvL;rw [List.map_cons, List.filter_cons, if_pos (by simp; omega)]
    simp
   rw [decide_eq_false hc, cond_false, e2];rw [decide_eq_true (by show (0 : Int) = 0; rfl), cond_true, decide_eq_true (by omega), cond_true];exact ih (k + 1) (k' + 1) _
theorem qcw (m : Int) : ∀ (n : Nat) (d : Int), (dayL m n d).Pairwise (· < ·)
 | 0, d => by simp [dayL]
 | n + 1, d => by
  rw [dayL]
  split
  ·refine List.pairwise_cons.2 ⟨fun z hz => ?_, qcw m n (d + 1)⟩;have := qa3 m n (d + 1) z hz
   omega
  ·exact qcw m n (d + 1)
def JoinOk : Prop := ∀ l : List Int, l.Pairwise (· < ·) → (∀ d ∈ l, 0 ≤ d ∧ d ≤ 99999) → l.length ≤ 401 → ∃ R, s160 l = some (R, 0) ∧ s112 l = some R
theorem qxl (hJ : JoinOk) {a0 : S45} {a1 : S67} (hp : s102 a0 = 0) (hs : okS a1) : ∀ (l P : List Int) (k : Nat) (x2 : Int) (x3 : ByteArray), P ++ l = s104 a0 → k = P.length →
  (∀ d ∈ P, s158 d = some (⟨x2, x3⟩, 0) ∧ okS ⟨x2, x3⟩ ∧ beg ⟨x2, x3⟩ ≤ d) → ∃ r, s108_l1 a0 a1 l k x2 x3 = some r ∧ s42_l1 a0 a1 l k x2 x3 = some r
 | [], P, k, x2, x3, hP, hk, h => by
  rw [s108_l1, s42_l1, qf7 hp]
  have hP' : P = s104 a0 := by simpa using hP
  cases hc : (decide (0 < (List.length (s104 a0) : Int))) && (!decide (x3 = a1.Kind))
  ·rw [cond_false, cond_false]
   cases hd : s104 a0 with
   | nil =>
    obtain ⟨R, g1, g2⟩ := hJ [] List.Pairwise.nil (by simp) (by simp);rw [s108_l2, s42_l2, g1, g2];exact ⟨_, rfl, rfl⟩
   | cons d0 l0 =>
    have hm : d0 ∈ P := by rw [hP', hd]; exact List.mem_cons_self
    have ho := (h d0 hm).2.1
    have hkind : x3 = a1.Kind := by
     rw [hd] at hc;simp only [List.length_cons] at hc;rw [decide_eq_true (by omega), Bool.true_and] at hc
     simpa using hc
    have key := qxk (own := ⟨x2, x3⟩) hs ho hkind (s104 a0) 0 0 [] (fun d hd' => ⟨(h d (by rw [hP']; exact hd')).1, (xh hp).2 d hd'⟩);rw [hd] at key;have bs := qd1 hs
    obtain ⟨R, g1, g2⟩ := hJ (eqvL ⟨x2, x3⟩ a1 (s104 a0)) (by
     unfold eqvL;refine List.Pairwise.filter _ (List.pairwise_map.2 ?_);rw [qdh a0 hp]
     exact (qcw _ _ _).imp fun h => by unfold eqv; omega) (fun v hv => by
     obtain ⟨hv1, hv2⟩ := List.mem_filter.1 hv;obtain ⟨d, hd1, rfl⟩ := List.mem_map.1 hv1;have := (h d (by rw [hP']; exact hd1)).2.2
     have hv2 : eqv ⟨x2, x3⟩ a1 d < nxt a1 := by simpa using hv2
     unfold eqv at *
     omega) (by
     have := (xh hp).1;have h9 := List.length_filter_le (fun v => decide (v < nxt a1)) ((s104 a0).map (eqv ⟨x2, x3⟩ a1));rw [List.length_map] at h9;unfold eqvL
     omega)
    rw [hd] at g1 g2;rw [key.1];have k2 := key.2;rw [show s42_l2 a1 x2 x3 (d0 :: l0) 0 [] = _ from k2, List.nil_append, g1, g2];exact ⟨_, rfl, rfl⟩
  ·rw [cond_true, cond_true];exact ⟨_, rfl, rfl⟩
 | y :: l, P, k, x2, x3, hP, hk, h => by
  have hy : y ∈ s104 a0 := by rw [← hP]; simp
  obtain ⟨y0, y1⟩ := (xh hp).2 y hy;rw [s108_l1, s42_l1]
  rcases qo1 y0 y1 with ⟨s, g1, g2, g3, g4, g5⟩ | ⟨⟨s, g1⟩, s', g2⟩
  ·rw [g1, g2];simp only [bindO, Bool.not_true, Bool.false_or];rw [decide_eq_false (by show ¬ (0 : Int) ≠ 0; decide), Bool.false_or]
   cases hc : (decide (0 < ((k : Nat) : Int))) && (!(eqAnd [decide (s.Year = x2), decide (s.Kind = x3)]))
   ·rw [cond_false, cond_false];refine qxl hJ hp hs l (P ++ [y]) (k + 1) s.Year s.Kind (by rw [← hP]; simp) (by simp [hk]) fun d hd => ?_
    rcases List.mem_append.1 hd with hd | hd
    ·have hk0 : 0 < P.length := List.length_pos_of_mem hd;rw [decide_eq_true (by omega), Bool.true_and] at hc
     have hc : s.Year = x2 ∧ s.Kind = x3 := by simpa [eqAnd] using hc
     have := h d hd;rw [← hc.1, ← hc.2] at this;exact this
    ·rw [List.mem_singleton.1 hd];exact ⟨g1, g3, g4⟩
   ·rw [cond_true, cond_true];exact ⟨_, rfl, rfl⟩
  ·rw [g1, g2];simp only [bindO, Bool.not_false, Bool.true_or, cond_true];rw [decide_eq_true (by show (30 : Int) ≠ 0; decide), Bool.true_or, cond_true];exact ⟨_, rfl, rfl⟩
theorem quq (hJ : JoinOk) {a0 : S45} {a1 : S67} (hp : s102 a0 = 0) (hs : okS a1) : ∃ r, s108 a0 a1 = some r ∧ s42 a0 a1 = some r := by
 unfold s108 s42;rw [qf7 hp];exact qxl hJ hp hs (s104 a0) [] 0 0 ByteArray.empty rfl rfl (by simp)
def s103 (a0 a1 : ByteArray) (p : S45) (m : Int) : List S151 := slotsL a0 a1 (momL m (dayL p.Days (p.fTo + 1 - p.fFrom).toNat p.fFrom))
theorem qyx {g : List (Nat × List Value)} (a0 a1 : ByteArray) (p : S45) (m : Int) (hp : s102 p = 0) (hm0 : 0 ≤ m) (hm1 : m ≤ 1000000) : Con (EG g) 103 [G.str a0, G.str a1, G.agg [G.int p.fFrom, G.int p.fTo, G.int p.Days], G.int m] (G.sl 3 (List.map S151.c (s103 a0 a1 p m))) := by
 intro w M vs hM hgl hv;refine (c103X a0 a1 p m hp hm0 hm1 w M vs hM hgl hv).mono ?_;rintro e w' ⟨v, h1, h2, h3⟩;exact ⟨v, h1, h2, qrr h3⟩
def dayP (p : S45) : List Int := dayL p.Days (p.fTo + 1 - p.fFrom).toNat p.fFrom
theorem qsb (a0 a1 : ByteArray) (p : S45) (m : Int) : (s103 a0 a1 p m).length = (dayP p).length := by simp [s103, slotsL, momL, dayP]
theorem qyy (a0 a1 : ByteArray) (p : S45) (m : Int) : UpS (s103 a0 a1 p m) := by
 unfold UpS s103 slotsL momL;rw [List.pairwise_map, List.pairwise_map]
 exact (qcw _ _ _).imp fun h => by show 1440 * _ + m ≤ 1440 * _ + m; omega
theorem qyz {a0 a1 : ByteArray} {p : S45} {m : Int} (h : (dayP p).length ≤ 100) : (s103 a0 a1 p m).length ≤ 1000 := by rw [qsb]; omega
theorem qsc (a0 a1 : ByteArray) {p : S45} (m : Int) (hp : s102 p = 0) (hm0 : 0 ≤ m) (hm1 : m ≤ 1000000) : s31 a0 a1 p m = s103 a0 a1 p m := by
 unfold s31;rw [qdh p hp];have hr := (xh hp).2;rw [qdh p hp] at hr
 have key : ∀ (l : List Int) (k : Nat) (x : List S151), (∀ d ∈ l, 0 ≤ d ∧ d ≤ 99999) → s31_l1 a0 a1 m l k x = x ++ slotsL a0 a1 (momL m l) := by
  intro l
  induction l with
  | nil => intro k x _; simp [s31_l1, slotsL, momL]
  | cons d l ih =>
   intro k x h;have h0 := h d List.mem_cons_self;rw [s31_l1, ih _ _ fun e he => h e (List.mem_cons_of_mem _ he)];have e1 : IntKind.i64.wrap (1440 * d) = 1440 * d := wrap_i64 ⟨by omega, by omega⟩;rw [e1, wrap_i64 (n := 1440 * d + m) ⟨by omega, by omega⟩]
   simp [slotsL, momL]
 rw [key _ 0 [] hr]
 rfl
structure RqOk (q : S115) : Prop where
 per : s102 q.Period = 0
 m0 : 0 ≤ q.Minute
 m1 : q.Minute ≤ 1439
 len : (dayP q.Period).length ≤ 100
theorem qxm {a0 a1 : ByteArray} {p : S45} {m : Int} (hp : s102 p = 0) (hm0 : 0 ≤ m) (hm1 : m ≤ 1439) (h : (dayP p).length ≤ 100) : (s31 a0 a1 p m).length ≤ 100 := by
 rw [qsc a0 a1 m hp hm0 (by omega), qsb]; exact h
end Go.Sim
set_option maxRecDepth 10000
namespace Go.Sim
open Go.Proofs
def s65_j1 (rec2 : Int → Int → Option Int) (x6 : Int) (x8 : Int) : Option Int :=
 rec2 x8 (x6 + 1)
def s65_l2 (rec1 : Nat → Option Int) (a0 : List S115) (k2 : Nat) (y3 : S115) : Nat → Int → Int → Option Int
 | 0, _, _ => none
 | k7 + 1, x5, x6 => (bif (decide (x6 < ((k2 : Nat) : Int))) && (decide (x5 = 0)) then bindO (ixO a0 x6) fun y9 => (bif decide (y9.Name = y3.Name) then s65_j1 (fun z0_ z1_ => s65_l2 rec1 a0 k2 y3 k7 z0_ z1_) x6 9 else s65_j1 (fun z0_ z1_ => s65_l2 rec1 a0 k2 y3 k7 z0_ z1_) x6 x5) else (bif decide ((s89 [x5, (s30 y3.Name y3.Kind (S45.mk y3.Period.fFrom y3.Period.fTo y3.Period.Days) y3.Minute)]) ≠ 0) then some (s89 [x5, (s30 y3.Name y3.Kind (S45.mk y3.Period.fFrom y3.Period.fTo y3.Period.Days) y3.Minute)]) else rec1 (k2 + 1)))
def s65_l1 (a0 : List S115) : List S115 → Nat → Option Int
 | [], k2 => some 0
 | y3 :: t4, k2 => s65_l2 (fun k_ => s65_l1 a0 t4 k_) a0 k2 y3 (((((k2 : Nat) : Int) - 0).toNat) + 1) (s95 y3.Name) 0
def s65 (a0 : List S115) : Option Int :=
 (bif decide (64 < (List.length a0 : Int)) then some 5 else s65_l1 a0 a0 0)
theorem c65 {g : List (Nat × List Value)} (a0 : List S115) {R : Int}   (hR : s65 a0 = some R) : Con (EG g) 65 [G.sl 13 (List.map S115.c a0)] (G.int R) := by
 unfold s65 at hR;refine qn Tryz.func65 rfl rfl fun w0 M0 => ?_;refine zd (f := S115.c) (l := a0) 0 rfl fun hla0 => ?_;refine qb (qa [.p] (sa rfl rfl (qc (qb (qb (qa [.p, .p, .p] ?_))))));refine sm rfl rfl (su (qv (f := S115.c) (l := a0) rfl Tryz.underlying112 rfl) rfl (su (z0 rfl rfl rfl) rfl (qc (qj _ rfl (fun h1 => ?_) (fun h1 => ?_)))))
 ·replace hR := zj hR h1;refine qb (qa [.p] (sa rfl rfl (qc (qo ?_))));obtain rfl := Option.some.inj hR;exact zb rfl (rv_g rfl)
 ·replace h1 : (decide (64 < (List.length a0 : Int))) = false := h1;replace hR := zk hR h1;(try simp only [bB] at h1);refine ql (qb (qb (qa [.p] (sa rfl rfl (qc (qi ?_))))));refine qq (γ := Nat × (List S115)) (fun g => ([(0, .g (G.sl 13 (List.map S115.c a0))), (3, .g (G.int ((g.1 : Nat) : Int)))], [])) (fun g => a0.drop g.1 = g.2 ∧ s65_l1 a0 g.2 g.1 = some R) (fun g => List.length g.2) ⟨rfl, (0, a0), ⟨rfl, rfl, trivial⟩, trivial, rfl, ⟨rfl, hR⟩, trivial⟩ ?_
  ·rintro ⟨k2, t4⟩ ⟨hd, hR⟩;replace hd : a0.drop k2 = t4 := hd;replace hR : s65_l1 a0 t4 k2 = some R := hR;refine qb (qb (qa [.p, .p, .p, .p] (sm rfl rfl (sm rfl rfl (su (qv (f := S115.c) (l := a0) rfl Tryz.underlying112 rfl) rfl (su (qu rfl rfl rfl) rfl ?_))))));refine qc (zd (f := S115.c) (l := a0) 0 rfl fun hlz1 => ?_);refine qj _ rfl (fun h2 => ?_) (fun h2 => ?_)
   ·replace h2 : (decide (((k2 : Nat) : Int) < (List.length a0 : Int))) = true := h2;obtain ⟨y3, t4, rfl, hx1, hd⟩ := ze hd (decT h2);replace h2 := decT h2;rw [s65_l1] at hR;(try dsimp only at hR);refine ql (qb (qi (qb (qa [.p, .p, .p, .p, .p, .p, .p] (sm rfl rfl (sm rfl rfl ?_))))));refine su (zh (f := S115.c) (l := a0) (a := y3) rfl Tryz.underlying112 wc rfl rfl (Int.natCast_nonneg _) hx1) rfl (su (qd rfl xk rfl) rfl (su (qf rfl ty9 rfl) rfl (su (qg rfl K95 rfl (c95 y3.Name) (qe rfl qm)) rfl (sa rfl rfl (qc (qb ?_))))));refine qb (qa [.p] (sa rfl rfl (qc (qi (qq (γ := Nat × Int × Int) (fun g => ([(0, .g (G.sl 13 (List.map S115.c a0))), (3, .g (G.int ((k2 : Nat) : Int))), (4, .g (G.int g.2.1)), (5, .g (G.int g.2.2))], [])) (fun g => (((k2 : Nat) : Int) - g.2.2).toNat < g.1 ∧ 0 ≤ g.2.2 ∧ s65_l2 (fun k_ => s65_l1 a0 t4 k_) a0 k2 y3 g.1 g.2.1 g.2.2 = some R) (fun g => g.1) ⟨rfl, (((((k2 : Nat) : Int) - 0).toNat) + 1, (s95 y3.Name), 0), ⟨rfl, rfl, rfl, rfl, trivial⟩, trivial, rfl, ⟨Nat.lt_succ_self _, iD, hR⟩, trivial⟩ ?_)))))
    ·rintro ⟨k7, x5, x6⟩ ⟨hk2, iv2_0, hR⟩;replace hk2 : (((k2 : Nat) : Int) - x6).toNat < k7 := hk2;replace hR : s65_l2 (fun k_ => s65_l1 a0 t4 k_) a0 k2 y3 k7 x5 x6 = some R := hR;replace iv2_0 : 0 ≤ x6 := iv2_0;obtain ⟨k7, rfl⟩ : ∃ m, k7 = m + 1 := ⟨k7 - 1, by omega⟩;rw [s65_l2] at hR;(try dsimp only at hR);refine qb (qb (qa [.p, .p, .p, .p, .p, .p, .p] (sm rfl rfl (sm rfl rfl (su (qu rfl rfl rfl) rfl (sm rfl rfl ?_))))));refine sg rfl rfl (fun h => qh rfl rfl) rfl (sg rfl rfl (fun h => jh rfl (gd h rfl) rfl) rfl (su (zf rfl rfl rfl rfl) rfl (qc (qj _ rfl (fun h4 => ?_) (fun h4 => ?_)))))
     ·replace h4 : ((decide (x6 < ((k2 : Nat) : Int))) && (decide (x5 = 0))) = true := h4;replace hR := zj hR h4;(try simp only [bB] at h4);refine ql (ja (γ := Int) (fun g => ([(0, .g (G.sl 13 (List.map S115.c a0))), (3, .g (G.int ((k2 : Nat) : Int))), (4, .g (G.int g)), (5, .g (G.int x6))], [])) (fun g => s65_j1 (fun z0_ z1_ => s65_l2 (fun k_ => s65_l1 a0 t4 k_) a0 k2 y3 k7 z0_ z1_) x6 g = some R) ?_ ?_)
      ·refine qi (qb ?_);obtain ⟨y9, by9, hR⟩ := qk hR;refine zu [.p, .p, .p, .p, .p, .p, .p, .p, .p, .p, .p] (by kernel_rfl) (sm rfl rfl (sm rfl rfl (su (zh (f := S115.c) (l := a0) (a := y9) rfl Tryz.underlying112 wc rfl rfl (z5 by9) (qz by9)) rfl (su (qd rfl xk rfl) rfl (su (qf rfl ty9 rfl) rfl (sm rfl rfl ?_))))));refine sm rfl rfl (su (zh (f := S115.c) (l := a0) (a := y3) rfl Tryz.underlying112 wc rfl rfl (Int.natCast_nonneg _) hx1) rfl (su (qd rfl xk rfl) rfl (su (qf rfl ty9 rfl) rfl (su (jr rfl rfl rfl) rfl (qc (qj _ rfl (fun h5 => ?_) (fun h5 => ?_)))))))
       ·replace hR := zj hR h5;refine qa [.p] (sa rfl rfl (qc ?_));exact ⟨rfl, 9, ⟨rfl, rfl, rfl, rfl, trivial⟩, trivial, rfl, hR, trivial⟩
       ·replace hR := zk hR h5;refine ql ?_;exact ⟨rfl, x5, ⟨rfl, rfl, rfl, rfl, trivial⟩, trivial, rfl, hR, trivial⟩
      ·rintro x8 hR;replace hR : s65_j1 (fun z0_ z1_ => s65_l2 (fun k_ => s65_l1 a0 t4 k_) a0 k2 y3 k7 z0_ z1_) x6 x8 = some R := hR;unfold s65_j1 at hR;refine qa [.p, .p, .p] (sm rfl rfl (su (zc rfl rfl rfl iF) rfl (sa rfl rfl (qc ?_))));exact ⟨rfl, (k7, x8, x6 + 1), ⟨rfl, rfl, rfl, rfl, trivial⟩, trivial, rfl, ⟨iB, iB, hR⟩, by simp⟩
     ·replace h4 : ((decide (x6 < ((k2 : Nat) : Int))) && (decide (x5 = 0))) = false := h4;replace hR := zk hR h4;(try simp only [bB] at h4);refine qw ?_;refine qb (zu [.p, .p, .p, .p, .p, .p, .p, .p, .p, .p, .p, .p, .p, .p, .p, .p, .p, .p, .p, .p, .p, .p, .p, .p, .p] (by kernel_rfl) (sm rfl rfl (sm rfl rfl (sm rfl rfl (su (zh (f := S115.c) (l := a0) (a := y3) rfl Tryz.underlying112 wc rfl rfl (Int.natCast_nonneg _) hx1) rfl (su (qd rfl xk rfl) rfl ?_))))));refine su (qf rfl ty9 rfl) rfl (sm rfl rfl (sm rfl rfl (su (zh (f := S115.c) (l := a0) (a := y3) rfl Tryz.underlying112 wc rfl rfl (Int.natCast_nonneg _) hx1) rfl (su (qd rfl qd2 rfl) rfl (su (qf rfl ty9 rfl) rfl (sm rfl rfl ?_))))));refine sm rfl rfl (su (zh (f := S115.c) (l := a0) (a := y3) rfl Tryz.underlying112 wc rfl rfl (Int.natCast_nonneg _) hx1) rfl (su (qd rfl qaf rfl) rfl (su (qt rfl ty46 rfl rfl rfl) rfl (sm rfl rfl (sm rfl rfl (su (zh (f := S115.c) (l := a0) (a := y3) rfl Tryz.underlying112 wc rfl rfl (Int.natCast_nonneg _) hx1) rfl ?_))))));refine su (qd rfl qf8 rfl) rfl (su (qf rfl ty3 rfl) rfl (su (qg rfl K30 rfl (c30 y3.Name y3.Kind (S45.mk y3.Period.fFrom y3.Period.fTo y3.Period.Days) y3.Minute) (qe rfl (qe rfl (qe rfl (qe rfl qm))))) rfl (su (qr rfl Tryz.underlying82 ty3 z3 rfl (qy rfl (qy rfl jc)) rfl (by simp []) (by decide)) rfl (su (qg rfl K89 rfl (c89 [x5, (s30 y3.Name y3.Kind (S45.mk y3.Period.fFrom y3.Period.fTo y3.Period.Days) y3.Minute)]) (qe rfl qm)) rfl (sa rfl rfl (qc ?_))))));refine qb (qa [.p, .p] (sm rfl rfl (su (jg rfl rfl rfl) rfl (qc (qj _ rfl (fun h6 => ?_) (fun h6 => ?_))))))
      ·replace hR := zj hR h6;refine qb (qa [.p, .p] (sm rfl rfl (sa rfl rfl (qc (qo ?_)))));obtain rfl := Option.some.inj hR;exact zb rfl (rv_g rfl)
      ·replace h6 : (decide ((s89 [x5, (s30 y3.Name y3.Kind (S45.mk y3.Period.fFrom y3.Period.fTo y3.Period.Days) y3.Minute)]) ≠ 0)) = false := h6;replace hR := zk hR h6;(try simp only [bB] at h6);refine ql (qa [.p, .p, .p] (sm rfl rfl (su (zc rfl rfl rfl iE) rfl (sa rfl rfl (qc ?_)))));exact ⟨rfl, (k2 + 1, t4), ⟨rfl, rfl, trivial⟩, trivial, rfl, ⟨hd, hR⟩, by simp⟩
   ·replace h2 : (decide (((k2 : Nat) : Int) < (List.length a0 : Int))) = false := h2;obtain rfl := zm hd (decF h2);rw [s65_l1] at hR;refine qw ?_;refine qb (qa [.p] (sa rfl rfl (qc (qo ?_))));obtain rfl := Option.some.inj hR;exact zb rfl (rv_g rfl)
def s66_j1 (rec1 : Nat → (List S131) → Option ((List S131) × Int)) (k3 : Nat) (x6 : List S131) : Option ((List S131) × Int) :=
 rec1 (k3 + 1) x6
def s66_l1 (a0 : S23) (a2 : List S104) (a3 : S67) : List S115 → Nat → (List S131) → Option ((List S131) × Int)
 | [], k3, x1 => some (x1, 0)
 | y4 :: t5, k3, x1 => bindO (s62 a0 (s31 y4.Name y4.Kind (S45.mk y4.Period.fFrom y4.Period.fTo y4.Period.Days) y4.Minute) a2) fun r7 => (bif !(s37 a0 r7) then s66_j1 (fun k_ z0_ => s66_l1 a0 a2 a3 t5 k_ z0_) k3 x1 else bindO (s42 (S45.mk y4.Period.fFrom y4.Period.fTo y4.Period.Days) a3) fun r8 => (bif decide (r8.2 ≠ 0) then some ([], r8.2) else s66_j1 (fun k_ z0_ => s66_l1 a0 a2 a3 t5 k_ z0_) k3 (x1 ++ [(S131.mk y4.Name r8.1)])))
def s66 (a0 : S23) (a1 : List S115) (a2 : List S104) (a3 : S67) : Option ((List S131) × Int) :=
 s66_l1 a0 a2 a3 a1 0 []
theorem c66 {g : List (Nat × List Value)} (a0 : S23) (a1 : List S115) (a2 : List S104) (a3 : S67) {R : (List S131) × Int}  (hq : ∀ q ∈ a1, RqOk q) (hl1 : a1.length ≤ 64) (hb2 : a2.length ≤ 12) (hy1 : 2000 ≤ a3.Year) (hy2 : a3.Year ≤ 2272) (hR : s66 a0 a1 a2 a3 = some R) : Con (EG g) 66 [G.agg [G.int a0.Before, G.int a0.After, G.int a0.Notice, G.int a0.Share, G.sl 1 (List.map cStr a0.Causes), G.int a0.Off, G.int a0.Run], G.sl 13 (List.map S115.c a1), G.sl 8 (List.map S104.c a2), G.agg [G.int a3.Year, G.str a3.Kind]] (G.tup [G.sl 2 (List.map S131.c R.1), G.int R.2]) := by
 unfold s66 at hR;refine qn Tryz.func66 rfl rfl fun w0 M0 => ?_;refine zd (f := S115.c) (l := a1) 1 rfl fun hla1 => ?_;refine zd (f := S104.c) (l := a2) 2 rfl fun hla2 => ?_;refine qb (qa [.p, .p, .w, .p] (su (zl rfl rfl) rfl (su (zl rfl rfl) rfl (sw (zt 8 210 2 rfl rfl rfl) rfl (sa rfl rfl (qc ?_))))));refine qb (qa [.w] (sw (zt 10 210 2 rfl rfl rfl) rfl (qc (qb (qb (qa [.p] ?_))))));refine sa rfl rfl (qc (qi (qq (γ := Nat × (List S115) × (List S131)) (fun g => ([(1, .g (G.sl 13 (List.map S115.c a1))), (2, .g (G.sl 8 (List.map S104.c a2))), (4, .g (G.ref [G.int a0.Before, G.int a0.After, G.int a0.Notice, G.int a0.Share, G.sl 1 (List.map cStr a0.Causes), G.int a0.Off, G.int a0.Run])), (7, .g (G.ref [G.int a3.Year, G.str a3.Kind])), (10, .osl 10 2 0 (List.length g.2.2)), (11, .g (G.int ((g.1 : Nat) : Int)))], [(10, .arr 210 2 (List.map S131.c g.2.2))])) (fun g => g.2.2.length ≤ g.1 ∧ g.1 ≤ a1.length ∧ a1.drop g.1 = g.2.1 ∧ s66_l1 a0 a2 a3 g.2.1 g.1 g.2.2 = some R) (fun g => List.length g.2.1) ⟨rfl, (0, a1, []), ⟨rfl, rfl, rfl, rfl, rfl, rfl, trivial⟩, ⟨rfl, trivial⟩, rfl, ⟨iH, iH, rfl, hR⟩, trivial⟩ ?_)))
 ·rintro ⟨k3, t5, x1⟩ ⟨iv1_0, iv1_1, hd, hR⟩;replace hd : a1.drop k3 = t5 := hd;replace hR : s66_l1 a0 a2 a3 t5 k3 x1 = some R := hR;replace iv1_0 : x1.length ≤ k3 := iv1_0;replace iv1_1 : k3 ≤ a1.length := iv1_1;refine qb (qb (qa [.p, .p, .p, .p] (sm rfl rfl (sm rfl rfl (su (qv (f := S115.c) (l := a1) rfl Tryz.underlying112 rfl) rfl (su (qu rfl rfl rfl) rfl ?_))))));refine qc (zd (f := S115.c) (l := a1) 1 rfl fun hlz1 => ?_);refine qj _ rfl (fun h1 => ?_) (fun h1 => ?_)
  ·replace h1 : (decide (((k3 : Nat) : Int) < (List.length a1 : Int))) = true := h1;obtain ⟨y4, t5, rfl, hx1, hd⟩ := ze hd (decT h1);replace h1 := decT h1;rw [s66_l1] at hR;(try dsimp only at hR);refine ql (ja (γ := (List S131)) (fun g => ([(1, .g (G.sl 13 (List.map S115.c a1))), (2, .g (G.sl 8 (List.map S104.c a2))), (4, .g (G.ref [G.int a0.Before, G.int a0.After, G.int a0.Notice, G.int a0.Share, G.sl 1 (List.map cStr a0.Causes), G.int a0.Off, G.int a0.Run])), (7, .g (G.ref [G.int a3.Year, G.str a3.Kind])), (10, .osl 10 2 0 (List.length g)), (11, .g (G.int ((k3 : Nat) : Int)))], [(10, .arr 210 2 (List.map S131.c g))])) (fun g => g.length ≤ k3 + 1 ∧ s66_j1 (fun k_ z0_ => s66_l1 a0 a2 a3 t5 k_ z0_) k3 g = some R) ?_ ?_)
   ·refine qi (qb (qa [.p, .p, .p, .p, .w, .w] (sm rfl rfl (sm rfl rfl (su (zh (f := S115.c) (l := a1) (a := y4) rfl Tryz.underlying112 wc rfl rfl (Int.natCast_nonneg _) hx1) rfl (su (qt rfl wc rfl rfl rfl) rfl ?_))))));refine sw (zq 12 rfl z116 rfl rfl) rfl (jf rfl rfl (za (tv := .g (G.agg [G.str y4.Name, G.str y4.Carrier, G.str y4.Kind, G.str y4.Terminal, G.str y4.Partner, G.str y4.Link, G.int y4.Period.fFrom, G.int y4.Period.fTo, G.int y4.Period.Days, G.int y4.Minute, G.int y4.Seats, G.int y4.Size, G.int y4.Noise])) rfl wc rfl rfl rfl rfl rfl) (qc (qb (qb ?_))));have hq7 := hq _ (List.mem_of_getElem? hx1);obtain ⟨r7, br7, hR⟩ := qk hR;refine zu [.p, .p, .p, .r, .p, .r, .p, .r, .p, .r, .p, .p, .p, .p, .p] (by kernel_rfl) (su (qt rfl ty29 rfl rfl rfl) rfl (su (qt rfl ty29 rfl rfl rfl) rfl (su (zg rfl xk rfl) rfl (sr (z4 rfl ty9 rfl rfl rfl) rfl (su (zg rfl qd2 rfl) rfl (sr (z4 rfl ty9 rfl rfl rfl) rfl ?_))))));refine su (zg rfl qaf rfl) rfl (sr (zx rfl ty46 rfl rfl rfl rfl) rfl (su (zg rfl qf8 rfl) rfl (sr (z4 rfl ty3 rfl rfl rfl) rfl (su (qg rfl K31 rfl (c31 y4.Name y4.Kind (S45.mk y4.Period.fFrom y4.Period.fTo y4.Period.Days) y4.Minute (period_ok _ hq7.per).1 (Int.le_trans (period_ok _ hq7.per).2.2.1 (by decide)) (Nat.le_trans (xh hq7.per).1 (by decide))) (qe rfl (qe rfl (qe rfl (qe rfl qm))))) rfl (sm rfl rfl (su (qg rfl K62 rfl (c62W a0 (s31 y4.Name y4.Kind (S45.mk y4.Period.fFrom y4.Period.fTo y4.Period.Days) y4.Minute) a2 (qxm hq7.per hq7.m0 hq7.m1 hq7.len) (by omega) br7) (qe rfl (qe rfl (qe rfl qm)))) rfl ?_))))));refine su (qg rfl K37 rfl (c37 a0 r7) (qe rfl (qe rfl qm))) rfl (su (kh rfl rfl) rfl (qc (qj _ rfl (fun h3 => ?_) (fun h3 => ?_))))
    ·replace h3 : (!(s37 a0 r7)) = true := h3;replace hR := zj hR h3;(try simp only [bB] at h3);refine qw ?_;exact ⟨rfl, x1, ⟨rfl, rfl, rfl, rfl, rfl, rfl, trivial⟩, ⟨rfl, trivial⟩, rfl, ⟨iC, hR⟩, trivial⟩
    ·replace h3 : (!(s37 a0 r7)) = false := h3;replace hR := zk hR h3;(try simp only [bB] at h3);refine ql (qb ?_);obtain ⟨r8, br8, hR⟩ := qk hR;refine qa [.p, .r, .p, .p, .p, .p, .p, .p, .p] (su (zg rfl qaf rfl) rfl (sr (zx rfl ty46 rfl rfl rfl rfl) rfl (su (qt rfl ty74 rfl rfl rfl) rfl (su (qg rfl K42 rfl (c42 (S45.mk y4.Period.fFrom y4.Period.fTo y4.Period.Days) a3 hq7.per hy1 hy2 br8) (qe rfl (qe rfl qm))) rfl (sm rfl rfl (su (zo rfl rfl rfl) rfl ?_))))));refine su (zo rfl rfl rfl) rfl (sa rfl rfl (sa rfl rfl (qc (qb (qb (qa [.p, .p] ?_))))));refine sm rfl rfl (su (jg rfl rfl rfl) rfl (qc (qj _ rfl (fun h4 => ?_) (fun h4 => ?_))))
     ·replace h4 : (decide (r8.2 ≠ 0)) = true := h4;replace hR := zj hR h4;(try simp only [bB] at h4);refine qb (qa [.p, .w, .p] (sm rfl rfl (sw (zt 8 210 2 rfl rfl rfl) rfl (sa rfl rfl (qc (qo ?_))))));obtain rfl := Option.some.inj hR;exact resN rfl ⟨wh rfl rfl, rv_g rfl, trivial⟩ (by simp)
     ·replace h4 : (decide (r8.2 ≠ 0)) = false := h4;replace hR := zk hR h4;(try simp only [bB] at h4);refine ql (qa [.p, .p, .r, .p, .p, .p, .k, .p] (su (qp rfl rfl) rfl (su (zg rfl xk rfl) rfl (sr (z4 rfl ty9 rfl rfl rfl) rfl (sm rfl rfl (su (je rfl z210 rfl qy0 (zr rfl (zr rfl kw)) rfl) rfl ?_))))));refine su (qr rfl Tryz.underlying121 qme z210 rfl (qy rfl jc) rfl (by exact lens rfl) (by decide)) rfl (st_k rfl rfl (jd (f := S131.c) (out := x1) (new := [(S131.mk y4.Name r8.1)]) rfl qsd rfl rfl (km rfl (ky (by decide) (by simp [S131.c, S45.c]))) (vu rfl) (by simp; omega)) rfl (su (qx rfl rfl) rfl (qc ?_)));exact ⟨rfl, x1 ++ [(S131.mk y4.Name r8.1)], ⟨rfl, rfl, rfl, rfl, rfl, rfl, trivial⟩, ⟨rfl, trivial⟩, rfl, ⟨iC, hR⟩, trivial⟩
   ·rintro x6 ⟨jv1_0, hR⟩;replace jv1_0 : x6.length ≤ k3 + 1 := jv1_0;replace hR : s66_j1 (fun k_ z0_ => s66_l1 a0 a2 a3 t5 k_ z0_) k3 x6 = some R := hR;unfold s66_j1 at hR;refine qa [.p, .p, .p] (sm rfl rfl (su (zc rfl rfl rfl iE) rfl (sa rfl rfl (qc ?_))));exact ⟨rfl, (k3 + 1, t5, x6), ⟨rfl, rfl, rfl, rfl, rfl, rfl, trivial⟩, ⟨rfl, trivial⟩, rfl, ⟨iB, iB, hd, hR⟩, by simp⟩
  ·replace h1 : (decide (((k3 : Nat) : Int) < (List.length a1 : Int))) = false := h1;obtain rfl := zm hd (decF h1);rw [s66_l1] at hR;refine qw ?_;refine qb (qa [.p, .p, .p] (su (qp rfl rfl) rfl (su (qx rfl rfl) rfl (sa rfl rfl (qc (qo ?_))))));obtain rfl := Option.some.inj hR;exact resN rfl ⟨wh rfl rfl, rv_g rfl, trivial⟩ (by simp)
def s67_l1 (a1 : List S131) : List S131 → Nat → Option Bool
 | [], k2 => some true
 | y3 :: t4, k2 => bindO (ixO a1 ((k2 : Nat) : Int)) fun y5 => bindO (bif !(!decide (y3.Name = y5.Name)) then ixO a1 ((k2 : Nat) : Int) else some default) fun y6 => bindO (bif !(!decide (y3.Name = y5.Name)) then s43 y3.Periods y6.Periods else some default) fun r7 => (bif (!decide (y3.Name = y5.Name)) || (!r7) then some false else s67_l1 a1 t4 (k2 + 1))
def s67 (a0 : List S131) (a1 : List S131) : Option Bool :=
 (bif decide ((List.length a0 : Int) ≠ (List.length a1 : Int)) then some false else s67_l1 a1 a0 0)
theorem c67 {g : List (Nat × List Value)} (a0 : List S131) (a1 : List S131) {R : Bool}   (hR : s67 a0 a1 = some R) : Con (EG g) 67 [G.sl 2 (List.map S131.c a0), G.sl 2 (List.map S131.c a1)] (G.bool R) := by
 unfold s67 at hR;refine qn Tryz.func67 rfl rfl fun w0 M0 => ?_;refine zd (f := S131.c) (l := a0) 0 rfl fun hla0 => ?_;refine zd (f := S131.c) (l := a1) 1 rfl fun hla1 => ?_;refine qb (qa [.p] (sa rfl rfl (qc (qb (qb (qa [.p, .p, .p, .p, .p] ?_))))));refine sm rfl rfl (su (qv (f := S131.c) (l := a0) rfl Tryz.underlying121 rfl) rfl (sm rfl rfl (su (qv (f := S131.c) (l := a1) rfl Tryz.underlying121 rfl) rfl (su (jg rfl rfl rfl) rfl (qc (qj _ rfl (fun h1 => ?_) (fun h1 => ?_)))))))
 ·replace hR := zj hR h1;refine qb (qa [.p] (sa rfl rfl (qc (qo ?_))));obtain rfl := Option.some.inj hR;exact zb rfl (rv_g rfl)
 ·replace h1 : (decide ((List.length a0 : Int) ≠ (List.length a1 : Int))) = false := h1;replace hR := zk hR h1;(try simp only [bB] at h1);refine ql (qb (qb (qa [.p] (sa rfl rfl (qc (qi ?_))))));refine qq (γ := Nat × (List S131)) (fun g => ([(0, .g (G.sl 2 (List.map S131.c a0))), (1, .g (G.sl 2 (List.map S131.c a1))), (5, .g (G.int ((g.1 : Nat) : Int)))], [])) (fun g => a0.drop g.1 = g.2 ∧ s67_l1 a1 g.2 g.1 = some R) (fun g => List.length g.2) ⟨rfl, (0, a0), ⟨rfl, rfl, rfl, trivial⟩, trivial, rfl, ⟨rfl, hR⟩, trivial⟩ ?_
  ·rintro ⟨k2, t4⟩ ⟨hd, hR⟩;replace hd : a0.drop k2 = t4 := hd;replace hR : s67_l1 a1 t4 k2 = some R := hR;refine qb (qb (qa [.p, .p, .p, .p] (sm rfl rfl (sm rfl rfl (su (qv (f := S131.c) (l := a0) rfl Tryz.underlying121 rfl) rfl (su (qu rfl rfl rfl) rfl ?_))))));refine qc (zd (f := S131.c) (l := a0) 0 rfl fun hlz1 => ?_);refine qj _ rfl (fun h2 => ?_) (fun h2 => ?_)
   ·replace h2 : (decide (((k2 : Nat) : Int) < (List.length a0 : Int))) = true := h2;obtain ⟨y3, t4, rfl, hx1, hd⟩ := ze hd (decT h2);replace h2 := decT h2;rw [s67_l1] at hR;(try dsimp only at hR);refine ql (qb (qi (qb ?_)));obtain ⟨y5, by5, hR⟩ := qk hR;obtain ⟨y6, by6, hR⟩ := qk hR;obtain ⟨r7, br7, hR⟩ := qk hR;refine zu [.p, .p, .p, .p, .p, .p, .p, .p, .p, .p, .p, .p, .p, .p, .p, .p, .p, .p, .p, .p, .p, .p, .p, .p, .p] (by kernel_rfl) (sm rfl rfl (sm rfl rfl (su (zh (f := S131.c) (l := a0) (a := y3) rfl Tryz.underlying121 qme rfl rfl (Int.natCast_nonneg _) hx1) rfl (su (qd rfl qo4 rfl) rfl (su (qf rfl ty9 rfl) rfl (sm rfl rfl ?_))))));refine sm rfl rfl (su (zh (f := S131.c) (l := a1) (a := y5) rfl Tryz.underlying121 qme rfl rfl (z5 by5) (qz by5)) rfl (su (qd rfl qo4 rfl) rfl (su (qf rfl ty9 rfl) rfl (su (j7 rfl rfl rfl) rfl (sm rfl rfl (sg rfl rfl (fun h => qh rfl rfl) rfl ?_))))));refine sg rfl rfl (fun h => qh rfl rfl) rfl (sg rfl rfl (fun h => zh (f := S131.c) (l := a0) (a := y3) rfl Tryz.underlying121 qme (gd h rfl) (gd h rfl) (Int.natCast_nonneg _) hx1) rfl (sg rfl rfl (fun h => qd rfl qo5 (gd h rfl)) rfl (sg rfl rfl (fun h => qf rfl ty69 (gd h rfl)) rfl (sg rfl rfl (fun h => qh rfl rfl) rfl (sg rfl rfl (fun h => qh rfl rfl) rfl (sg rfl rfl (fun h => zh (f := S131.c) (l := a1) (a := y6) rfl Tryz.underlying121 qme (gd h rfl) (gd h rfl) (z5 (qej by6 h)) (qz (qej by6 h))) rfl ?_))))));refine sg rfl rfl (fun h => qd rfl qo5 (gd h rfl)) rfl (sg rfl rfl (fun h => qf rfl ty69 (gd h rfl)) rfl (sg rfl rfl (fun h => qg rfl K43 rfl (c43 y3.Periods y6.Periods (qej br7 h)) (qe (gd h rfl) (qe (gd h rfl) qm))) rfl (sg rfl rfl (fun h => kh rfl (gd h rfl)) rfl (su (jj rfl rfl rfl rfl) rfl (qc (qj _ rfl (fun h4 => ?_) (fun h4 => ?_)))))))
    ·replace hR := zj hR h4;refine qb (qa [.p] (sa rfl rfl (qc (qo ?_))));obtain rfl := Option.some.inj hR;exact zb rfl (rv_g rfl)
    ·replace h4 : ((!decide (y3.Name = y5.Name)) || (!r7)) = false := h4;replace hR := zk hR h4;(try simp only [bB] at h4);refine ql (qa [.p, .p, .p] (sm rfl rfl (su (zc rfl rfl rfl iE) rfl (sa rfl rfl (qc ?_)))));exact ⟨rfl, (k2 + 1, t4), ⟨rfl, rfl, rfl, trivial⟩, trivial, rfl, ⟨hd, hR⟩, by simp⟩
   ·replace h2 : (decide (((k2 : Nat) : Int) < (List.length a0 : Int))) = false := h2;obtain rfl := zm hd (decF h2);rw [s67_l1] at hR;refine qw ?_;refine qb (qa [.p] (sa rfl rfl (qc (qo ?_))));obtain rfl := Option.some.inj hR;exact zb rfl (rv_g rfl)
def s68_l1  : List S131 → Nat → (List S131) → List S131
 | [], k3, x1 => x1
 | y4 :: t5, k3, x1 => s68_l1  t5 (k3 + 1) (x1 ++ [y4])
def s68 (a0 : List S131) : List S131 :=
 s68_l1 a0 0 []
theorem c68 {g : List (Nat × List Value)} (a0 : List S131)  (hb0 : a0.length ≤ 1000)  : Con (EG g) 68 [G.sl 2 (List.map S131.c a0)] (G.sl 2 (List.map S131.c (s68 a0))) := by
 generalize hR : s68 a0 = R;unfold s68 at hR;refine qn Tryz.func68 rfl rfl fun w0 M0 => ?_;refine zd (f := S131.c) (l := a0) 0 rfl fun hla0 => ?_;refine qb (qa [.w] (sw (zt 2 210 2 rfl rfl rfl) rfl (qc (qb (qa [.w] (sw (zt 3 210 2 rfl rfl rfl) rfl ?_))))));refine qc (qb (qb (qa [.p, .p, .p] (sm rfl rfl (su (qv (f := S131.c) (l := a0) rfl Tryz.underlying117 rfl) rfl (sm rfl rfl ?_))))));refine qc (qi (qq (γ := Nat × (List S131) × (List S131)) (fun g => ([(0, .g (G.sl 2 (List.map S131.c a0))), (3, .osl 3 2 0 (List.length g.2.2)), (6, .g (G.int (List.length a0 : Int))), (7, .g (G.int ((g.1 : Nat) : Int)))], [(3, .arr 210 2 (List.map S131.c g.2.2))])) (fun g => g.2.2.length ≤ g.1 ∧ a0.drop g.1 = g.2.1 ∧ s68_l1  g.2.1 g.1 g.2.2 = R) (fun g => List.length g.2.1) ⟨rfl, (0, a0, []), ⟨rfl, rfl, rfl, rfl, trivial⟩, ⟨rfl, trivial⟩, rfl, ⟨iH, rfl, hR⟩, trivial⟩ ?_))
 ·rintro ⟨k3, t5, x1⟩ ⟨iv1_0, hd, hR⟩;replace hd : a0.drop k3 = t5 := hd;replace hR : s68_l1  t5 k3 x1 = R := hR;replace iv1_0 : x1.length ≤ k3 := iv1_0;refine qb (qa [.p] (su (qu rfl rfl rfl) rfl (qc (zd (f := S131.c) (l := a0) 0 rfl fun hlz1 => ?_))));refine qb (qj _ rfl (fun h1 => ?_) (fun h1 => ?_))
  ·replace h1 : (decide (((k3 : Nat) : Int) < (List.length a0 : Int))) = true := h1;obtain ⟨y4, t5, rfl, hx1, hd⟩ := ze hd (decT h1);replace h1 := decT h1;rw [s68_l1] at hR;(try dsimp only at hR);refine ql (qb (qi (qb (qa [.p, .p] (sm rfl rfl (sa rfl rfl ?_))))));refine qc (qa [.p, .p, .p, .p, .p, .p, .k, .p] (su (qp rfl rfl) rfl (sm rfl rfl (sm rfl rfl (su (zh (f := S131.c) (l := a0) (a := y4) rfl Tryz.underlying117 qur rfl rfl (Int.natCast_nonneg _) hx1) rfl (su (qt rfl qur rfl rfl rfl) rfl ?_))))));refine su (qr rfl Tryz.underlying121 qme z210 rfl (qy rfl jc) rfl (by simp [S131.c, S45.c]) (by decide)) rfl (st_k rfl rfl (jd (f := S131.c) (out := x1) (new := [y4]) rfl qsd rfl rfl (km rfl (ky (by decide) (by simp [S131.c, S45.c]))) (vu rfl) (by simp; omega)) rfl (su (qx rfl rfl) rfl (qc (qa [.p, .p] (su (zc rfl rfl rfl iE) rfl (sm rfl rfl ?_))))));refine qc ?_;exact ⟨rfl, (k3 + 1, t5, x1 ++ [y4]), ⟨rfl, rfl, rfl, rfl, trivial⟩, ⟨rfl, trivial⟩, rfl, ⟨iB, hd, hR⟩, by simp⟩
  ·replace h1 : (decide (((k3 : Nat) : Int) < (List.length a0 : Int))) = false := h1;obtain rfl := zm hd (decF h1);rw [s68_l1] at hR;refine qw ?_;refine qb (qa [.p, .p] (su (qp rfl rfl) rfl (su (qx rfl rfl) rfl (qc (qo ?_)))));subst hR;exact zb rfl (wh rfl rfl)
end Go.Sim
