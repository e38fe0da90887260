/-
  What is proved: lemmas and contracts of functions on the way to the law useCarries (part 10).
-/
import Derived.Test.YtdfgeoefbbkcnaaGreatDoorVrA9
import Derived.Test.YtdfgeoefbbkcnaaGreatDoorVrA8
import Derived.Test.YtdfgeoefbbkcnaaGreatDoorVrA4
import Derived.Test.YtdfgeoefbbkcnaaGreatDoorVrA2
import Derived.Maps.RangeRun
set_option linter.unusedSectionVars false
set_option linter.unusedSimpArgs false
set_option linter.unusedVariables false
set_option linter.unnecessarySimpa false
set_option linter.deprecated false
namespace Go.Sim
def sun (n : Int) : Int := n - (n + 6) % 7
theorem vm (n : Int) : n - 6 ≤ sun n ∧ sun n ≤ n := by unfold sun; omega
theorem qgr {x : Int} (h : 0 ≤ x) (h' : x ≤ 1000000000) : s188 x = (x + 5) % 7 := by
 unfold s188;rw [wrap_i64 ⟨by omega, by omega⟩, Int.tmod_eq_emod_of_nonneg (by omega)]
theorem qcv : ∀ (k : Nat) (x : Int), (x + 6) % 7 < (k : Int) → 7 ≤ x - (x + 6) % 7 → x ≤ 1000000000 → s162_l1 k x = some (sun x)
 | 0, x, h, _, _ => by omega
 | k + 1, x, h, h1, h2 => by
  rw [s162_l1, qce (by omega) h2]
  by_cases h3 : (x + 5) % 7 = 6
  ·rw [decide_eq_false (by simpa using h3), cond_false];unfold sun
   congr 1
   omega
  ·rw [decide_eq_true h3, cond_true, wrap_i64 ⟨by omega, by omega⟩, qcv k (x - 1) (by omega) (by omega) (by omega)];unfold sun
   congr 1
   omega
theorem qqi {y : Int} (h : 2000 ≤ y) (h' : y ≤ 3000) : s162 y 3 = some (sun (N3 y)) := by
 have := qf7 h h';unfold s162;rw [qt1 h h'];exact qcv _ _ (by omega) (by omega) (by omega)
theorem qm7 {y : Int} (h : 2000 ≤ y) (h' : y ≤ 3000) : s162 y 10 = some (sun (N10 y)) := by
 have := qf7 h h';unfold s162;rw [qre h h'];exact qcv _ _ (by omega) (by omega) (by omega)
theorem qm8 (y : Int) : s223 y 2 = some (28 + lp y) := by
 have h : s248 y = s224 y := rfl;unfold s223 lp;rw [h]
 cases s224 y <;> rfl
theorem kq {y m r : Int} (hm : m ≠ 2) (h : ixO lenL (IntKind.i64.wrap (m - 1)) = some r) : s223 y m = some r := by
 unfold s223;rw [decide_eq_false hm, Bool.false_and, cond_false, h]
 rfl
theorem qqj {y m : Int} (h : 2000 ≤ y) (h' : y ≤ 3000) : s221 y m 31 = s221_l2 y ((m - 1).toNat) (30 + Dy (y - 2000).toNat) 1 := by
 have hn := xn h;unfold s221;rw [wrap_i64 (n := y - 2000) ⟨by omega, by omega⟩, wrap_i64 (n := (31 : Int) - 1) ⟨by omega, by omega⟩];have := qds y m (y - 2000).toNat 0 30 (by omega) (by omega) (by omega);simp only [Nat.zero_add, Dy] at this
 have e : (y - 2000 - 0).toNat = (y - 2000).toNat := by simp
 rw [e];show s221_l1 y m (y - 2000).toNat 30 ((0 : Nat) : Int) = _;rw [this]
 congr 1
 omega
theorem qux {y : Int} (h : 2000 ≤ y) (h' : y ≤ 3000) : s221 y 3 31 = some (N3 y) := by
 have hn := xn h;have h1 := v7 y;have h2 := qcf (y - 2000).toNat;rw [qqj h h'];show s221_l2 y 2 _ 1 = _;rw [s221_l2, kq (y := y) (m := 1) (r := 31) (by decide) rfl];simp only [bindO];rw [wrap_i64 ⟨by omega, by omega⟩, s221_l2, show (1 : Int) + 1 = 2 from rfl, qm8];simp only [bindO];rw [wrap_i64 ⟨by omega, by omega⟩, s221_l2];unfold N3
 congr 1
 omega
theorem qsi {y : Int} (h : 2000 ≤ y) (h' : y ≤ 3000) : s221 y 10 31 = some (N10 y) := by
 have hn := xn h;have h1 := v7 y;have h2 := qcf (y - 2000).toNat;rw [qqj h h'];show s221_l2 y 9 _ 1 = _;rw [s221_l2, kq (y := y) (m := 1) (r := 31) (by decide) rfl];simp only [bindO];rw [wrap_i64 ⟨by omega, by omega⟩, s221_l2, show (1 : Int) + 1 = 2 from rfl, qm8];simp only [bindO];rw [wrap_i64 ⟨by omega, by omega⟩, s221_l2, show (2 : Int) + 1 = 3 from rfl, kq (y := y) (m := 3) (r := 31) (by decide) rfl];simp only [bindO];rw [wrap_i64 ⟨by omega, by omega⟩, s221_l2, show (3 : Int) + 1 = 4 from rfl, kq (y := y) (m := 4) (r := 30) (by decide) rfl];simp only [bindO];rw [wrap_i64 ⟨by omega, by omega⟩, s221_l2, show (4 : Int) + 1 = 5 from rfl, kq (y := y) (m := 5) (r := 31) (by decide) rfl];simp only [bindO];rw [wrap_i64 ⟨by omega, by omega⟩, s221_l2, show (5 : Int) + 1 = 6 from rfl, kq (y := y) (m := 6) (r := 30) (by decide) rfl];simp only [bindO];rw [wrap_i64 ⟨by omega, by omega⟩, s221_l2, show (6 : Int) + 1 = 7 from rfl, kq (y := y) (m := 7) (r := 31) (by decide) rfl];simp only [bindO];rw [wrap_i64 ⟨by omega, by omega⟩, s221_l2, show (7 : Int) + 1 = 8 from rfl, kq (y := y) (m := 8) (r := 31) (by decide) rfl];simp only [bindO];rw [wrap_i64 ⟨by omega, by omega⟩, s221_l2, show (8 : Int) + 1 = 9 from rfl, kq (y := y) (m := 9) (r := 30) (by decide) rfl];simp only [bindO];rw [wrap_i64 ⟨by omega, by omega⟩, s221_l2];unfold N10
 congr 1
 omega
theorem qm9 {y m n : Int} (h : s221 y m 31 = some n) (h0 : 0 ≤ n) (h1 : n ≤ 1000000) : s189 y m = some (sun n) := by
 unfold s189;rw [h];simp only [bindO];rw [qgr h0 (by omega), wrap_i64 (n := (n + 5) % 7 + 7) ⟨by omega, by omega⟩, wrap_i64 (n := (n + 5) % 7 + 7 - 6) ⟨by omega, by omega⟩, Int.tmod_eq_emod_of_nonneg (by omega), wrap_i64 ⟨by omega, by omega⟩];unfold sun
 congr 1
 omega
theorem qqk {y : Int} (h : 2000 ≤ y) (h' : y ≤ 3000) : s189 y 3 = some (sun (N3 y)) := by
 have := qf7 h h';exact qm9 (qux h h') (by omega) (by omega)
theorem qna {y : Int} (h : 2000 ≤ y) (h' : y ≤ 3000) : s189 y 10 = some (sun (N10 y)) := by
 have := qf7 h h';exact qm9 (qsi h h') (by omega) (by omega)
def QD (y m R : Int) : Prop := ∀ (k : Nat) (x : Int), 0 ≤ x → x < R → x.toNat < k → ∃ t, s195_l2 y k x m = some (y, t)
theorem qsj {y m r : Int} (h : s223 y m = some r) : QD y m r
 | 0, x, _, _, hk => by omega
 | k + 1, x, h0, h1, hk => by
  rw [s195_l2, h];simp only [bindO];rw [decide_eq_false (by omega), cond_false];exact ⟨_, rfl⟩
theorem xa {y m r R : Int} (h : s223 y m = some r) (hr : 0 < r) (hR : r + R ≤ 1000) (hm : 0 ≤ m ∧ m ≤ 100) (hq : QD y (m + 1) R) : QD y m (r + R)
 | 0, x, _, _, hk => by omega
 | k + 1, x, h0, h1, hk => by
  rw [s195_l2, h];simp only [bindO]
  by_cases hx : r ≤ x
  ·rw [decide_eq_true hx, cond_true, wrap_i64 (n := x - r) ⟨by omega, by omega⟩, wrap_i64 (n := m + 1) ⟨by omega, by omega⟩];exact hq k (x - r) (by omega) (by omega) (by omega)
  ·rw [decide_eq_false hx, cond_false];exact ⟨_, rfl⟩
theorem qsk (y : Int) : QD y 1 (365 + lp y) := by
 have hl := v7 y;have q12 : QD y 12 31 := qsj (kq (by decide) rfl);have q11 := xa (R := 31) (kq (y := y) (m := 11) (r := 30) (by decide) rfl) (by decide) (by decide) (by decide) q12;have q10 := xa (R := 30 + 31) (kq (y := y) (m := 10) (r := 31) (by decide) rfl) (by decide) (by decide) (by decide) q11;have q9 := xa (R := 31 + (30 + 31)) (kq (y := y) (m := 9) (r := 30) (by decide) rfl) (by decide) (by decide) (by decide) q10;have q8 := xa (R := 30 + (31 + (30 + 31))) (kq (y := y) (m := 8) (r := 31) (by decide) rfl) (by decide) (by decide) (by decide) q9;have q7 := xa (R := 31 + (30 + (31 + (30 + 31)))) (kq (y := y) (m := 7) (r := 31) (by decide) rfl) (by decide) (by decide) (by decide) q8;have q6 := xa (R := 31 + (31 + (30 + (31 + (30 + 31))))) (kq (y := y) (m := 6) (r := 30) (by decide) rfl) (by decide) (by decide) (by decide) q7;have q5 := xa (R := 30 + (31 + (31 + (30 + (31 + (30 + 31)))))) (kq (y := y) (m := 5) (r := 31) (by decide) rfl) (by decide) (by decide) (by decide) q6;have q4 := xa (R := 31 + (30 + (31 + (31 + (30 + (31 + (30 + 31))))))) (kq (y := y) (m := 4) (r := 30) (by decide) rfl) (by decide) (by decide) (by decide) q5;have q3 := xa (R := 30 + (31 + (30 + (31 + (31 + (30 + (31 + (30 + 31)))))))) (kq (y := y) (m := 3) (r := 31) (by decide) rfl) (by decide) (by decide) (by decide) q4;have q2 := xa (qm8 y) (by omega) (by omega) (by decide) q3;have q1 := xa (kq (y := y) (m := 1) (r := 31) (by decide) rfl) (by decide) (by omega) (by decide) q2;intro k x h0 h1 hk;exact q1 k x h0 (by omega) hk
theorem qd7 (y : Int) : ∀ (k : Nat) (x m : Int), 0 ≤ x → x ≤ 1000000 → x.toNat < k → ∃ t, s161_l2 y k x m = some (y, t)
 | 0, x, m, _, _, hk => by omega
 | k + 1, x, m, h0, h1, hk => by
  have hr := qoh y m;rw [s161_l2]
  by_cases hx : s199 y m ≤ x
  ·rw [decide_eq_true hx, cond_true, wrap_i64 (n := x - s199 y m) ⟨by omega, by omega⟩];exact qd7 y k _ _ (by omega) (by omega) (by omega)
  ·rw [decide_eq_false hx, cond_false];exact ⟨_, rfl⟩
theorem qgs (day : Int) (hd : day ≤ 1000000) : ∀ (k k' n : Nat), Dy n ≤ day → (day - Dy n).toNat < k → (day - Dy n).toNat < k' →
  ∃ (N : Nat) (t1 t2 : Int × Int), s195_l1 k (day - Dy n) (2000 + (n : Int)) = some (2000 + (N : Int), t1) ∧ s161_l1 k' (day - Dy n) (2000 + (n : Int)) = some (2000 + (N : Int), t2) ∧ Dy N ≤ day ∧ day < Dy (N + 1)
 | 0, _, n, _, hk, _ => by omega
 | _ + 1, 0, n, _, _, hk => by omega
 | k + 1, k' + 1, n, h0, hk, hk' => by
  have hr := qar (2000 + (n : Int));have hn := qcf n;rw [s195_l1, s161_l1, ql6]
  by_cases hx : s198 (2000 + (n : Int)) ≤ day - Dy n
  ·rw [decide_eq_true hx, cond_true, cond_true, wrap_i64 (n := day - Dy n - s198 (2000 + (n : Int))) ⟨by omega, by omega⟩, wrap_i64 (n := 2000 + (n : Int) + 1) ⟨by omega, by omega⟩]
   have e1 : day - Dy n - s198 (2000 + (n : Int)) = day - Dy (n + 1) := by rw [Dy]; omega
   have e2 : 2000 + (n : Int) + 1 = 2000 + ((n + 1 : Nat) : Int) := by omega
   rw [e1, e2];have e3 : Dy (n + 1) = Dy n + s198 (2000 + (n : Int)) := rfl;exact qgs day hd k k' (n + 1) (by omega) (by omega) (by omega)
  ·rw [decide_eq_false hx, cond_false, cond_false];have e3 : Dy (n + 1) = Dy n + s198 (2000 + (n : Int)) := rfl;have e4 := ql5 (2000 + (n : Int));obtain ⟨t1, g1⟩ := qsk (2000 + (n : Int)) ((day - Dy n).toNat + 1) (day - Dy n) (by omega) (by omega) (by omega);obtain ⟨t2, g2⟩ := qd7 (2000 + (n : Int)) ((day - Dy n).toNat + 1) (day - Dy n) 1 (by omega) (by omega) (by omega);exact ⟨n, t1, t2, g1, g2, h0, by omega⟩
theorem qsl {day : Int} (h0 : 0 ≤ day) (h1 : day ≤ 1000000) : ∃ (N : Nat) (t1 t2 : Int × Int), s195 day = some (2000 + (N : Int), t1) ∧ s161 day = some (2000 + (N : Int), t2) ∧ Dy N ≤ day ∧ day < Dy (N + 1) := by
 have := qgs day h1 (day.toNat + 1) (day.toNat + 1) 0 (by simpa [Dy] using h0) (by simp [Dy]) (by simp [Dy])
 simpa [Dy, s195, s161] using this
abbrev kS : ByteArray := ⟨#[83]⟩
abbrev kW : ByteArray := ⟨#[87]⟩
theorem kSW : ¬ kW = kS := by decide
theorem qpe {w : Int} (h : 0 ≤ w) (h' : w < 7) : s192 127 w = true := by
 have : w = 0 ∨ w = 1 ∨ w = 2 ∨ w = 3 ∨ w = 4 ∨ w = 5 ∨ w = 6 := by omega
 rcases this with rfl | rfl | rfl | rfl | rfl | rfl | rfl <;> rfl
theorem qjr {y : Int} (h : 2000 ≤ y) (h' : y ≤ 3000) : s138 ⟨y, kS⟩ = some (sun (N3 y)) := by
 unfold s138;rw [decide_eq_true rfl, cond_true, qqk h h']; rfl
theorem qql {y : Int} (h : 2000 ≤ y) (h' : y ≤ 3000) : s138 ⟨y, kW⟩ = some (sun (N10 y)) := by
 unfold s138;rw [decide_eq_false kSW, cond_false, qna h h']; rfl
theorem qqm {y : Int} (h : 2000 ≤ y) (h' : y ≤ 2999) : s111 ⟨y, kS⟩ = some ⟨sun (N3 y), sun (N10 y) - 1, 127⟩ := by
 have h1 := qf7 h (by omega);have h2 := vm (N10 y);unfold s111;rw [decide_eq_true rfl, cond_true, qqi h (by omega), qm7 h (by omega)];simp only [bindO];rw [wrap_i64 ⟨by omega, by omega⟩]
theorem qqn {y : Int} (h : 2000 ≤ y) (h' : y ≤ 2999) : s111 ⟨y, kW⟩ = some ⟨sun (N10 y), sun (N3 (y + 1)) - 1, 127⟩ := by
 have h1 := qf7 (y := y + 1) (by omega) (by omega);have h2 := vm (N3 (y + 1));unfold s111;rw [decide_eq_false kSW, cond_false, qm7 h (by omega)];simp only [bindO];rw [wrap_i64 (n := y + 1) ⟨by omega, by omega⟩, qqi (by omega) (by omega)]
 simp only
 rw [wrap_i64 ⟨by omega, by omega⟩]
theorem qnb {f t d : Int} (h0 : 0 ≤ d) (h1 : d ≤ 1000000) : s157 ⟨f, t, 127⟩ d = decide (f ≤ d ∧ d ≤ t) := by
 unfold s157;rw [qce h0 (by omega), qpe (by omega) (by omega), Bool.and_true]
 simp
theorem wo (rec1 : Int → Option (S67 × Bool)) {day y : Int} (h0 : 0 ≤ day) (h1 : day ≤ 99999) (h : 2000 ≤ y) (h' : y ≤ 2999) : s110_l2 rec1 day y 2 0 =
  bif decide (sun (N3 y) ≤ day ∧ day ≤ sun (N10 y) - 1) then some (⟨y, kS⟩, true) else bif decide (sun (N10 y) ≤ day ∧ day ≤ sun (N3 (y + 1)) - 1) then some (⟨y, kW⟩, true) else rec1 (y + 1) := by
 have e1 : ByteArray.extract (⟨#[83, 87]⟩) (Int.toNat 0) (Int.toNat (IntKind.i64.wrap (0 + 1))) = kS := rfl;have e2 : ByteArray.extract (⟨#[83, 87]⟩) (Int.toNat (0 + 1)) (Int.toNat (IntKind.i64.wrap (0 + 1 + 1))) = kW := rfl;rw [s110_l2, e1, qqm h h'];simp only [bindO];rw [qnb h0 (by omega)]
 cases decide (sun (N3 y) ≤ day ∧ day ≤ sun (N10 y) - 1)
 ·rw [cond_false, cond_false, s110_l2, e2, qqn h h'];simp only [bindO];rw [qnb h0 (by omega)]
  cases decide (sun (N10 y) ≤ day ∧ day ≤ sun (N3 (y + 1)) - 1)
  ·rw [cond_false, cond_false, s110_l2]
  ·rfl
 ·rfl
theorem qh9 {m n : Nat} (h : m ≤ n) : Dy m ≤ Dy n := by
 induction n with
 | zero => rw [Nat.le_zero.1 h]; exact Int.le_refl _
 | succ n ih =>
  have hr := qar (2000 + (n : Int))
  rcases Nat.lt_or_ge n m with h' | h'
  ·have : m = n + 1 := by omega
   rw [this]; exact Int.le_refl _
  ·have := ih h';rw [Dy]; omega
def beg (s : S67) : Int := if s.Kind = kS then sun (N3 s.Year) else sun (N10 s.Year)
def nxt (s : S67) : Int := if s.Kind = kS then sun (N10 s.Year) else sun (N3 (s.Year + 1))
def okS (s : S67) : Prop := 2000 ≤ s.Year ∧ s.Year ≤ 2272 ∧ (s.Kind = kS ∨ s.Kind = kW)
theorem qnc (n : Nat) : N3 (2000 + (n : Int)) = 89 + lp (2000 + (n : Int)) + Dy n := by
 unfold N3
 have : (2000 + (n : Int) - 2000).toNat = n := by omega
 rw [this]
theorem qjs (n : Nat) : N10 (2000 + (n : Int)) = 303 + lp (2000 + (n : Int)) + Dy n := by
 unfold N10
 have : (2000 + (n : Int) - 2000).toNat = n := by omega
 rw [this]
theorem qcw (n : Nat) : Dy (n + 1) = Dy n + (365 + lp (2000 + (n : Int))) := by rw [Dy, ql5]
theorem qnd {day : Int} (h0 : 0 ≤ day) (h1 : day ≤ 99999) :
  (∃ s, s158 day = some (s, 0) ∧ s110 day = some (s, true) ∧ okS s ∧ beg s ≤ day ∧ day < nxt s) ∨ ((∃ s, s158 day = some (s, 30)) ∧ ∃ s, s110 day = some (s, false)) := by
 obtain ⟨N, t1, t2, g1, g2, g3, g4⟩ := qsl h0 (by omega);have hN := qcf N
 have hn : (N : Int) ≤ 273 := by omega
 have hl := v7 (2000 + (N : Int));have a3 := qnc N;have a10 := qjs N;have s3 := vm (N3 (2000 + (N : Int)));have s10 := vm (N10 (2000 + (N : Int)));have dn := qcw N;have b3 := qnc (N + 1);have bl := v7 (2000 + ((N + 1 : Nat) : Int));have bs := vm (N3 (2000 + ((N + 1 : Nat) : Int)))
 have ec : 2000 + (N : Int) + 1 = 2000 + ((N + 1 : Nat) : Int) := by omega
 have hE0 : sun (N3 2000) = 85 := rfl;have hE1 := qnc 273;have hEl := v7 (2000 + ((273 : Nat) : Int));have hEs := vm (N3 (2000 + ((273 : Nat) : Int)))
 have h153 : s153 day = 0 := by
  unfold s153 s155 s154;rw [decide_eq_false (by omega : ¬ day < 0), decide_eq_false (by omega : ¬ 99999 < day)]
  rfl
 -- the program
 have p1 : s138 s193 = some (sun (N3 2000)) := qjr (by omega) (by omega);have p2 : s138 (s139 s194) = some (sun (N3 2273)) := qjr (y := 2273) (by omega) (by omega)
 have c273 : (2000 + ((273 : Nat) : Int)) = 2273 := by omega
 rw [c273] at hE1 hEl hEs
 have eP : s158 day = (bif (decide (day < sun (N3 2000))) || (decide (sun (N3 2273) ≤ day)) then some ((S67.mk 0 ByteArray.empty), 30) else bif decide (day < sun (N3 (2000 + (N : Int)))) then some ((S67.mk (2000 + (N : Int) - 1) kW), 0) else bif decide (day < sun (N10 (2000 + (N : Int)))) then some ((S67.mk (2000 + (N : Int)) kS), 0) else some ((S67.mk (2000 + (N : Int)) kW), 0)) := by
  unfold s158;rw [h153, decide_eq_false (by decide : ¬ (0 : Int) ≠ 0), cond_false, p1];simp only [bindO]
  by_cases hA : day < sun (N3 2000)
  ·rw [decide_eq_true hA, Bool.not_true, cond_false];simp only [Bool.true_or, cond_true]
  ·rw [decide_eq_false hA, Bool.not_false, cond_true, p2];simp only [Bool.false_or]
   cases decide (sun (N3 2273) ≤ day)
   ·rw [cond_false, cond_false, g1]
    simp only
    rw [qqk (by omega) (by omega), qna (by omega) (by omega), wrap_i64 (n := 2000 + (N : Int) - 1) ⟨by omega, by omega⟩]
   ·rw [cond_true, cond_true]
 -- the reference
 have eR : s110 day = s110_l1 day (((min 2272 (2000 + (N : Int))) + 1) - (max 2000 (2000 + (N : Int) - 1))).toNat (max 2000 (2000 + (N : Int) - 1)) := by
  unfold s110;rw [g2];simp only [bindO];rw [wrap_i64 (n := 2000 + (N : Int) - 1) ⟨by omega, by omega⟩]
 have l2 : ∀ (r : Int → Option (S67 × Bool)) (y : Int), s110_l2 r day y ((2 : Int) - 0).toNat 0 = s110_l2 r day y 2 0 := fun r y => rfl
 by_cases hA : day < 85
 ·-- before the first season
  right
  refine ⟨⟨_, by rw [eP, decide_eq_true (by omega : day < sun (N3 2000))]; rfl⟩, ?_⟩
  have hN0 : N = 0 := by
   rcases Nat.eq_zero_or_pos N with h | h
   ·exact h
   ·have := qh9 (show 1 ≤ N from h);have : Dy 1 = 366 := rfl
    omega
  subst hN0;rw [eR];show ∃ s, s110_l1 day 1 2000 = some (s, false);rw [s110_l1, l2, wo _ h0 h1 (by omega) (by omega)];have q := vm (N10 2000);have q1 : N10 2000 = 304 := rfl;rw [decide_eq_false (by omega), cond_false, decide_eq_false (by omega), cond_false];exact ⟨_, by rw [s110_l1]⟩
 ·by_cases hB : sun (N3 2273) ≤ day
  ·-- behind the last one
   right
   refine ⟨⟨_, by rw [eP, decide_eq_true hB, Bool.or_true]; rfl⟩, ?_⟩
   have hN0 : N = 273 := by
    by_cases h : N = 273
    ·exact h
    ·have := qh9 (show N + 1 ≤ 273 by omega)
     omega
   subst hN0;rw [eR];show ∃ s, s110_l1 day 1 2272 = some (s, false);rw [s110_l1, l2, wo _ h0 h1 (by omega) (by omega)];have q := vm (N10 2272);have q1 := qjs 272;have q2 := v7 (2000 + ((272 : Nat) : Int));have q3 := qcw 272
   have q4 : (2000 + ((272 : Nat) : Int)) = 2272 := by omega
   have q5 : (272 + 1 : Nat) = 273 := rfl;rw [q4] at q1 q2 q3;rw [q5] at q3
   have q6 : (2272 : Int) + 1 = 2273 := by omega
   rw [q6];rw [decide_eq_false (by omega), cond_false, decide_eq_false (by omega), cond_false];exact ⟨_, by rw [s110_l1]⟩
  ·left
   have eP' : s158 day = (bif decide (day < sun (N3 (2000 + (N : Int)))) then some ((S67.mk (2000 + (N : Int) - 1) kW), 0) else bif decide (day < sun (N10 (2000 + (N : Int)))) then some ((S67.mk (2000 + (N : Int)) kS), 0) else some ((S67.mk (2000 + (N : Int)) kW), 0)) := by
    rw [eP, decide_eq_false (by omega : ¬ day < sun (N3 2000)), decide_eq_false hB]; rfl
   by_cases hC : day < sun (N3 (2000 + (N : Int)))
   ·-- the winter that began the year before
    obtain ⟨M, rfl⟩ : ∃ M, N = M + 1 := by
     cases N with
     | zero => exact absurd hC (by show ¬ day < sun (N3 2000); omega)
     | succ M => exact ⟨M, rfl⟩
    have m10 := qjs M;have m3 := qnc M;have ml := v7 (2000 + (M : Int));have ms := vm (N10 (2000 + (M : Int)));have md := qcw M
    have e9 : 2000 + ((M + 1 : Nat) : Int) - 1 = 2000 + (M : Int) := by omega
    have e10 : 2000 + (M : Int) + 1 = 2000 + ((M + 1 : Nat) : Int) := by omega
    rw [e9] at eP' eR;refine ⟨⟨2000 + (M : Int), kW⟩, by rw [eP', decide_eq_true hC]; rfl, ?_, ⟨by show 2000 ≤ 2000 + (M : Int); omega, by show 2000 + (M : Int) ≤ 2272; omega, .inr rfl⟩, ?_, ?_⟩
    ·have e11 : max 2000 (2000 + (M : Int)) = 2000 + (M : Int) := by omega
     rw [eR, e11];obtain ⟨k, hk⟩ : ∃ k, ((min 2272 (2000 + ((M + 1 : Nat) : Int))) + 1 - (2000 + (M : Int))).toNat = k + 1 := ⟨((min 2272 (2000 + ((M + 1 : Nat) : Int))) + 1 - (2000 + (M : Int))).toNat - 1, by omega⟩;rw [hk, s110_l1, l2, wo _ h0 h1 (by omega) (by omega), e10];rw [decide_eq_false (by omega), cond_false, decide_eq_true (by omega), cond_true]
    ·show (if kW = kS then _ else sun (N10 (2000 + (M : Int)))) ≤ day;rw [if_neg kSW]; omega
    ·show day < (if kW = kS then _ else sun (N3 (2000 + (M : Int) + 1)));rw [if_neg kSW, e10]; exact hC
   ·have hN2 : (N : Int) ≤ 272 := by
     by_cases h : N = 273
     ·subst h;rw [c273] at hC
      omega
     ·omega
    -- the year before has no season with this day
    have step : s110 day = s110_l2 (fun z0_ => s110_l1 day 0 z0_) day (2000 + (N : Int)) 2 0 := by
     rw [eR]
     cases N with
     | zero => rfl
     | succ M =>
      have m10 := qjs M;have m3 := qnc M;have ml := v7 (2000 + (M : Int));have ms := vm (N10 (2000 + (M : Int)));have md := qcw M
      have e9 : 2000 + ((M + 1 : Nat) : Int) - 1 = 2000 + (M : Int) := by omega
      have e10 : 2000 + (M : Int) + 1 = 2000 + ((M + 1 : Nat) : Int) := by omega
      have e11 : max 2000 (2000 + ((M + 1 : Nat) : Int) - 1) = 2000 + (M : Int) := by omega
      have e12 : (min 2272 (2000 + ((M + 1 : Nat) : Int)) + 1 - (2000 + (M : Int))).toNat = 2 := by omega
      rw [e11, e12, s110_l1, l2, wo _ h0 h1 (by omega) (by omega), e10];rw [decide_eq_false (by omega), cond_false, decide_eq_false (by omega), cond_false, s110_l1, l2]
    rw [wo _ h0 h1 (by omega) (by omega), ec] at step
    by_cases hD : day < sun (N10 (2000 + (N : Int)))
    ·refine ⟨⟨2000 + (N : Int), kS⟩, by rw [eP', decide_eq_false hC, cond_false, decide_eq_true hD]; rfl, ?_, ⟨by show 2000 ≤ 2000 + (N : Int); omega, by show 2000 + (N : Int) ≤ 2272; omega, .inl rfl⟩, ?_, ?_⟩
     ·rw [step, decide_eq_true (by omega), cond_true]
     ·show (if kS = kS then sun (N3 (2000 + (N : Int))) else _) ≤ day;rw [if_pos rfl]; omega
     ·show day < (if kS = kS then sun (N10 (2000 + (N : Int))) else _);rw [if_pos rfl]; omega
    ·refine ⟨⟨2000 + (N : Int), kW⟩, by rw [eP', decide_eq_false hC, cond_false, decide_eq_false hD]; rfl, ?_, ⟨by show 2000 ≤ 2000 + (N : Int); omega, by show 2000 + (N : Int) ≤ 2272; omega, .inr rfl⟩, ?_, ?_⟩
     ·rw [step, decide_eq_false (by omega), cond_false, decide_eq_true (by omega), cond_true]
     ·show (if kW = kS then _ else sun (N10 (2000 + (N : Int)))) ≤ day;rw [if_neg kSW]; omega
     ·show day < (if kW = kS then _ else sun (N3 (2000 + (N : Int) + 1)));rw [if_neg kSW, ec]; omega
theorem qia {s : S67} (h : okS s) : s138 s = some (beg s) := by
 obtain ⟨y, k⟩ := s;obtain ⟨h1, h2, h3⟩ := h;have h1 : 2000 ≤ y := h1;have h2 : y ≤ 2272 := h2
 rcases h3 with h3 | h3
 ·have h3 : k = kS := h3;subst h3;rw [qjr h1 (by omega)];unfold beg; rw [if_pos rfl]
 ·have h3 : k = kW := h3;subst h3;rw [qql h1 (by omega)];unfold beg; rw [if_neg kSW]
theorem qne {s : S67} (h : okS s) : s138 (s139 s) = some (nxt s) := by
 obtain ⟨y, k⟩ := s;obtain ⟨h1, h2, h3⟩ := h;have h1 : 2000 ≤ y := h1;have h2 : y ≤ 2272 := h2
 rcases h3 with h3 | h3
 ·have h3 : k = kS := h3;subst h3
  have e : s139 ⟨y, kS⟩ = ⟨y, kW⟩ := by unfold s139; rw [decide_eq_true rfl, cond_true]
  rw [e, qql h1 (by omega)];unfold nxt; rw [if_pos rfl]
 ·have h3 : k = kW := h3;subst h3
  have e : s139 ⟨y, kW⟩ = ⟨y + 1, kS⟩ := by unfold s139; rw [decide_eq_false kSW, cond_false, wrap_i64 ⟨by show _ ≤ y + 1; omega, by show y + 1 ≤ _; omega⟩]
  rw [e, qjr (by omega) (by omega)];unfold nxt; rw [if_neg kSW]
theorem qnf {s : S67} (h : okS s) : s111 s = some ⟨beg s, nxt s - 1, 127⟩ := by
 obtain ⟨y, k⟩ := s;obtain ⟨h1, h2, h3⟩ := h;have h1 : 2000 ≤ y := h1;have h2 : y ≤ 2272 := h2
 rcases h3 with h3 | h3
 ·have h3 : k = kS := h3;subst h3;rw [qqm h1 (by omega)];unfold beg nxt; rw [if_pos rfl, if_pos rfl]
 ·have h3 : k = kW := h3;subst h3;rw [qqn h1 (by omega)];unfold beg nxt; rw [if_neg kSW, if_neg kSW]
theorem xz {s : S67} (h : okS s) : 0 ≤ beg s ∧ beg s ≤ 1000000 ∧ 0 ≤ nxt s ∧ nxt s ≤ 99999 := by
 obtain ⟨y, k⟩ := s;obtain ⟨h1, h2, _⟩ := h;have h1 : 2000 ≤ y := h1;have h2 : y ≤ 2272 := h2;have a := qf7 h1 (by omega);have b := qf7 (y := y + 1) (by omega) (by omega);have c1 := vm (N3 y);have c2 := vm (N10 y);have c3 := vm (N3 (y + 1))
 have e0 : (y + 1 - 2000).toNat = (y - 2000).toNat + 1 := by omega
 have d0 := qcf (y - 2000).toNat;have d1 := qcw (y - 2000).toNat;have d2 := qh9 (show (y - 2000).toNat + 1 ≤ 273 by omega)
 have d3 : Dy 273 = 99712 := by decide +kernel
 have l0 := v7 (2000 + ((y - 2000).toNat : Int));have l1 := v7 y;have l2 := v7 (y + 1);have e1 : N10 y = 303 + lp y + Dy (y - 2000).toNat := rfl;have e2 : N3 (y + 1) = 89 + lp (y + 1) + Dy (y + 1 - 2000).toNat := rfl;rw [e0] at e2;unfold beg nxt
 by_cases hk : k = kS
 ·simp only [hk, if_true]
  omega
 ·simp only [hk, if_false]
  omega
def eqv (own s : S67) (d : Int) : Int := beg s + d - beg own
theorem qe3 {s : S67} (h : okS s) : s107 s = 0 := by
 obtain ⟨y, k⟩ := s;obtain ⟨h1, h2, h3⟩ := h;have h1 : 2000 ≤ y := h1;have h2 : y ≤ 2272 := h2;unfold s107 s155 s154;rw [decide_eq_false (by show ¬ y < 2000; omega), decide_eq_false (by show ¬ 2272 < y; omega)]
 rcases h3 with h3 | h3
 ·have h3 : k = kS := h3;subst h3
  rfl
 ·have h3 : k = kW := h3;subst h3
  rfl
theorem qpf {own s : S67} {d : Int} (hs : okS s) (ho : okS own) (h : s158 d = some (own, 0)) (hk : own.Kind = s.Kind) (hd : 0 ≤ d ∧ d ≤ 99999) : s159 d s = some (bif decide (nxt s ≤ eqv own s d) then (0, 7) else (eqv own s d, 0)) := by
 have a := xz hs;have b := xz ho;unfold s159;rw [h];simp only [bindO];rw [qe3 hs, qia hs, qia ho, qne hs, decide_eq_true hk];have e : s152 [0, 0, s154 (!true) 13] = 0 := rfl;rw [e, decide_eq_false (by decide), cond_false]
 simp only
 rw [wrap_i64 (n := beg s + d) ⟨by omega, by omega⟩, wrap_i64 (n := beg s + d - beg own) ⟨by omega, by omega⟩];show (bif decide (nxt s ≤ eqv own s d) then some (0, 7) else some (eqv own s d, 0)) = _
 cases decide (nxt s ≤ eqv own s d) <;> rfl
open Go.Proofs
def eqvL (own s : S67) (l : List Int) : List Int := (l.map (eqv own s)).filter (fun v => decide (v < nxt s))
theorem quy {own s : S67} (hs : okS s) (ho : okS own) (hk : own.Kind = s.Kind) : ∀ (l : List Int) (k k' : Nat) (x : List Int), (∀ d ∈ l, s158 d = some (own, 0) ∧ 0 ≤ d ∧ d ≤ 99999) →
  s108_l2 s l k x = (bindO (s160 (x ++ eqvL own s l)) fun r => some (r.1, r.2)) ∧ s42_l2 s own.Year own.Kind l k' x = (bindO (s112 (x ++ eqvL own s l)) fun r => some (r, 0))
 | [], k, k', x, _ => by
  rw [s108_l2, s42_l2]
  simp [eqvL]
 | d :: l, k, k', x, h => by
  obtain ⟨h1, h2, h3⟩ := h d List.mem_cons_self;have a := xz hs;have b := xz ho;have ih := fun k k' x => quy hs ho hk l k k' x fun z hz => h z (List.mem_cons_of_mem _ hz);rw [s108_l2, s42_l2, qpf hs ho h1 hk ⟨h2, h3⟩, qnf (s := S67.mk own.Year own.Kind) ho, qnf hs];simp only [bindO];rw [wrap_i64 (n := d - beg (S67.mk own.Year own.Kind)) ⟨by show _ ≤ d - beg own; omega, by show d - beg own ≤ _; omega⟩];rw [wrap_i64 (n := d - beg (S67.mk own.Year own.Kind) + beg s) ⟨by show _ ≤ d - beg own + beg s; omega, by show d - beg own + beg s ≤ _; omega⟩]
  have e : d - beg (S67.mk own.Year own.Kind) + beg s = eqv own s d := by show d - beg own + beg s = beg s + d - beg own; omega
  rw [e]
  by_cases hc : nxt s ≤ eqv own s d
  ·have e2 : eqvL own s (d :: l) = eqvL own s l := by
    unfold eqvL;rw [List.map_cons, List.filter_cons, if_neg (by simp; omega)]
   rw [decide_eq_true hc, cond_true, e2];rw [decide_eq_false (by show ¬ (7 : Int) = 0; decide), cond_false, decide_eq_false (by omega), cond_false];exact ih (k + 1) (k' + 1) x
  ·have e2 : x ++ eqvL own s (d :: l) = (x ++ [eqv own s d]) ++ eqvL own s l := by
    unfold eqvL;rw [List.map_cons, List.filter_cons, if_pos (by simp; omega)]
    simp
   rw [decide_eq_false hc, cond_false, e2];rw [decide_eq_true (by show (0 : Int) = 0; rfl), cond_true, decide_eq_true (by omega), cond_true];exact ih (k + 1) (k' + 1) _
theorem xf (m : Int) : ∀ (n : Nat) (d : Int), (dayL m n d).Pairwise (· < ·)
 | 0, d => by simp [dayL]
 | n + 1, d => by
  rw [dayL]
  split
  ·refine List.pairwise_cons.2 ⟨fun z hz => ?_, xf m n (d + 1)⟩;have := w5 m n (d + 1) z hz
   omega
  ·exact xf m n (d + 1)
def JoinOk : Prop := ∀ l : List Int, l.Pairwise (· < ·) → (∀ d ∈ l, 0 ≤ d ∧ d ≤ 99999) → l.length ≤ 401 → ∃ R, s160 l = some (R, 0) ∧ s112 l = some R
def s103 (a0 a1 : ByteArray) (p : S45) (m : Int) : List S151 := slotsL a0 a1 (momL m (dayL p.Days (p.fTo + 1 - p.fFrom).toNat p.fFrom))
theorem qwi {g : List (Nat × List Value)} (a0 a1 : ByteArray) (p : S45) (m : Int) (hp : s102 p = 0) (hm0 : 0 ≤ m) (hm1 : m ≤ 1000000) : Con (EG g) 103 [G.str a0, G.str a1, G.agg [G.int p.fFrom, G.int p.fTo, G.int p.Days], G.int m] (G.sl 3 (List.map S151.c (s103 a0 a1 p m))) := by
 intro w M vs hM hgl hv;refine (c103X a0 a1 p m hp hm0 hm1 w M vs hM hgl hv).mono ?_;rintro e w' ⟨v, h1, h2, h3⟩;exact ⟨v, h1, h2, qp2 h3⟩
def dayP (p : S45) : List Int := dayL p.Days (p.fTo + 1 - p.fFrom).toNat p.fFrom
theorem quz (a0 a1 : ByteArray) (p : S45) (m : Int) : (s103 a0 a1 p m).length = (dayP p).length := by simp [s103, slotsL, momL, dayP]
theorem qwj (a0 a1 : ByteArray) (p : S45) (m : Int) : UpS (s103 a0 a1 p m) := by
 unfold UpS s103 slotsL momL;rw [List.pairwise_map, List.pairwise_map]
 exact (xf _ _ _).imp fun h => by show 1440 * _ + m ≤ 1440 * _ + m; omega
theorem qwk {a0 a1 : ByteArray} {p : S45} {m : Int} (h : (dayP p).length ≤ 100) : (s103 a0 a1 p m).length ≤ 1000 := by rw [quz]; omega
structure RqOk (q : S115) : Prop where
 per : s102 q.Period = 0
 m0 : 0 ≤ q.Minute
 m1 : q.Minute ≤ 1439
 len : (dayP q.Period).length ≤ 100
end Go.Sim
set_option maxRecDepth 10000
namespace Go.Sim
open Go.Proofs
noncomputable def s5 (a0 : S23) (a1 : S55) : Bool :=
 (bif (!s16) || (!(s17 (s18 a0))) then s16 else (bif decide ((s35 [(s24 (s18 a0)), (s36 a1)]) ≠ 0) then (((!((s33 a0 a1).1)) && (decide ((s33 a0 a1).2 = (s35 [(s24 (s18 a0)), (s36 a1)])))) && (decide ((s34 a0 a1).1 = 0))) && (decide ((s34 a0 a1).2 = (s35 [(s24 (s18 a0)), (s36 a1)]))) else ((decide (IntKind.i64.wrap (((s33 a0 a1).2) + ((s34 a0 a1).2)) = 0)) && (((s33 a0 a1).1) == (s37 (s18 a0) a1))) && (decide ((s34 a0 a1).1 = (s38 (s18 a0) a1)))))
end Go.Sim
set_option maxRecDepth 10000
namespace Go.Sim
open Go.Proofs
def s64_j1 (rec1 : Nat → (List S131) → Option ((List S131) × Int)) (k3 : Nat) (x6 : List S131) : Option ((List S131) × Int) :=
 rec1 (k3 + 1) x6
def s64_l2 (rec1 : Nat → (List S131) → Option ((List S131) × Int)) (a0 : S23) (a3 : S67) (x1 : List S131) (k3 : Nat) (y4 : S115) : List Int → Nat → Int → Int → Option ((List S131) × Int)
 | [], k11, x9, x10 => (bif !(s106 a0 (S55.mk x9 x10)) then s64_j1 rec1 k3 x1 else bindO (s108 (S45.mk y4.Period.fFrom y4.Period.fTo y4.Period.Days) a3) fun r14 => (bif decide (r14.2 ≠ 0) then some ([], r14.2) else s64_j1 rec1 k3 (x1 ++ [(S131.mk y4.Name r14.1)])))
 | y12 :: t13, k11, x9, x10 => s64_l2 rec1 a0 a3 x1 k3 y4 t13 (k11 + 1) ((s126 (S55.mk x9 x10) y12).Flown) ((s126 (S55.mk x9 x10) y12).Due)
def s64_l1 (a0 : S23) (a2 : List S104) (a3 : S67) : List S115 → Nat → (List S131) → Option ((List S131) × Int)
 | [], k3, x1 => some (x1, 0)
 | y4 :: t5, k3, x1 => bindO (s124 a0 (s103 y4.Name y4.Kind (S45.mk y4.Period.fFrom y4.Period.fTo y4.Period.Days) y4.Minute) a2) fun r7 => s64_l2 (fun k_ z0_ => s64_l1 a0 a2 a3 t5 k_ z0_) a0 a3 x1 k3 y4 r7 0 0 0
def s64 (a0 : S23) (a1 : List S115) (a2 : List S104) (a3 : S67) : Option ((List S131) × Int) :=
 (bif decide ((s84 [(s23 a0), (s134 a1), (s27 a2), (s107 a3)]) ≠ 0) then some ([], (s84 [(s23 a0), (s134 a1), (s27 a2), (s107 a3)])) else s64_l1 a0 a2 a3 a1 0 [])
end Go.Sim
set_option maxRecDepth 10000
namespace Go.Sim
open Go.Proofs
theorem qu0 (a0 : List S104) {R : List S151}  (hb0 : a0.length ≤ 63) (hF : FlyUp a0) (hR : s121 a0 = some R) : ConN (EG glT) 121 [G.sl 8 (List.map S104.c a0)] 152 3 (List.map S151.c R) := by
 unfold s121 at hR;refine vk Tryz.func121 rfl rfl fun w0 M0 => ?_;refine zp (f := S104.c) (l := a0) 0 rfl fun hla0 => ?_;have hq1 := qqb a0 s172;have hq2 := qqa (s171 a0 s172) s173;refine qb (qa [.w] (sw (jq 2 152 3 rfl rfl rfl) rfl (qc (qb (qa [.p, .p, .w, .p] (sm rfl rfl ?_))))));refine su (qf rfl K171 rfl (qvz a0 s172 qbq K172 (fun x0 => c172 x0) iA) (qd rfl (qd rfl qk))) rfl (sw (qkr (f0 := S151.c) (l := s170 (s171 a0 s172) s173) 6 rfl K170 rfl (qtu (s171 a0 s172) s173 qbq K173 (fun x0 => c173 x0) iA) (qd rfl (qd rfl qk)) rfl) rfl (su (zh rfl rfl) rfl (qc (qb ?_))));obtain ⟨r1, br1, hR⟩ := qj hR;refine qa [.p, .w] (su (qn rfl rfl) rfl (sw (z8 0 6 rfl K174 rfl (qvx (s170 (s171 a0 s172) s173) (fun x0_ x1_ => some (s175 x0_ x1_)) rfl qbq K175 (fun x0_ x1_ r_ h_ => Option.some.inj h_ ▸ (fun x0 x1 => c175 x0 x1) x0_ x1_) (by omega) hF br1) (qq rfl rfl (qq rfl rfl j5)) rfl rfl rfl) rfl (qc (qb (qa [.p, .p] (su (qn rfl rfl) rfl ?_))))));refine su (zh rfl rfl) rfl (qc (qo ?_));obtain rfl := Option.some.inj hR;exact v5 rfl rfl rfl ((List.length_map ..).trans ((qp9 br1).trans rfl))
theorem qwl (a0 : List S104) {R : List S151}  (hb0 : a0.length ≤ 63) (hF : FlyUp a0) (hR : s121 a0 = some R) : Con (EG glT) 121 [G.sl 8 (List.map S104.c a0)] (G.sl 3 (List.map S151.c R)) :=
 ConN.con (by decide) (qu0 a0 hb0 hF hR)
theorem qu1 (a0 : S23) (a1 : List S151) (a2 : List S104) {R : List Int}  (hb1 : a1.length ≤ 1000) (hb2 : a2.length ≤ 63) (hs1 : SortOk a1) (hF : FlyUp a2) (hR : s124 a0 a1 a2 = some R) : ConN (EG glT) 124 [G.agg [G.int a0.Before, G.int a0.After, G.int a0.Notice, G.int a0.Share, G.sl 1 (List.map cStr a0.Causes), G.int a0.Off, G.int a0.Run], G.sl 3 (List.map S151.c a1), G.sl 8 (List.map S104.c a2)] 3 1 (List.map cInt R) := by
 unfold s124 at hR;refine vk Tryz.func124 rfl rfl fun w0 M0 => ?_;refine zp (f := S151.c) (l := a1) 1 rfl fun hla1 => ?_;refine zp (f := S104.c) (l := a2) 2 rfl fun hla2 => ?_;refine qb (qa [.p, .w] (su (zo rfl rfl) rfl (sw (jq 6 3 1 rfl rfl rfl) rfl (qc (qb (qa [.p, .p, .w, .p] ?_))))));refine sm rfl rfl (su (qz (f := S151.c) (l := a1) rfl Tryz.underlying25 rfl) rfl (sw (qcb (f := cInt) (z := 0) 16 rfl mk82 rfl rfl rfl (by first | exact Int.le_refl _ | omega) (by first | decide | omega) rfl rfl rfl) rfl (su (zh rfl rfl) rfl (qc (qb (qa [.w] ?_))))));refine sw (jq 8 152 3 rfl rfl rfl) rfl (qc (qb (qa [.w] (sw (jq 9 3 1 rfl rfl rfl) rfl (qc (qb ?_))))));refine qb (qa [.p, .p, .p] (sm rfl rfl (su (qz (f := S151.c) (l := a1) rfl Tryz.underlying25 rfl) rfl (sm rfl rfl (qc (ql ?_))))));refine qu (γ := Nat × (List S151) × (List S151) × (List Int) × (List Int)) (fun g => ([(2, .g (G.sl 8 (List.map S104.c a2))), (3, .g (G.ref [G.int a0.Before, G.int a0.After, G.int a0.Notice, G.int a0.Share, G.sl 1 (List.map cStr a0.Causes), G.int a0.Off, G.int a0.Run])), (7, .osl 16 1 0 (List.length a1)), (8, .osl 8 3 0 (List.length g.2.2.1)), (9, .osl 9 1 0 (List.length g.2.2.2.1)), (17, .g (G.sl 3 (List.map S151.c a1))), (18, .g (G.int (List.length a1 : Int))), (19, .g (G.int ((g.1 : Nat) : Int)))], [(8, .arr 152 3 (List.map S151.c g.2.2.1)), (9, .arr 3 1 (List.map cInt g.2.2.2.1)), (16, .arr 3 1 (List.map cInt g.2.2.2.2))])) (fun g => g.2.2.1.length ≤ g.1 ∧ g.2.2.2.1.length ≤ g.1 ∧ g.1 ≤ a1.length ∧ g.2.2.1.Sublist (List.take g.1 a1) ∧ List.length g.2.2.2.2 = List.length a1 ∧ a1.drop g.1 = g.2.1 ∧ s124_l1 a0 a2 g.2.1 g.1 g.2.2.1 g.2.2.2.1 g.2.2.2.2 = some R) (fun g => List.length g.2.1) ⟨rfl, (0, a1, [], [], List.replicate (List.length a1) 0), ⟨rfl, rfl, rfl, rfl, rfl, rfl, rfl, rfl, trivial⟩, ⟨rfl, rfl, rfl, trivial⟩, rfl, ⟨iH, iH, iH, (List.nil_sublist _), List.length_replicate, rfl, hR⟩, trivial⟩ ?_
 ·rintro ⟨k6, t8, x1, x2, x4⟩ ⟨iv1_0, iv1_1, iv1_2, iv1_3, ln5, hd, hR⟩;replace hd : a1.drop k6 = t8 := hd;replace hR : s124_l1 a0 a2 t8 k6 x1 x2 x4 = some R := hR;replace iv1_0 : x1.length ≤ k6 := iv1_0;replace iv1_1 : x2.length ≤ k6 := iv1_1;replace iv1_2 : k6 ≤ a1.length := iv1_2;replace iv1_3 : x1.Sublist (List.take k6 a1) := iv1_3;replace ln5 : List.length x4 = List.length a1 := ln5;refine qb (qa [.p] (su (qy rfl rfl rfl) rfl (qc (zp (f := S151.c) (l := a1) 17 rfl fun hlz1 => ?_))));refine qb (qi _ rfl (fun h1 => ?_) (fun h1 => ?_))
  ·replace h1 : (decide (((k6 : Nat) : Int) < (List.length a1 : Int))) = true := h1;obtain ⟨y7, t8, rfl, hx1, hd⟩ := zm hd (decT h1);replace h1 := decT h1;rw [s124_l1] at hR;(try dsimp only at hR);refine qm (j6 (γ := (List S151) × (List Int) × (List Int)) (fun g => ([(2, .g (G.sl 8 (List.map S104.c a2))), (3, .g (G.ref [G.int a0.Before, G.int a0.After, G.int a0.Notice, G.int a0.Share, G.sl 1 (List.map cStr a0.Causes), G.int a0.Off, G.int a0.Run])), (7, .osl 16 1 0 (List.length a1)), (8, .osl 8 3 0 (List.length g.1)), (9, .osl 9 1 0 (List.length g.2.1)), (17, .g (G.sl 3 (List.map S151.c a1))), (18, .g (G.int (List.length a1 : Int))), (19, .g (G.int ((k6 : Nat) : Int)))], [(8, .arr 152 3 (List.map S151.c g.1)), (9, .arr 3 1 (List.map cInt g.2.1)), (16, .arr 3 1 (List.map cInt g.2.2))])) (fun g => g.1.length ≤ k6 + 1 ∧ g.2.1.length ≤ k6 + 1 ∧ g.1.Sublist (List.take (k6 + 1) a1) ∧ List.length g.2.2 = List.length a1 ∧ s124_j1 (fun k_ z0_ z1_ z2_ => s124_l1 a0 a2 t8 k_ z0_ z1_ z2_) k6 g.1 g.2.1 g.2.2 = some R) ?_ ?_)
   ·refine ql (qb (qa [.p, .p, .p, .w, .p, .w] (sm rfl rfl (su (zu (f := S151.c) (l := a1) (a := y7) rfl Tryz.underlying25 km rfl rfl (Int.natCast_nonneg _) hx1) rfl (su (qv rfl km rfl rfl rfl) rfl (sw (zn 11 rfl z152 rfl rfl) rfl ?_))))));refine sa rfl rfl (js rfl rfl (zb (tv := .g (G.agg [G.str y7.Name, G.int y7.Moment, G.str y7.Kind])) rfl km rfl rfl rfl rfl rfl) (qc (j6 (γ := (List Int)) (fun g => ([(2, .g (G.sl 8 (List.map S104.c a2))), (3, .g (G.ref [G.int a0.Before, G.int a0.After, G.int a0.Notice, G.int a0.Share, G.sl 1 (List.map cStr a0.Causes), G.int a0.Off, G.int a0.Run])), (7, .osl 16 1 0 (List.length a1)), (8, .osl 8 3 0 (List.length x1)), (9, .osl 9 1 0 (List.length x2)), (10, .g (G.int ((k6 : Nat) : Int))), (11, .ptr 11 0), (17, .g (G.sl 3 (List.map S151.c a1))), (18, .g (G.int (List.length a1 : Int))), (19, .g (G.int ((k6 : Nat) : Int)))], [(8, .arr 152 3 (List.map S151.c x1)), (9, .arr 3 1 (List.map cInt x2)), (11, .box [.g (G.str y7.Name), .g (G.int y7.Moment), .g (G.str y7.Kind)]), (16, .arr 3 1 (List.map cInt g))])) (fun g => List.length g = List.length a1 ∧ s124_j2 (fun k_ z0_ z1_ z2_ => s124_l1 a0 a2 t8 k_ z0_ z1_ z2_) x1 x2 k6 y7 g = some R) ?_ ?_)))
    ·refine ql (qb (qa [.p, .r, .p, .p, .p] (su (qv rfl ty24 rfl rfl rfl) rfl (sr (z2 rfl km rfl rfl rfl rfl) rfl (sm rfl rfl (su (qf rfl K177 rfl (c177 a0 y7 a2) (qd rfl (qd rfl (qd rfl qk)))) rfl ?_))))));refine sa rfl rfl (qc (qi _ rfl (fun h5 => ?_) (fun h5 => ?_)))
     ·replace h5 : ((s177 a0 y7 a2)) = true := h5;replace hR := zl hR h5;(try simp only [bB] at h5);refine qb ?_;obtain ⟨y25, by25, hR⟩ := qj hR;refine qa [.p, .p, .p, .w] (su (qn rfl rfl) rfl (sm rfl rfl (su (ji rfl Tryz.underlying82 ty3 rfl rfl (zq by25) (Nat.lt_of_lt_of_eq (jj (qt by25)) ln5)) rfl (js rfl rfl (xd (f := cInt) (l := x4) (a' := 0) rfl ty3 rfl rfl rfl (Nat.lt_of_lt_of_eq (Nat.lt_of_lt_of_eq (jj (qt by25)) ln5) (Eq.symm ln5)) rfl (fun _ => rfl)) (qc (zc ?_))))));exact ⟨rfl, (x1, x2, List.set x4 (Int.toNat ((k6 : Nat) : Int)) 0), ⟨rfl, rfl, rfl, rfl, rfl, rfl, rfl, rfl, trivial⟩, ⟨rfl, rfl, rfl, trivial⟩, rfl, ⟨iC, iC, (by first | exact qi0 iv1_3 | exact qi1 iv1_3 hx1), ((List.length_set ..).trans ln5), hR⟩, trivial⟩
     ·replace h5 : ((s177 a0 y7 a2)) = false := h5;replace hR := zt hR h5;(try simp only [bB] at h5);refine qb (qa [.p, .r, .p, .p, .p] (su (qv rfl ty24 rfl rfl rfl) rfl (sr (z2 rfl km rfl rfl rfl rfl) rfl (sm rfl rfl (su (qf rfl K178 rfl (c178 a0 y7 a2) (qd rfl (qd rfl (qd rfl qk)))) rfl (sa rfl rfl ?_))))));refine qc (qi _ rfl (fun h6 => ?_) (fun h6 => ?_))
      ·replace hR := zl hR h6;obtain ⟨y26, by26, hR⟩ := qj hR;refine qa [.p, .p, .p, .w] (su (qn rfl rfl) rfl (sm rfl rfl (su (ji rfl Tryz.underlying82 ty3 rfl rfl (zq by26) (Nat.lt_of_lt_of_eq (jj (qt by26)) ln5)) rfl (js rfl rfl (xd (f := cInt) (l := x4) (a' := 2) rfl ty3 rfl rfl rfl (Nat.lt_of_lt_of_eq (Nat.lt_of_lt_of_eq (jj (qt by26)) ln5) (Eq.symm ln5)) rfl (fun _ => rfl)) (qc ?_)))));exact ⟨rfl, List.set x4 (Int.toNat ((k6 : Nat) : Int)) 2, ⟨rfl, rfl, rfl, rfl, rfl, rfl, rfl, rfl, rfl, rfl, trivial⟩, ⟨rfl, rfl, rfl, rfl, trivial⟩, rfl, ⟨((List.length_set ..).trans ln5), hR⟩, trivial⟩
      ·replace hR := zt hR h6;obtain ⟨y27, by27, hR⟩ := qj hR;refine qa [.p, .p, .p, .w] (su (qn rfl rfl) rfl (sm rfl rfl (su (ji rfl Tryz.underlying82 ty3 rfl rfl (zq by27) (Nat.lt_of_lt_of_eq (jj (qt by27)) ln5)) rfl (js rfl rfl (xd (f := cInt) (l := x4) (a' := 3) rfl ty3 rfl rfl rfl (Nat.lt_of_lt_of_eq (Nat.lt_of_lt_of_eq (jj (qt by27)) ln5) (Eq.symm ln5)) rfl (fun _ => rfl)) (qc ?_)))));exact ⟨rfl, List.set x4 (Int.toNat ((k6 : Nat) : Int)) 3, ⟨rfl, rfl, rfl, rfl, rfl, rfl, rfl, rfl, rfl, rfl, trivial⟩, ⟨rfl, rfl, rfl, rfl, trivial⟩, rfl, ⟨((List.length_set ..).trans ln5), hR⟩, trivial⟩
    ·rintro x23 ⟨ln24, hR⟩;replace ln24 : List.length x23 = List.length a1 := ln24;replace hR : s124_j2 (fun k_ z0_ z1_ z2_ => s124_l1 a0 a2 t8 k_ z0_ z1_ z2_) x1 x2 k6 y7 x23 = some R := hR;unfold s124_j2 at hR;refine qa [.p, .r, .p, .k, .p, .p, .p, .k, .p, .p] (su (qn rfl rfl) rfl (sr (z2 rfl km rfl rfl rfl rfl) rfl (su (qw rfl Tryz.underlying25 km z152 rfl (za rfl jz) rfl (by simp [S151.c]) (by decide)) rfl (st_k rfl rfl (ku (f := S151.c) (out := x1) (new := [y7]) rfl qtv rfl rfl (wg rfl (wi (by decide) (by simp [S151.c]))) (qb2 rfl) (by simp; omega)) rfl (su (qn rfl rfl) rfl (sm rfl rfl ?_))))));refine su (qw rfl Tryz.underlying82 ty3 z3 rfl (za rfl jz) rfl (by simp []) (by decide)) rfl (st_k rfl rfl (ku (f := cInt) (out := x2) (new := [((k6 : Nat) : Int)]) rfl qrh rfl rfl (wg rfl (wi (by decide) (by simp []))) (qb2 rfl) (by simp; omega)) rfl (su (zh rfl rfl) rfl (su (zh rfl rfl) rfl (qc ?_))));exact ⟨rfl, (x1 ++ [y7], x2 ++ [((k6 : Nat) : Int)], x23), ⟨rfl, rfl, rfl, rfl, rfl, rfl, rfl, rfl, trivial⟩, ⟨rfl, rfl, rfl, trivial⟩, rfl, ⟨iC, iC, (by first | exact qi0 iv1_3 | exact qi1 iv1_3 hx1), ln24, hR⟩, trivial⟩
   ·rintro ⟨x19, x20, x21⟩ ⟨jv2_0, jv2_1, jv2_2, ln22, hR⟩;replace jv2_0 : x19.length ≤ k6 + 1 := jv2_0;replace jv2_1 : x20.length ≤ k6 + 1 := jv2_1;replace jv2_2 : x19.Sublist (List.take (k6 + 1) a1) := jv2_2;replace ln22 : List.length x21 = List.length a1 := ln22;replace hR : s124_j1 (fun k_ z0_ z1_ z2_ => s124_l1 a0 a2 t8 k_ z0_ z1_ z2_) k6 x19 x20 x21 = some R := hR;unfold s124_j1 at hR;refine qa [.p, .p] (su (ze rfl rfl rfl iE) rfl (sm rfl rfl (qc ?_)));exact ⟨rfl, (k6 + 1, t8, x19, x20, x21), ⟨rfl, rfl, rfl, rfl, rfl, rfl, rfl, rfl, trivial⟩, ⟨rfl, rfl, rfl, trivial⟩, rfl, ⟨iB, iB, iB, (by assumption), ln22, hd, hR⟩, by simp⟩
  ·replace h1 : (decide (((k6 : Nat) : Int) < (List.length a1 : Int))) = false := h1;obtain rfl := zz hd (decF h1);rw [s124_l1] at hR;refine zc ?_;refine qb (qb ?_);obtain ⟨r9, br9, hR⟩ := qj hR;obtain ⟨r10, br10, hR⟩ := qj hR;have hl9 := quf br9;refine z0 [.p, .p, .p, .p, .r, .p, .p] (by kernel_rfl) (su (qv rfl ty24 rfl rfl rfl) rfl (su (qn rfl rfl) rfl (sm rfl rfl (su (qf rfl K121 rfl (qwl a2 (by omega) hF br9) (qd rfl qk)) rfl (sr (qkt rfl K115 rfl (qtz a0 x1 r9 iA iA (qkg iv1_3 hs1) (qtr br9) br10) (by decide) (qks fun _ => qd0 (qd0 (qmo))) (qjd rfl (qrz rfl rfl (qjd rfl qry)))) rfl (su (qz (f := S154.c) (l := r10) rfl Tryz.underlying79 rfl) rfl ?_))))));refine sm rfl rfl (qc (ql (qu (γ := Nat × (List S154) × (List Int)) (fun g => ([(7, .osl 16 1 0 (List.length a1)), (9, .osl 9 1 0 (List.length x2)), (56, .g (G.sl 2 (List.map S154.c r10))), (57, .g (G.int (List.length r10 : Int))), (58, .g (G.int ((g.1 : Nat) : Int)))], [(9, .arr 3 1 (List.map cInt x2)), (16, .arr 3 1 (List.map cInt g.2.2))])) (fun g => List.length g.2.2 = List.length a1 ∧ r10.drop g.1 = g.2.1 ∧ s124_l2 x2 g.2.1 g.1 g.2.2 = some R) (fun g => List.length g.2.1) ⟨rfl, (0, r10, x4), ⟨rfl, rfl, rfl, rfl, rfl, trivial⟩, ⟨rfl, rfl, trivial⟩, rfl, ⟨ln5, rfl, hR⟩, trivial⟩ ?_)))
   ·rintro ⟨k14, t16, x12⟩ ⟨ln13, hd, hR⟩;replace hd : r10.drop k14 = t16 := hd;replace hR : s124_l2 x2 t16 k14 x12 = some R := hR;replace ln13 : List.length x12 = List.length a1 := ln13;refine qb (qa [.p] (su (qy rfl rfl rfl) rfl (qc (zp (f := S154.c) (l := r10) 56 rfl fun hlz2 => ?_))));refine qb (qi _ rfl (fun h3 => ?_) (fun h3 => ?_))
    ·replace h3 : (decide (((k14 : Nat) : Int) < (List.length r10 : Int))) = true := h3;obtain ⟨y15, t16, rfl, hx2, hd⟩ := zm hd (decT h3);replace h3 := decT h3;rw [s124_l2] at hR;(try dsimp only at hR);refine qm (qb (ql (qb (qa [.p, .p, .w, .w] (su (zu (f := S154.c) (l := r10) (a := y15) rfl Tryz.underlying79 qoe rfl rfl (Int.natCast_nonneg _) hx2) rfl (su (qv rfl qoe rfl rfl rfl) rfl ?_))))));refine sw (zn 13 rfl z155 rfl rfl) rfl (js rfl rfl (zb (tv := .g (G.agg [G.int y15.Slot, G.int y15.Record])) rfl qoe rfl rfl rfl rfl rfl) (qc ?_));obtain ⟨y17, by17, hR⟩ := qj hR;obtain ⟨y18, by18, hR⟩ := qj hR;refine qa [.p, .p, .p, .r, .p, .r, .p, .w] (su (qn rfl rfl) rfl (su (qn rfl rfl) rfl (su (z4 rfl qsm rfl) rfl (sr (zx rfl ty3 rfl rfl rfl) rfl (su (ji rfl Tryz.underlying82 ty3 rfl rfl (zq by17) (Nat.lt_of_lt_of_eq (jj (qt by17)) rfl)) rfl (sr (vj (f := cInt) (l := x2) (a := y17) rfl ty3 rfl rfl (qt by17) rfl) rfl ?_))))));refine su (ji rfl Tryz.underlying82 ty3 rfl rfl (zq by18) (Nat.lt_of_lt_of_eq (jj (qt by18)) ln13)) rfl (js rfl rfl (xd (f := cInt) (l := x12) (a' := 1) rfl ty3 rfl rfl rfl (Nat.lt_of_lt_of_eq (Nat.lt_of_lt_of_eq (jj (qt by18)) ln13) (Eq.symm ln13)) rfl (fun _ => rfl)) (qc (qa [.p, .p] (su (ze rfl rfl rfl iE) rfl (sm rfl rfl (qc ?_))))));exact ⟨rfl, (k14 + 1, t16, List.set x12 (Int.toNat y17) 1), ⟨rfl, rfl, rfl, rfl, rfl, trivial⟩, ⟨rfl, rfl, trivial⟩, rfl, ⟨((List.length_set ..).trans ln13), hd, hR⟩, by simp⟩
    ·replace h3 : (decide (((k14 : Nat) : Int) < (List.length r10 : Int))) = false := h3;obtain rfl := zz hd (decF h3);rw [s124_l2] at hR;refine zc ?_;refine qb (qa [.p, .p] (su (qn rfl rfl) rfl (su (zh rfl rfl) rfl (qc (qo ?_)))));obtain rfl := Option.some.inj hR;exact v5 rfl rfl rfl ((List.length_map ..).trans ln13)
theorem qwm (a0 : S23) (a1 : List S151) (a2 : List S104) {R : List Int}  (hb1 : a1.length ≤ 1000) (hb2 : a2.length ≤ 63) (hs1 : SortOk a1) (hF : FlyUp a2) (hR : s124 a0 a1 a2 = some R) : Con (EG glT) 124 [G.agg [G.int a0.Before, G.int a0.After, G.int a0.Notice, G.int a0.Share, G.sl 1 (List.map cStr a0.Causes), G.int a0.Off, G.int a0.Run], G.sl 3 (List.map S151.c a1), G.sl 8 (List.map S104.c a2)] (G.sl 1 (List.map cInt R)) :=
 ConN.con (by decide) (qu1 a0 a1 a2 hb1 hb2 hs1 hF hR)
theorem c64V (a0 : S23) (a1 : List S115) (a2 : List S104) (a3 : S67) {R : (List S131) × Int}  (hv : ¬ s84 [s23 a0, s134 a1, s27 a2, s107 a3] ≠ 0 → (∀ q ∈ a1, RqOk q) ∧ a1.length ≤ 64 ∧ a2.length ≤ 63 ∧ FlyUp a2) (hR : s64 a0 a1 a2 a3 = some R) : Con (EG glT) 64 [G.agg [G.int a0.Before, G.int a0.After, G.int a0.Notice, G.int a0.Share, G.sl 1 (List.map cStr a0.Causes), G.int a0.Off, G.int a0.Run], G.sl 13 (List.map S115.c a1), G.sl 8 (List.map S104.c a2), G.agg [G.int a3.Year, G.str a3.Kind]] (G.tup [G.sl 2 (List.map S131.c R.1), G.int R.2]) := by
 unfold s64 at hR;refine qp Tryz.func64 rfl rfl fun w0 M0 => ?_;refine zp (f := S115.c) (l := a1) 1 rfl fun hla1 => ?_;refine zp (f := S104.c) (l := a2) 2 rfl fun hla2 => ?_;refine qb (qa [.p, .p, .p, .p] (su (zo rfl rfl) rfl (su (zo rfl rfl) rfl (sa rfl rfl (sa rfl rfl (qc ?_))))));refine qb (qb (z0 [.p, .p, .p, .p, .p, .p, .p, .p, .p, .p, .p] (by kernel_rfl) (su (qv rfl ty24 rfl rfl rfl) rfl (su (qf rfl K23 rfl (c23 a0) (qd rfl qk)) rfl (sm rfl rfl (su (qf rfl K134 rfl (c134 a1) (qd rfl qk)) rfl ?_))))));refine sm rfl rfl (su (qf rfl K27 rfl (c27 a2) (qd rfl qk)) rfl (su (qv rfl ty68 rfl rfl rfl) rfl (su (qf rfl K107 rfl (c107 a3) (qd rfl qk)) rfl (su (qw rfl Tryz.underlying170 ty37 z37 rfl (za rfl (za rfl (za rfl (za rfl jz)))) rfl (by simp []) (by decide)) rfl (su (qf rfl K84 rfl (c84 [(s23 a0), (s134 a1), (s27 a2), (s107 a3)]) (qd rfl qk)) rfl (sa rfl rfl ?_))))));refine qc (qb (qa [.p, .p] (sm rfl rfl (su (zw rfl rfl rfl) rfl (qc (qi _ rfl (fun h1 => ?_) (fun h1 => ?_)))))))
 ·replace h1 : (decide ((s84 [(s23 a0), (s134 a1), (s27 a2), (s107 a3)]) ≠ 0)) = true := h1;replace hR := zl hR h1;(try simp only [bB] at h1);refine qb (qa [.p, .p, .p] (sm rfl rfl (sa rfl rfl (sa rfl rfl (qc (qo ?_))))));obtain rfl := Option.some.inj hR;exact resN rfl ⟨wj rfl (qcg _), rv_g rfl, trivial⟩ (by simp)
 ·replace h1 : (decide ((s84 [(s23 a0), (s134 a1), (s27 a2), (s107 a3)]) ≠ 0)) = false := h1;replace hR := zt hR h1;(try simp only [bB] at h1);obtain ⟨hq, hl1, hb2, hF⟩ := hv h1;refine qm (qb (qa [.w] (sw (jq 11 132 2 rfl rfl rfl) rfl (qc (qb (qb ?_))))));refine qa [.p, .p, .p] (sm rfl rfl (su (qz (f := S115.c) (l := a1) rfl Tryz.underlying112 rfl) rfl (sm rfl rfl (qc (ql (qu (γ := Nat × (List S115) × (List S131)) (fun g => ([(2, .g (G.sl 8 (List.map S104.c a2))), (4, .g (G.ref [G.int a0.Before, G.int a0.After, G.int a0.Notice, G.int a0.Share, G.sl 1 (List.map cStr a0.Causes), G.int a0.Off, G.int a0.Run])), (7, .g (G.ref [G.int a3.Year, G.str a3.Kind])), (11, .osl 11 2 0 (List.length g.2.2)), (32, .g (G.sl 13 (List.map S115.c a1))), (33, .g (G.int (List.length a1 : Int))), (34, .g (G.int ((g.1 : Nat) : Int)))], [(11, .arr 132 2 (List.map S131.c g.2.2))])) (fun g => g.2.2.length ≤ g.1 ∧ g.1 ≤ a1.length ∧ a1.drop g.1 = g.2.1 ∧ s64_l1 a0 a2 a3 g.2.1 g.1 g.2.2 = some R) (fun g => List.length g.2.1) ⟨rfl, (0, a1, []), ⟨rfl, rfl, rfl, rfl, rfl, rfl, rfl, trivial⟩, ⟨rfl, trivial⟩, rfl, ⟨iH, iH, rfl, hR⟩, trivial⟩ ?_))))))
  ·rintro ⟨k3, t5, x1⟩ ⟨iv1_0, iv1_1, hd, hR⟩;replace hd : a1.drop k3 = t5 := hd;replace hR : s64_l1 a0 a2 a3 t5 k3 x1 = some R := hR;replace iv1_0 : x1.length ≤ k3 := iv1_0;replace iv1_1 : k3 ≤ a1.length := iv1_1;refine qb (qa [.p] (su (qy rfl rfl rfl) rfl (qc (zp (f := S115.c) (l := a1) 32 rfl fun hlz1 => ?_))));refine qb (qi _ rfl (fun h2 => ?_) (fun h2 => ?_))
   ·replace h2 : (decide (((k3 : Nat) : Int) < (List.length a1 : Int))) = true := h2;obtain ⟨y4, t5, rfl, hx1, hd⟩ := zm hd (decT h2);replace h2 := decT h2;rw [s64_l1] at hR;(try dsimp only at hR);refine qm (j6 (γ := (List S131)) (fun g => ([(2, .g (G.sl 8 (List.map S104.c a2))), (4, .g (G.ref [G.int a0.Before, G.int a0.After, G.int a0.Notice, G.int a0.Share, G.sl 1 (List.map cStr a0.Causes), G.int a0.Off, G.int a0.Run])), (7, .g (G.ref [G.int a3.Year, G.str a3.Kind])), (11, .osl 11 2 0 (List.length g)), (32, .g (G.sl 13 (List.map S115.c a1))), (33, .g (G.int (List.length a1 : Int))), (34, .g (G.int ((k3 : Nat) : Int)))], [(11, .arr 132 2 (List.map S131.c g))])) (fun g => g.length ≤ k3 + 1 ∧ s64_j1 (fun k_ z0_ => s64_l1 a0 a2 a3 t5 k_ z0_) k3 g = some R) ?_ ?_)
    ·refine ql (qb (qa [.p, .p, .w, .w] (su (zu (f := S115.c) (l := a1) (a := y4) rfl Tryz.underlying112 qc4 rfl rfl (Int.natCast_nonneg _) hx1) rfl (su (qv rfl qc4 rfl rfl rfl) rfl (sw (zn 13 rfl z116 rfl rfl) rfl (js rfl rfl (zb (tv := .g (G.agg [G.str y4.Name, G.str y4.Carrier, G.str y4.Kind, G.str y4.Terminal, G.str y4.Partner, G.str y4.Link, G.int y4.Period.fFrom, G.int y4.Period.fTo, G.int y4.Period.Days, G.int y4.Minute, G.int y4.Seats, G.int y4.Size, G.int y4.Noise])) rfl qc4 rfl rfl rfl rfl rfl) ?_))))));refine qc (qb (qa [.w] (sw (zn 14 rfl z56 rfl rfl) rfl (qc (qb (qb ?_))))));have hq7 := hq _ (List.mem_of_getElem? hx1);obtain ⟨r7, br7, hR⟩ := qj hR;refine z0 [.p, .p, .r, .p, .r, .p, .r, .p, .r, .p, .p, .p, .p, .p] (by kernel_rfl) (su (qv rfl ty24 rfl rfl rfl) rfl (su (z4 rfl qcd rfl) rfl (sr (zx rfl ty9 rfl rfl rfl) rfl (su (z4 rfl ql3 rfl) rfl (sr (zx rfl ty9 rfl rfl rfl) rfl (su (z4 rfl qht rfl) rfl ?_))))));refine sr (z2 rfl ty46 rfl rfl rfl rfl) rfl (su (z4 rfl ql4 rfl) rfl (sr (zx rfl ty3 rfl rfl rfl) rfl (su (qf rfl K103 rfl (qwi y4.Name y4.Kind (S45.mk y4.Period.fFrom y4.Period.fTo y4.Period.Days) y4.Minute hq7.per hq7.m0 (by have := hq7.m1; omega)) (qd rfl (qd rfl (qd rfl (qd rfl qk))))) rfl (sm rfl rfl (su (qf rfl K124 rfl (qwm a0 (s103 y4.Name y4.Kind (S45.mk y4.Period.fFrom y4.Period.fTo y4.Period.Days) y4.Minute) a2 (qwk hq7.len) (by omega) (.inr (qwj _ _ _ _)) hF br7) (qd rfl (qd rfl (qd rfl qk)))) rfl (su (qz (f := cInt) (l := r7) rfl Tryz.underlying82 rfl) rfl ?_))))));refine sm rfl rfl (qc (ql (qu (γ := Nat × (List Int) × Int × Int) (fun g => ([(2, .g (G.sl 8 (List.map S104.c a2))), (4, .g (G.ref [G.int a0.Before, G.int a0.After, G.int a0.Notice, G.int a0.Share, G.sl 1 (List.map cStr a0.Causes), G.int a0.Off, G.int a0.Run])), (7, .g (G.ref [G.int a3.Year, G.str a3.Kind])), (11, .osl 11 2 0 (List.length x1)), (13, .ptr 13 0), (14, .ptr 14 0), (32, .g (G.sl 13 (List.map S115.c a1))), (33, .g (G.int (List.length a1 : Int))), (34, .g (G.int ((k3 : Nat) : Int))), (49, .g (G.sl 1 (List.map cInt r7))), (50, .g (G.int (List.length r7 : Int))), (51, .g (G.int ((g.1 : Nat) : Int)))], [(11, .arr 132 2 (List.map S131.c x1)), (13, .box [.g (G.str y4.Name), .g (G.str y4.Carrier), .g (G.str y4.Kind), .g (G.str y4.Terminal), .g (G.str y4.Partner), .g (G.str y4.Link), .g (G.int y4.Period.fFrom), .g (G.int y4.Period.fTo), .g (G.int y4.Period.Days), .g (G.int y4.Minute), .g (G.int y4.Seats), .g (G.int y4.Size), .g (G.int y4.Noise)]), (14, .box [.g (G.int g.2.2.1), .g (G.int g.2.2.2)])])) (fun g => r7.drop g.1 = g.2.1 ∧ s64_l2 (fun k_ z0_ => s64_l1 a0 a2 a3 t5 k_ z0_) a0 a3 x1 k3 y4 g.2.1 g.1 g.2.2.1 g.2.2.2 = some R) (fun g => List.length g.2.1) ⟨rfl, (0, r7, 0, 0), ⟨rfl, rfl, rfl, rfl, rfl, rfl, rfl, rfl, rfl, rfl, rfl, rfl, trivial⟩, ⟨rfl, rfl, rfl, trivial⟩, rfl, ⟨rfl, hR⟩, trivial⟩ ?_)))
     ·rintro ⟨k11, t13, x9, x10⟩ ⟨hd2, hR⟩;replace hd2 : r7.drop k11 = t13 := hd2;replace hR : s64_l2 (fun k_ z0_ => s64_l1 a0 a2 a3 t5 k_ z0_) a0 a3 x1 k3 y4 t13 k11 x9 x10 = some R := hR;refine qb (qa [.p] (su (qy rfl rfl rfl) rfl (qc (zp (f := cInt) (l := r7) 49 rfl fun hlz2 => ?_))));refine qb (qi _ rfl (fun h4 => ?_) (fun h4 => ?_))
      ·replace h4 : (decide (((k11 : Nat) : Int) < (List.length r7 : Int))) = true := h4;obtain ⟨y12, t13, rfl, hx2, hd2⟩ := zm hd2 (decT h4);replace h4 := decT h4;rw [s64_l2] at hR;(try dsimp only at hR);refine qm (qb (ql (qb (qa [.p, .p, .p] (su (zu (f := cInt) (l := r7) (a := y12) rfl Tryz.underlying82 ty3 rfl rfl (Int.natCast_nonneg _) hx2) rfl (su (qg rfl ty3 rfl) rfl ?_))))));refine sa rfl rfl (qc (qa [.p, .w] (sm rfl rfl (sw (z8 0 14 rfl K126 rfl (c126 (S55.mk x9 x10) y12) (qq rfl rfl (qq rfl rfl j5)) rfl rfl rfl) rfl (qc (qa [.p, .p] ?_))))));refine su (ze rfl rfl rfl iE) rfl (sm rfl rfl (qc ?_));exact ⟨rfl, (k11 + 1, t13, (s126 (S55.mk x9 x10) y12).Flown, (s126 (S55.mk x9 x10) y12).Due), ⟨rfl, rfl, rfl, rfl, rfl, rfl, rfl, rfl, rfl, rfl, rfl, rfl, trivial⟩, ⟨rfl, rfl, rfl, trivial⟩, rfl, ⟨hd2, hR⟩, by simp⟩
      ·replace h4 : (decide (((k11 : Nat) : Int) < (List.length r7 : Int))) = false := h4;obtain rfl := zz hd2 (decF h4);rw [s64_l2] at hR;refine zc ?_;refine qb (qb (qa [.p, .r, .p, .p] (su (qv rfl ty24 rfl rfl rfl) rfl (sr (z2 rfl ty56 rfl rfl rfl rfl) rfl (su (qf rfl K106 rfl (c106 a0 (S55.mk x9 x10)) (qd rfl (qd rfl qk))) rfl (su (kh rfl rfl) rfl ?_))))));refine qc (qi _ rfl (fun h6 => ?_) (fun h6 => ?_))
       ·replace h6 : (!(s106 a0 (S55.mk x9 x10))) = true := h6;replace hR := zl hR h6;(try simp only [bB] at h6);refine zc ?_;exact ⟨rfl, x1, ⟨rfl, rfl, rfl, rfl, rfl, rfl, rfl, trivial⟩, ⟨rfl, trivial⟩, rfl, ⟨iC, hR⟩, trivial⟩
       ·replace h6 : (!(s106 a0 (S55.mk x9 x10))) = false := h6;replace hR := zt hR h6;(try simp only [bB] at h6);refine qm (qb ?_);obtain ⟨r14, br14, hR⟩ := qj hR;refine qa [.p, .r, .p, .p, .p, .p, .p, .p, .p] (su (z4 rfl qht rfl) rfl (sr (z2 rfl ty46 rfl rfl rfl rfl) rfl (su (qv rfl ty68 rfl rfl rfl) rfl (su (qf rfl K108 rfl (c108 (S45.mk y4.Period.fFrom y4.Period.fTo y4.Period.Days) a3 hq7.per br14) (qd rfl (qd rfl qk))) rfl (sm rfl rfl (su (qr rfl rfl rfl) rfl ?_))))));refine su (qr rfl rfl rfl) rfl (sa rfl rfl (sa rfl rfl (qc (qb (qb (qa [.p, .p] ?_))))));refine sm rfl rfl (su (zw rfl rfl rfl) rfl (qc (qi _ rfl (fun h7 => ?_) (fun h7 => ?_))))
        ·replace h7 : (decide (r14.2 ≠ 0)) = true := h7;replace hR := zl hR h7;(try simp only [bB] at h7);refine qb (qa [.p, .p, .p] (sm rfl rfl (sa rfl rfl (sa rfl rfl (qc (qo ?_))))));obtain rfl := Option.some.inj hR;exact resN rfl ⟨wj rfl (qcg _), rv_g rfl, trivial⟩ (by simp)
        ·replace h7 : (decide (r14.2 ≠ 0)) = false := h7;replace hR := zt hR h7;(try simp only [bB] at h7);refine qm (qa [.p, .p, .r, .p, .p, .p, .k, .p] (su (qn rfl rfl) rfl (su (z4 rfl qcd rfl) rfl (sr (zx rfl ty9 rfl rfl rfl) rfl (sm rfl rfl (su (jc rfl z132 rfl qwn (zi rfl (zi rfl kp)) rfl) rfl ?_))))));refine su (qw rfl Tryz.underlying117 qsn z132 rfl (za rfl jz) rfl (by exact lens rfl) (by decide)) rfl (st_k rfl rfl (ku (f := S131.c) (out := x1) (new := [(S131.mk y4.Name r14.1)]) rfl qu2 rfl rfl (wg rfl (wi (by decide) (by simp [S131.c, S45.c]))) (qb2 rfl) (by simp; omega)) rfl (su (zh rfl rfl) rfl (qc ?_)));exact ⟨rfl, x1 ++ [(S131.mk y4.Name r14.1)], ⟨rfl, rfl, rfl, rfl, rfl, rfl, rfl, trivial⟩, ⟨rfl, trivial⟩, rfl, ⟨iC, hR⟩, trivial⟩
    ·rintro x6 ⟨jv1_0, hR⟩;replace jv1_0 : x6.length ≤ k3 + 1 := jv1_0;replace hR : s64_j1 (fun k_ z0_ => s64_l1 a0 a2 a3 t5 k_ z0_) k3 x6 = some R := hR;unfold s64_j1 at hR;refine qa [.p, .p] (su (ze rfl rfl rfl iE) rfl (sm rfl rfl (qc ?_)));exact ⟨rfl, (k3 + 1, t5, x6), ⟨rfl, rfl, rfl, rfl, rfl, rfl, rfl, trivial⟩, ⟨rfl, trivial⟩, rfl, ⟨iB, iB, hd, hR⟩, by simp⟩
   ·replace h2 : (decide (((k3 : Nat) : Int) < (List.length a1 : Int))) = false := h2;obtain rfl := zz hd (decF h2);rw [s64_l1] at hR;refine zc ?_;refine qb (qa [.p, .p, .p] (su (qn rfl rfl) rfl (su (zh rfl rfl) rfl (sa rfl rfl (qc (qo ?_))))));obtain rfl := Option.some.inj hR;exact resN rfl ⟨qiw rfl rfl, rv_g rfl, trivial⟩ (by simp)
end Go.Sim
set_option maxRecDepth 10000
namespace Go.Sim
open Go.Proofs
def s71  : S23 :=
 (S23.mk 15 30 7 80 [⟨#[115, 116, 114, 105, 107, 101]⟩] 10 3)
theorem c71 {g : List (Nat × List Value)}     : Con (EG g) 71 [] (G.agg [G.int s71.Before, G.int s71.After, G.int s71.Notice, G.int s71.Share, G.sl 1 (List.map cStr s71.Causes), G.int s71.Off, G.int s71.Run]) := by
 generalize hR : s71  = R;unfold s71 at hR;refine qp Tryz.func71 rfl rfl fun w0 M0 => ?_;refine qb (qa [.w] (sw (zn 0 rfl z24 rfl rfl) rfl (qc (qb (qa [.p, .p, .w] (su (qw rfl Tryz.underlying22 ty9 z9 rfl (za rfl jz) rfl (by simp []) (by decide)) rfl ?_))))));refine su (jc rfl z24 rfl pl24 (zi rfl (zi rfl (zi rfl (zi rfl (zi rfl (zi rfl (zi rfl kp))))))) rfl) rfl (js rfl rfl (zb (tv := .g (G.agg [G.int 15, G.int 30, G.int 7, G.int 80, G.sl 1 (List.map cStr [⟨#[115, 116, 114, 105, 107, 101]⟩]), G.int 10, G.int 3])) rfl ty24 rfl rfl rfl rfl rfl) (qc (qo ?_)));subst hR;exact zd rfl (kr rfl rfl ty24 rfl rfl)
def s70 (a0 : S67) : Option (S45 × Int) :=
 (bif decide ((s107 a0) ≠ 0) then some ((S45.mk 0 0 0), (s107 a0)) else bindO (s138 a0) fun r1 => bindO (s138 (s139 a0)) fun r2 => some ((S45.mk r1 (IntKind.i64.wrap (r2 - 1)) 127), 0))
theorem c70 (a0 : S67) {R : S45 × Int}   (hR : s70 a0 = some R) : Con (EG glT) 70 [G.agg [G.int a0.Year, G.str a0.Kind]] (G.tup [G.agg [G.int R.1.fFrom, G.int R.1.fTo, G.int R.1.Days], G.int R.2]) := by
 unfold s70 at hR;refine qp Tryz.func70 rfl rfl fun w0 M0 => ?_;refine qb (qa [.p, .w, .p] (su (zo rfl rfl) rfl (sw (zn 2 rfl z46 rfl rfl) rfl (sa rfl rfl (qc (qb ?_))))));refine qb (qa [.p, .p, .p] (su (qv rfl ty68 rfl rfl rfl) rfl (su (qf rfl K107 rfl (c107 a0) (qd rfl qk)) rfl (sa rfl rfl (qc (qb ?_))))));refine qa [.p, .p] (sm rfl rfl (su (zw rfl rfl rfl) rfl (qc (qi _ rfl (fun h1 => ?_) (fun h1 => ?_)))))
 ·replace h1 : (decide ((s107 a0) ≠ 0)) = true := h1;replace hR := zl hR h1;(try simp only [bB] at h1);refine qb (qa [.p, .p, .w, .p] (su (jc rfl z46 rfl pl46 kp rfl) rfl (sm rfl rfl (js rfl rfl (zb (tv := .g (G.agg [G.int 0, G.int 0, G.int 0])) rfl ty46 rfl rfl rfl rfl rfl) (sa rfl rfl (qc ?_))))));refine qo ?_;obtain rfl := Option.some.inj hR;exact resN rfl ⟨kr rfl rfl ty46 rfl rfl, rv_g rfl, trivial⟩ (by simp)
 ·replace h1 : (decide ((s107 a0) ≠ 0)) = false := h1;replace hR := zt hR h1;(try simp only [bB] at h1);refine qm (qb ?_);obtain ⟨r1, br1, hR⟩ := qj hR;obtain ⟨r2, br2, hR⟩ := qj hR;refine z0 [.p, .p, .p, .p, .p, .p, .p, .w, .p] (by kernel_rfl) (su (qv rfl ty68 rfl rfl rfl) rfl (su (qf rfl K138 rfl (c138 a0 br1) (qd rfl qk)) rfl (su (qv rfl ty68 rfl rfl rfl) rfl (su (qf rfl K139 rfl (c139 a0) (qd rfl qk)) rfl (su (qf rfl K138 rfl (c138 (s139 a0) br2) (qd rfl qk)) rfl (su (jn rfl rfl rfl) rfl ?_))))));refine su (jc rfl z46 rfl pl46 (zi rfl (zi rfl (zi rfl kp))) rfl) rfl (js rfl rfl (zb (tv := .g (G.agg [G.int r1, G.int (IntKind.i64.wrap (r2 - 1)), G.int 127])) rfl ty46 rfl rfl rfl rfl rfl) (sa rfl rfl (qc (qo ?_))));obtain rfl := Option.some.inj hR;exact resN rfl ⟨kr rfl rfl ty46 rfl rfl, rv_g rfl, trivial⟩ (by simp)
theorem qgt (s : S67) : s107 s = s41 s := by
 unfold s107 s41 s41_j1 s155 s90 s154
 by_cases h1 : (decide (s.Year < 2000) || decide (2272 < s.Year)) = true
 ·rw [h1]
  simp [s152, s152_l1]
 ·have h1 : (decide (s.Year < 2000) || decide (2272 < s.Year)) = false := by simpa using h1
  rw [h1]
  cases h2 : (!decide (s.Kind = (⟨#[83]⟩ : ByteArray))) <;> cases h3 : (!decide (s.Kind = (⟨#[87]⟩ : ByteArray))) <;> simp [s152, s152_l1]
theorem qu3 {s : S67} (h : s107 s = 0) : okS s := by
 have h' := h;rw [qgt] at h';unfold s107 at h;obtain ⟨h1, h2⟩ := qlt _ _ h;have h3 := qq9 _ 13 (by decide) h2;have h4 : s90 s.Year 2000 2272 = 0 := h1;have h5 := qop h4;refine ⟨h5.1, h5.2, ?_⟩
 by_cases hk : s.Kind = kS
 ·exact .inl hk
 ·right
  rw [decide_eq_false hk] at h3
  simpa using h3
theorem qkw {α : Type} {l : List α} {i : Nat} {x : α} (h : l[i]? = some x) : ixO l (i : Int) = some x := by
 unfold ixO; rw [decide_eq_true (by omega), cond_true]; simpa using h
theorem qpg (l : List S45) : s43 l l = some true := by
 have key : ∀ (r : List S45) (k : Nat), l.drop k = r → s43_l1 l r k = some true := by
  intro r
  induction r with
  | nil => intro k _; rfl
  | cons y r ih =>
   intro k hd
   have hy : l[k]? = some y := by
    have : (l.drop k)[0]? = some y := by rw [hd]; rfl
    simpa using this
   rw [s43_l1, qkw hy];simp only [bindO, eqAnd, decide_true, Bool.and_true, Bool.not_true, cond_false];refine ih (k + 1) ?_
   have : l.drop (k + 1) = (l.drop k).drop 1 := by rw [List.drop_drop]
   rw [this, hd]; rfl
 unfold s43;rw [decide_eq_false (by simp), cond_false];exact key l 0 rfl
def wk (d : Int) : Int := (d + 5) / 7
def wd (d : Int) : Int := (d + 5) % 7
theorem wt {d : Int} (h : 0 ≤ d ∧ d ≤ 99999) : s163 d = wk d := by
 unfold s163 wk;rw [wrap_i64 (n := d + 5) ⟨by omega, by omega⟩, Int.tdiv_eq_ediv_of_nonneg (by omega), wrap_i64 ⟨by omega, by omega⟩]
theorem wa {d : Int} (h : 0 ≤ d ∧ d ≤ 99999) : s196 d = wk d := wt h
theorem qso {d : Int} (h : 0 ≤ d ∧ d ≤ 99999) : s188 d = wd d := qgr h.1 (by omega)
theorem qsp {d : Int} (h : 0 ≤ d ∧ d ≤ 99999) : s180 d = wd d := qce h.1 (by omega)
def bitD (d w : Int) : Int := if wk d = w then (2 ^ (wd d).toNat : Nat) else 0
def mkS : List Int → Int → Int
 | [], _ => 0
 | d :: l, w => bitD d w + mkS l w
theorem qbh (w : Int) : ∀ (l r : List Int), mkS (l ++ r) w = mkS l w + mkS r w
 | [], r => by simp [mkS]
 | d :: l, r => by rw [List.cons_append, mkS, mkS, qbh w l r]; omega
theorem qng (d w : Int) : 0 ≤ bitD d w ∧ bitD d w ≤ 64 := by
 unfold bitD
 have h : (wd d).toNat < 7 := by unfold wd; omega
 split
 ·have h7 : (wd d).toNat = 0 ∨ (wd d).toNat = 1 ∨ (wd d).toNat = 2 ∨ (wd d).toNat = 3 ∨ (wd d).toNat = 4 ∨ (wd d).toNat = 5 ∨ (wd d).toNat = 6 := by omega
  rcases h7 with e | e | e | e | e | e | e <;> rw [e] <;> decide
 ·decide
theorem qcx (w : Int) : ∀ l : List Int, 0 ≤ mkS l w ∧ mkS l w ≤ 64 * (l.length : Int)
 | [] => by simp [mkS]
 | d :: l => by
  have h1 := qng d w;have h2 := qcx w l;rw [mkS, List.length_cons]; omega
theorem qjt (w : Int) : ∀ l : List Int, (∀ d ∈ l, wk d ≠ w) → mkS l w = 0
 | [], _ => rfl
 | d :: l, h => by
  rw [mkS, qjt w l fun z hz => h z (List.mem_cons_of_mem _ hz)];unfold bitD;rw [if_neg (h d List.mem_cons_self)]; rfl
theorem qju : ∀ (n : Nat) (P : List Int) (y : Int), P.length = n → P.Pairwise (· < ·) → (∀ d ∈ P, d < y) → mkS P (wk y) < (2 ^ (wd y).toNat : Nat)
 | 0, P, y, hn, _, _ => by
  rw [List.length_eq_zero_iff.1 hn];exact Int.ofNat_lt.2 (Nat.two_pow_pos _)
 | n + 1, P, y, hn, hs, hy => by
  have hne : P ≠ [] := by intro e; rw [e] at hn; cases hn
  have e := (List.dropLast_concat_getLast hne).symm;generalize P.dropLast = Q at e;generalize P.getLast hne = z at e;subst e;obtain ⟨s1, _, s3⟩ := List.pairwise_append.1 hs;have hz : z < y := hy z (by simp);have hQ : ∀ d ∈ Q, d < z := fun d hd => s3 d hd z (by simp);rw [qbh]
  by_cases hw : wk z = wk y
  ·have ih := qju n Q z (by simpa using hn) s1 hQ;rw [hw] at ih
   have hb : mkS [z] (wk y) = (2 ^ (wd z).toNat : Nat) := by simp [mkS, bitD, hw]
   have hd : (wd z).toNat + 1 ≤ (wd y).toNat := by unfold wk at hw; unfold wd; omega
   have hp := Nat.pow_le_pow_right (show 0 < 2 by decide) hd;rw [Nat.pow_succ] at hp;rw [hb]; omega
  ·have h0 : mkS Q (wk y) = 0 := qjt _ _ fun d hd => by
    have := hQ d hd;unfold wk at *; omega
   have h1 : mkS [z] (wk y) = 0 := by simp [mkS, bitD, hw]
   have := Nat.two_pow_pos (wd y).toNat;rw [h0, h1]; omega
theorem qu4 : ∀ n < 7, ∀ k < 2 ^ n, orI ((k : Nat) : Int) (shlI 1 ((n : Nat) : Int)) = ((k + 2 ^ n : Nat) : Int) := by decide +kernel
theorem qkx {K V : Type} [DecidableEq K] (m : List (K × V)) (k j : K) (v : V) : mget (mset m k v) j = if k = j then some v else mget m j := by
 induction m with
 | nil => by_cases h : k = j <;> simp [mset, mget, h]
 | cons p m ih =>
  obtain ⟨a, b⟩ := p
  by_cases ha : a = k
  ·subst ha
   by_cases h : a = j <;> simp [mset, mget, h]
  ·by_cases h : a = j
   ·subst h;have hk : ¬ k = a := fun h => ha h.symm
    simp [mset, mget, ha, hk]
   ·simp [mset, mget, ha, h, ih]
theorem qib {K V : Type} [DecidableEq K] (m : List (K × V)) (k j : K) (v z : V) : mgetD (mset m k v) j z = if k = j then v else mgetD m j z := by
 unfold mgetD;rw [qkx]
 by_cases h : k = j <;> simp [h]
theorem qgu (a0 : List Int) (ha : a0.Pairwise (· < ·)) (hr : ∀ d ∈ a0, 0 ≤ d ∧ d ≤ 99999) : ∀ (l P : List Int) (k : Nat) (m : List (Int × Int)), P ++ l = a0 → (∀ w, mgetD m w 0 = mkS P w) →
  ∃ m' k', s160_l2 a0 l k m = s160_l2 a0 [] k' m' ∧ ∀ w, mgetD m' w 0 = mkS a0 w
 | [], P, k, m, hP, hm => ⟨m, k, rfl, by rw [← hP, List.append_nil]; exact hm⟩
 | y :: l, P, k, m, hP, hm => by
  have hy := hr y (by rw [← hP]; simp);rw [← hP] at ha;obtain ⟨p1, _, p3⟩ := List.pairwise_append.1 ha;have hlt := qju P.length P y rfl p1 fun d hd => p3 d hd y List.mem_cons_self;have hnn := (qcx (wk y) P).1
  have hw7 : (wd y).toNat < 7 := by unfold wd; omega
  have hwd : wd y = (((wd y).toNat : Nat) : Int) := by unfold wd; omega
  have hS : mkS P (wk y) = (((mkS P (wk y)).toNat : Nat) : Int) := by omega
  have hor : orI (mgetD m (wk y) 0) (shlI 1 (wd y)) = mkS (P ++ [y]) (wk y) := by
   rw [hm, qbh, hS, hwd, qu4 _ hw7 _ (by omega)];simp only [mkS, bitD, if_true]
   push_cast
   omega
  conv => enter [1, m', 1, k', 1, 1]; rw [s160_l2, wa hy, qso hy, hor]
  refine qgu a0 (by rw [← hP]; exact ha) hr l (P ++ [y]) (k + 1) _ (by rw [← hP]; simp) fun w => ?_;rw [qib]
  by_cases h : wk y = w
  ·rw [if_pos h, h]
  ·rw [if_neg h, hm, qbh]
   simp [mkS, bitD, h]
theorem qnh (rec1 : Nat → Int → Int) (x1 : Int) (k3 : Nat) : ∀ (n : Nat) (x7 x8 : Int), 0 ≤ x7 → x7 * 2 ^ n ≤ 1000000 → s164_l2 rec1 x1 k3 n x7 x8 = rec1 (k3 + 1) (IntKind.i64.wrap (x1 + x7 * 2 ^ n))
 | 0, x7, x8, _, _ => by rw [s164_l2, s164_j1]; simp
 | n + 1, x7, x8, h0, h1 => by
  have hp : (2 : Int) ^ (n + 1) = 2 ^ n * 2 := Int.pow_succ 2 n
  have hq : (1 : Int) ≤ 2 ^ n := by
   have := Nat.two_pow_pos n
   have h2 : ((2 ^ n : Nat) : Int) = (2 : Int) ^ n := by push_cast; rfl
   omega
  have e : 2 * x7 * 2 ^ n = x7 * 2 ^ (n + 1) := by rw [hp]; rw [Int.mul_comm 2 x7, Int.mul_assoc, Int.mul_comm 2 (2 ^ n)]
  have hle : 2 * x7 ≤ 2 * x7 * 2 ^ n := by
   have := Int.mul_le_mul_of_nonneg_left hq (show 0 ≤ 2 * x7 by omega)
   omega
  rw [s164_l2, wrap_i64 ⟨by omega, by omega⟩, qnh rec1 x1 k3 n (2 * x7) (x8 + 1) (by omega) (by omega), e]
theorem qgv (w : Int) : ∀ (l : List Int) (k : Nat) (x : Int), (∀ d ∈ l, 0 ≤ d ∧ d ≤ 99999) → 0 ≤ x → x + 64 * (l.length : Int) ≤ 100000 → s164_l1 w l k x = x + mkS l w
 | [], k, x, _, _, _ => by rw [s164_l1]; simp [mkS]
 | y :: l, k, x, h, h0, h1 => by
  have hy := h y List.mem_cons_self;have hb := qng y w;rw [List.length_cons] at h1;have ih := fun x h0 h1 => qgv w l (k + 1) x (fun z hz => h z (List.mem_cons_of_mem _ hz)) h0 h1;rw [s164_l1, wt hy, qsp hy, mkS]
  by_cases hw : wk y = w
  ·rw [decide_eq_true hw, cond_true]
   have e : bitD y w = (2 : Int) ^ (wd y).toNat := by unfold bitD; rw [if_pos hw]; push_cast; rfl
   rw [e] at hb ⊢
   have e0 : (wd y - 0).toNat = (wd y).toNat := by simp
   rw [e0, qnh _ x k (wd y).toNat 1 0 (by omega) (by omega), Int.one_mul, wrap_i64 ⟨by omega, by omega⟩, ih _ (by omega) (by omega)]
   omega
  ·rw [decide_eq_false hw, cond_false, s164_j1, ih x h0 (by omega)];unfold bitD;rw [if_neg hw]; omega
theorem qe4 {l : List Int} (w : Int) (h : ∀ d ∈ l, 0 ≤ d ∧ d ≤ 99999) (hl : l.length ≤ 401) : s164 l w = mkS l w := by
 unfold s164;rw [qgv w l 0 0 h (by omega) (by omega)]; omega
theorem runs (a0 : List Int) (m : List (Int × Int)) (hr : ∀ d ∈ a0, 0 ≤ d ∧ d ≤ 99999) (hlen : a0.length ≤ 401) (hm : ∀ w, mgetD m w 0 = mkS a0 w) :
  ∀ (l : List Int) (i : Nat) (x10 : List S45) (y13 y14 x20 x2 : Int) (k12 k21 : Nat), x10.length ≤ i → a0.drop (i + 1) = l → a0[i]? = some x20 → 0 ≤ y13 ∧ y13 ≤ 99999 → x2 = wk x20 - wk y13 + 1 → 1 ≤ x2 ∧ x2 ≤ 57 → l.length < k12 → l.length < k21 → i + 1 + l.length = a0.length →
  s160_l4 (fun z0_ z1_ => s160_l3 a0 m k12 z0_ z1_) a0 m x10 y13 y14 k21 (((i + 1 : Nat)) : Int) (wk x20) x20 = (bindO (s112_l1 a0 l (i + 1) (x10 ++ [⟨y14, x20, mkS a0 (wk y13)⟩]) x2) fun r => some (r, 0))
 | [], i, x10, y13, y14, x20, x2, k12, k21, h10, hd, hx, hy, h2, h2r, hk, hk2, hn => by
  obtain ⟨k12, rfl⟩ : ∃ k, k12 = k + 1 := ⟨k12 - 1, by omega⟩;obtain ⟨k21, rfl⟩ : ∃ k, k21 = k + 1 := ⟨k21 - 1, by simp at hk2; omega⟩
  have hn : i + 1 = a0.length := by simpa using hn
  have e : decide ((((i + 1 : Nat)) : Int) < (List.length a0 : Int)) = false := decide_eq_false (by omega);rw [s160_l4, e, cond_false, s160_j1, s160_l3, e, cond_false, s112_l1, s197, wa hy, hm]
  rfl
 | y :: l, i, x10, y13, y14, x20, x2, k12, k21, h10, hd, hx, hy, h2, h2r, hk, hk2, hn => by
  obtain ⟨k12, rfl⟩ : ∃ k, k12 = k + 1 := ⟨k12 - 1, by omega⟩;obtain ⟨k21, rfl⟩ : ∃ k, k21 = k + 1 := ⟨k21 - 1, by omega⟩;rw [List.length_cons] at hk hk2 hn
  have hyi : a0[i + 1]? = some y := by
   have : (a0.drop (i + 1))[0]? = some y := by rw [hd]; rfl
   simpa using this
  have hdn : a0.drop (i + 1 + 1) = l := by
   have : a0.drop (i + 1 + 1) = (a0.drop (i + 1)).drop 1 := by rw [List.drop_drop]
   rw [this, hd]; rfl
  have hyr := hr y (List.mem_of_getElem? hyi);have hxr := hr x20 (List.mem_of_getElem? hx)
  have hw0 : 0 ≤ wk y ∧ wk y ≤ 20000 := by unfold wk; omega
  have hw1 : 0 ≤ wk x20 ∧ wk x20 ≤ 20000 := by unfold wk; omega
  have hw2 : 0 ≤ wk y13 ∧ wk y13 ≤ 20000 := by unfold wk; omega
  have e : decide ((((i + 1 : Nat)) : Int) < (List.length a0 : Int)) = true := decide_eq_true (by omega);have e0 : decide ((0 : Int) < (((i + 1 : Nat)) : Int)) = true := decide_eq_true (by omega)
  have ep : ixO a0 (IntKind.i64.wrap ((((i + 1 : Nat)) : Int) - 1)) = some x20 := by
   rw [wrap_i64 ⟨by omega, by omega⟩]
   have : (((i + 1 : Nat)) : Int) - 1 = ((i : Nat) : Int) := by omega
   rw [this]; exact qkw hx
  have ei : ixO a0 (((i + 1 : Nat)) : Int) = some y := qkw hyi
  have ew : IntKind.i64.wrap ((((i + 1 : Nat)) : Int) + 1) = (((i + 1 + 1 : Nat)) : Int) := by rw [wrap_i64 ⟨by omega, by omega⟩]; omega
  have hset : ∀ (q v : S45), ixO (x10 ++ [q]) (IntKind.i64.wrap ((List.length (x10 ++ [q]) : Int) - 1)) = some q ∧ List.set (x10 ++ [q]) (Int.toNat (IntKind.i64.wrap ((List.length (x10 ++ [q]) : Int) - 1))) v = x10 ++ [v] := fun q v => by
   have hl : (List.length (x10 ++ [q]) : Int) - 1 = (x10.length : Int) := by simp
   rw [hl];have hw : IntKind.i64.wrap (x10.length : Int) = (x10.length : Int) := wrap_i64 ⟨by omega, by omega⟩;rw [hw];exact ⟨qeo, xg (by simp)⟩
  have hlow := qcx (wk y) a0;rw [s160_l4, e, cond_true, ei];simp only [bindO];rw [wa hyr, wa hy, hm, hm, s112_l1, e0, cond_true, ep];simp only [bindO, Bool.true_and];rw [wt hxr, wt hyr]
  by_cases hA : wk y = wk x20
  ·rw [decide_eq_true hA, cond_true, s160_j2, ei];simp only [bindO];rw [ew, decide_eq_true hA.symm, cond_true, (hset _ default).1]
   simp only
   rw [s112_j1, (hset _ _).2, ← hA];exact runs a0 m hr hlen hm l (i + 1) x10 y13 y14 y x2 (k12 + 1) k21 (by omega) hdn hyi hy (by rw [hA]; exact h2) h2r (by omega) (by omega) (by omega)
  ·have hA' : ¬ wk x20 = wk y := fun e => hA e.symm
   have els : s160_j1 (fun z0_ z1_ => s160_l3 a0 m (k12 + 1) z0_ z1_) m x10 y13 y14 (((i + 1 : Nat)) : Int) x20 = (bindO (s112_l1 a0 l (i + 1 + 1) ((x10 ++ [⟨y14, x20, mkS a0 (wk y13)⟩]) ++ [⟨y, y, mkS a0 (wk y)⟩]) 1) fun r => some (r, 0)) := by
    rw [s160_j1, wa hy, hm, s160_l3, e, cond_true, ei];simp only [bindO];rw [wa hyr]
    have hf : (((List.length a0 : Int) - (((i + 1 : Nat)) : Int)).toNat + 1) = l.length + 1 + 1 := by omega
    rw [hf, s160_l4, e, cond_true, ei];simp only [bindO];rw [wa hyr, decide_eq_true rfl, cond_true, s160_j2, ei];simp only [bindO];rw [ew];exact runs a0 m hr hlen hm l (i + 1) _ y y y 1 k12 (l.length + 1) (by simp; omega) hdn hyi hyr (by omega) (by omega) (by omega) (by omega) (by omega)
   rw [decide_eq_false hA, cond_false, decide_eq_false hA', cond_false, wrap_i64 (n := wk x20 + 1) ⟨by omega, by omega⟩, wrap_i64 (n := wk y - wk y13) ⟨by omega, by omega⟩, wrap_i64 (n := wk y - 1) ⟨by omega, by omega⟩, qe4 _ hr hlen]
   by_cases hB : wk y = wk x20 + 1
   ·rw [decide_eq_true hB, decide_eq_true (by omega : wk x20 = wk y - 1)];simp only [Bool.true_and, cond_true];rw [(hset _ default).1]
    simp only
    by_cases hC : mkS a0 (wk y) = mkS a0 (wk y13)
    ·rw [decide_eq_true hC, decide_eq_true hC.symm, Bool.true_and, Bool.true_and]
     by_cases hD : x2 < 57
     ·rw [decide_eq_true hD, decide_eq_true (by omega : wk y - wk y13 < 57), cond_true, cond_true, s160_j2, ei];simp only [bindO];rw [ew, s112_j1, (hset _ _).2, wrap_i64 (n := x2 + 1) ⟨by omega, by omega⟩];exact runs a0 m hr hlen hm l (i + 1) x10 y13 y14 y (x2 + 1) (k12 + 1) k21 (by omega) hdn hyi hy (by omega) (by omega) (by omega) (by omega) (by omega)
     ·rw [decide_eq_false hD, decide_eq_false (by omega : ¬ wk y - wk y13 < 57), cond_false, cond_false, s112_j1];exact els
    ·have hC' : ¬ mkS a0 (wk y13) = mkS a0 (wk y) := fun e => hC e.symm;rw [decide_eq_false hC, decide_eq_false hC'];simp only [Bool.false_and, cond_false];rw [s112_j1];exact els
   ·rw [decide_eq_false hB, decide_eq_false (by omega : ¬ wk x20 = wk y - 1), Bool.false_and, Bool.false_and, cond_false];simp only [Bool.false_and, cond_false];rw [s112_j1];exact els
theorem qgw (a0 : List Int) (ha : a0.Pairwise (· < ·)) (hr : ∀ d ∈ a0, 0 ≤ d ∧ d ≤ 99999) (hlen : a0.length ≤ 401) : ∀ (l : List Int) (k : Nat), a0.drop k = l → k + l.length = a0.length → s160_l1 a0 l k = s160_l2 a0 a0 0 []
 | [], k, _, _ => by rw [s160_l1]
 | y :: l, k, hd, hn => by
  rw [List.length_cons] at hn
  have hyk : a0[k]? = some y := by
   have : (a0.drop k)[0]? = some y := by rw [hd]; rfl
   simpa using this
  have hdn : a0.drop (k + 1) = l := by
   have : a0.drop (k + 1) = (a0.drop k).drop 1 := by rw [List.drop_drop]
   rw [this, hd]; rfl
  have hy := hr y (List.mem_of_getElem? hyk)
  have h153 : s153 y = 0 := by
   unfold s153 s155 s154;rw [decide_eq_false (by omega : ¬ y < 0), decide_eq_false (by omega : ¬ 99999 < y)]
   rfl
  have ih := qgw a0 ha hr hlen l (k + 1) hdn (by omega);rw [s160_l1, h153]
  cases k with
  | zero => exact ih
  | succ j =>
   have hj : j < a0.length := by omega
   have e0 : decide ((0 : Int) < (((j + 1 : Nat)) : Int)) = true := decide_eq_true (by omega)
   have ep : ixO a0 (max 0 (IntKind.i64.wrap ((((j + 1 : Nat)) : Int) - 1))) = some a0[j] := by
    rw [wrap_i64 ⟨by omega, by omega⟩]
    have : max 0 ((((j + 1 : Nat)) : Int) - 1) = ((j : Nat) : Int) := by omega
    rw [this]; exact qkw (List.getElem?_eq_getElem hj)
   have hj1 : j + 1 < a0.length := by omega
   have hyj : a0[j + 1] = y := by rw [List.getElem?_eq_getElem hj1] at hyk; exact Option.some.inj hyk
   have hlt : a0[j] < y := by rw [← hyj]; exact List.pairwise_iff_getElem.1 ha j (j + 1) hj hj1 (by omega)
   rw [e0, cond_true, ep];simp only [bindO];rw [decide_eq_false (by omega : ¬ y ≤ a0[j])];have e : s152 [0, s154 (true && false) 11] = 0 := rfl;rw [e, decide_eq_false (by decide), cond_false];exact ih
theorem qjv (a0 : List Int) (hlen : a0.length ≤ 401) : ∀ (l : List Int) (i : Nat) (x10 : List S45) (q : S45) (x2 : Int), x10.length ≤ i → i + 1 + l.length = a0.length → ∃ R, s112_l1 a0 l (i + 1) (x10 ++ [q]) x2 = some R
 | [], i, x10, q, x2, _, _ => ⟨_, by rw [s112_l1]⟩
 | y :: l, i, x10, q, x2, h10, hn => by
  rw [List.length_cons] at hn
  have hi : i < a0.length := by omega
  have e0 : decide ((0 : Int) < (((i + 1 : Nat)) : Int)) = true := decide_eq_true (by omega)
  have ep : ixO a0 (IntKind.i64.wrap ((((i + 1 : Nat)) : Int) - 1)) = some a0[i] := by
   rw [wrap_i64 ⟨by omega, by omega⟩]
   have : (((i + 1 : Nat)) : Int) - 1 = ((i : Nat) : Int) := by omega
   rw [this]; exact qkw (List.getElem?_eq_getElem hi)
  have hset : ∀ v : S45, ixO (x10 ++ [q]) (IntKind.i64.wrap ((List.length (x10 ++ [q]) : Int) - 1)) = some q ∧ List.set (x10 ++ [q]) (Int.toNat (IntKind.i64.wrap ((List.length (x10 ++ [q]) : Int) - 1))) v = x10 ++ [v] := fun v => by
   have hl : (List.length (x10 ++ [q]) : Int) - 1 = (x10.length : Int) := by simp
   have hw : IntKind.i64.wrap (x10.length : Int) = (x10.length : Int) := wrap_i64 ⟨by omega, by omega⟩;rw [hl, hw];exact ⟨qeo, xg (by simp)⟩
  have ih := fun x10 q x2 h => qjv a0 hlen l (i + 1) x10 q x2 h (by omega);rw [s112_l1, e0, cond_true, ep];simp only [bindO, Bool.true_and, (hset default).1, s112_j1, (hset _).2]
  cases decide (s163 a0[i] = s163 y)
  ·rw [cond_false]
   cases decide (s163 a0[i] = IntKind.i64.wrap (s163 y - 1))
   ·simp only [cond_false, Bool.false_and];exact ih _ _ _ (by simp; omega)
   ·simp only [cond_true, Bool.true_and]
    cases (decide (q.Days = s164 a0 (s163 y)) && decide (x2 < 57))
    ·rw [cond_false]; exact ih _ _ _ (by simp; omega)
    ·rw [cond_true]; exact ih _ _ _ (by omega)
  ·rw [cond_true]; exact ih _ _ _ (by omega)
theorem qqo : JoinOk := by
 intro a0 ha hr hlen;obtain ⟨m, k', h1, h2⟩ := qgu a0 ha hr a0 [] 0 [] rfl (fun w => rfl)
 have h0 : s160 a0 = s160_l3 a0 m (a0.length + 1) [] 0 := by
  unfold s160;rw [decide_eq_false (by omega), cond_false, qgw a0 ha hr hlen a0 0 rfl (by simp), h1, s160_l2]
  have : (((List.length a0 : Int) - 0).toNat + 1) = a0.length + 1 := by omega
  rw [this]
 rw [h0];unfold s112
 cases a0 with
 | nil => exact ⟨[], by rw [s160_l3]; rfl, by rw [s112_l1]⟩
 | cons y l =>
  have hy := hr y List.mem_cons_self;have e : decide ((0 : Int) < (List.length (y :: l) : Int)) = true := decide_eq_true (by simp only [List.length_cons]; omega);have ei : ixO (y :: l) 0 = some y := rfl
  have hf : (((List.length (y :: l) : Int) - 0).toNat + 1) = l.length + 1 + 1 := by simp
  have key := runs (y :: l) m hr hlen h2 l 0 [] y y y 1 (y :: l).length (l.length + 1) (by simp) rfl rfl hy (by omega) (by omega) (by simp) (by omega) (by simp; omega);obtain ⟨R, hR⟩ := qjv (y :: l) hlen l 0 [] ⟨y, y, mkS (y :: l) (wk y)⟩ 1 (by simp) (by simp; omega);rw [hR] at key;refine ⟨R, ?_, ?_⟩
  ·rw [s160_l3, e, cond_true, ei];simp only [bindO];rw [wa hy, hf, s160_l4, e, cond_true, ei];simp only [bindO];rw [wa hy, decide_eq_true rfl, cond_true, s160_j2, ei];simp only [bindO];rw [wrap_i64 (n := (0 : Int) + 1) ⟨by omega, by omega⟩];exact key
  ·rw [s112_l1];have z : decide ((0 : Int) < (((0 : Nat)) : Int)) = false := rfl;rw [z];simp only [cond_false, Bool.false_and, bindO, s112_j1];rw [wt hy, qe4 _ hr hlen];exact hR
theorem qsq : ∀ n < 7, ∀ a < 2 ^ n, ∀ k < 7, decide (andI (shrI ((a + 2 ^ n : Nat) : Int) ((k : Nat) : Int)) 1 = 1) = (decide (andI (shrI ((a : Nat) : Int) ((k : Nat) : Int)) 1 = 1) || decide (k = n)) := by decide +kernel
theorem qjw : ∀ k < 7, decide (andI (shrI 0 ((k : Nat) : Int)) 1 = 1) = false := by decide +kernel
theorem qni {P : List Int} {n : Nat} (h : P.length = n + 1) : ∃ Q z, P = Q ++ [z] ∧ Q.length = n := by
 have hne : P ≠ [] := by intro e; rw [e] at h; cases h
 refine ⟨P.dropLast, P.getLast hne, (List.dropLast_concat_getLast hne).symm, by simp [h]⟩
theorem qjx {z w : Int} (h : wk z = w) : mkS [z] w = ((2 ^ (wd z).toNat : Nat) : Int) := by simp [mkS, bitD, h]
theorem qnj {z w : Int} (h : ¬ wk z = w) : mkS [z] w = 0 := by simp [mkS, bitD, h]
theorem qjy (d : Int) : 0 ≤ wd d ∧ wd d < 7 := by unfold wd; omega
theorem qnk (w : Int) : ∀ (n : Nat) (P : List Int), P.length = n → P.Pairwise (· < ·) → ∀ k < 7, decide (andI (shrI (mkS P w) ((k : Nat) : Int)) 1 = 1) = true ↔ ∃ d ∈ P, wk d = w ∧ wd d = ((k : Nat) : Int)
 | 0, P, hn, _, k, hk => by
  rw [List.length_eq_zero_iff.1 hn];show decide (andI (shrI 0 ((k : Nat) : Int)) 1 = 1) = true ↔ _;rw [qjw k hk]; simp
 | n + 1, P, hn, hs, k, hk => by
  obtain ⟨Q, z, rfl, hq⟩ := qni hn;obtain ⟨s1, _, s3⟩ := List.pairwise_append.1 hs;have hQ : ∀ d ∈ Q, d < z := fun d hd => s3 d hd z (by simp);have ih := qnk w n Q hq s1 k hk;have hz := qjy z;rw [qbh]
  by_cases hw : wk z = w
  ·have hlt := qju n Q z hq s1 hQ;rw [hw] at hlt;have h0 := (qcx w Q).1;obtain ⟨a, ha⟩ := Int.eq_ofNat_of_zero_le h0;rw [ha] at hlt ih ⊢;rw [qjx hw];have hb := qsq (wd z).toNat (by omega) a (by exact Int.ofNat_lt.1 hlt) k hk
   have e : ((a : Nat) : Int) + ((2 ^ (wd z).toNat : Nat) : Int) = ((a + 2 ^ (wd z).toNat : Nat) : Int) := by rw [Int.natCast_add]
   rw [e, hb];rw [Bool.or_eq_true, ih, decide_eq_true_eq]
   constructor
   ·rintro (⟨d, h1, h2⟩ | h)
    ·exact ⟨d, List.mem_append_left _ h1, h2⟩
    ·exact ⟨z, by simp, hw, by omega⟩
   ·rintro ⟨d, h1, h2, h3⟩
    rcases List.mem_append.1 h1 with h1 | h1
    ·exact .inl ⟨d, h1, h2, h3⟩
    ·rw [List.mem_singleton.1 h1] at h3;exact .inr (by omega)
  ·rw [qnj hw, Int.add_zero, ih]
   constructor
   ·rintro ⟨d, h1, h2⟩; exact ⟨d, List.mem_append_left _ h1, h2⟩
   ·rintro ⟨d, h1, h2, h3⟩
    rcases List.mem_append.1 h1 with h1 | h1
    ·exact ⟨d, h1, h2, h3⟩
    ·rw [List.mem_singleton.1 h1] at h2; exact absurd h2 hw
theorem qnl (w : Int) : ∀ (n : Nat) (P : List Int), P.length = n → P.Pairwise (· < ·) → mkS P w ≤ 127
 | 0, P, hn, _ => by rw [List.length_eq_zero_iff.1 hn]; show (0 : Int) ≤ 127; decide
 | n + 1, P, hn, hs => by
  obtain ⟨Q, z, rfl, hq⟩ := qni hn;obtain ⟨s1, _, s3⟩ := List.pairwise_append.1 hs;have hQ : ∀ d ∈ Q, d < z := fun d hd => s3 d hd z (by simp);rw [qbh]
  by_cases hw : wk z = w
  ·have hlt := qju n Q z hq s1 hQ;rw [hw] at hlt;rw [qjx hw];have hz := qjy z
   have h7 : (wd z).toNat ≤ 6 := by omega
   have := Nat.pow_le_pow_right (show 0 < 2 by decide) h7
   have e : (2 ^ 6 : Nat) = 64 := by decide
   rw [e] at this
   omega
  ·rw [qnj hw];have := qnl w n Q hq s1
   omega
theorem qcy {a0 : List Int} (ha : a0.Pairwise (· < ·)) (d : Int) : inM (mkS a0 (wk d)) d = true ↔ d ∈ a0 := by
 have hw := qjy d;have h := qnk (wk d) a0.length a0 rfl ha (wd d).toNat (by omega);rw [Int.toNat_of_nonneg hw.1] at h;have e : inM (mkS a0 (wk d)) d = decide (andI (shrI (mkS a0 (wk d)) (wd d)) 1 = 1) := rfl;rw [e, h]
 constructor
 ·rintro ⟨d', h1, h2, h3⟩
  have : d' = d := by unfold wk at h2; unfold wd at h3; omega
  rw [← this]; exact h1
 ·intro h; exact ⟨d, h, rfl, rfl⟩
theorem qe5 (m : Int) : ∀ (n k : Nat) (d : Int), dayL m (n + k) d = dayL m n d ++ dayL m k (d + n)
 | 0, k, d => by simp [dayL]
 | n + 1, k, d => by
  have e : n + 1 + k = (n + k) + 1 := by omega
  have e2 : d + 1 + (n : Int) = d + ((n + 1 : Nat) : Int) := by omega
  rw [e, dayL, dayL, qe5 m n k (d + 1), e2]
  split <;> rfl
theorem qgx (m : Int) : ∀ (n : Nat) (d : Int), (∀ e, d ≤ e → e < d + n → inM m e = false) → dayL m n d = []
 | 0, d, _ => rfl
 | n + 1, d, h => by
  rw [dayL, h d (by omega) (by omega), qgx m n (d + 1) fun e h1 h2 => h e (by omega) (by omega)]
  rfl
theorem qnm {m f x y : Int} (hf : f ≤ x + 1) (hx : x < y) (hn : ∀ e, x < e → e < y → inM m e = false) (hy : inM m y = true) : dayL m (y + 1 - f).toNat f = dayL m (x + 1 - f).toNat f ++ [y] := by
 have e : (y + 1 - f).toNat = (x + 1 - f).toNat + ((y - x - 1).toNat + 1) := by omega
 have e1 : f + ((x + 1 - f).toNat : Int) = x + 1 := by omega
 have e2 : x + 1 + ((y - x - 1).toNat : Int) = y := by omega
 rw [e, qe5, e1, qe5, e2, qgx m _ (x + 1) fun e h1 h2 => hn e (by omega) (by omega)]
 have : dayL m 1 y = [y] := by rw [dayL, hy]; rfl
 rw [this]; rfl
def dq (q : S45) : List Int := dayL q.Days (q.fTo + 1 - q.fFrom).toNat q.fFrom
theorem qsr {f t m : Int} (h0 : 0 ≤ f) (h1 : f ≤ t) (h2 : t ≤ 99999) (h3 : t - f ≤ 400) (h4 : 1 ≤ m) (h5 : m ≤ 127) : s102 ⟨f, t, m⟩ = 0 := by
 unfold s102 s153 s155 s154
 simp only
 rw [wrap_i64 (n := t - f) ⟨by omega, by omega⟩, decide_eq_false (by omega : ¬ f < 0), decide_eq_false (by omega : ¬ 99999 < f), decide_eq_false (by omega : ¬ t < 0), decide_eq_false (by omega : ¬ 99999 < t), decide_eq_false (by omega : ¬ t < f), decide_eq_false (by omega : ¬ 400 < t - f), decide_eq_false (by omega : ¬ m < 1), decide_eq_false (by omega : ¬ 127 < m)]
 rfl
theorem qss {a0 : List Int} (ha : a0.Pairwise (· < ·)) {d : Int} (h : d ∈ a0) : 1 ≤ mkS a0 (wk d) := by
 have h1 := (qcy ha d).2 h;have h0 := (qcx (wk d) a0).1
 by_cases hz : mkS a0 (wk d) = 0
 ·rw [hz] at h1;have hw := qjy d;have h2 := qjw (wd d).toNat (by omega);rw [Int.toNat_of_nonneg hw.1] at h2;have e : inM 0 d = decide (andI (shrI 0 (wd d)) 1 = 1) := rfl;rw [e, h2] at h1; cases h1
 ·omega
structure JS (a0 : List Int) (i : Nat) (x10 : List S45) (f t n : Int) : Prop where
 h10 : x10.length ≤ i
 ht : a0[i]? = some t
 hf : f ∈ a0
 le : f ≤ t
 hn : n = wk t - wk f + 1
 h57 : n ≤ 57
 same : ∀ w, wk f ≤ w → w ≤ wk t → mkS a0 w = mkS a0 (wk f)
 ok : ∀ p ∈ x10, s102 p = 0
 flat : x10.flatMap dq ++ dq ⟨f, t, mkS a0 (wk f)⟩ = a0.take (i + 1)
theorem JS.valid {a0 : List Int} {i : Nat} {x10 : List S45} {f t n : Int} (h : JS a0 i x10 f t n) (ha : a0.Pairwise (· < ·)) (hr : ∀ d ∈ a0, 0 ≤ d ∧ d ≤ 99999) : s102 ⟨f, t, mkS a0 (wk f)⟩ = 0 := by
 have h1 := hr f h.hf;have h2 := hr t (List.mem_of_getElem? h.ht);have h3 := h.hn;have h4 := h.h57;exact qsr h1.1 h.le h2.2 (by unfold wk at h3; omega) (qss ha h.hf) (qnl _ _ a0 rfl ha)
theorem qst {a0 : List Int} (ha : a0.Pairwise (· < ·)) {i : Nat} {x y : Int} (hx : a0[i]? = some x) (hy : a0[i + 1]? = some y) : x < y ∧ ∀ e, x < e → e < y → e ∉ a0 := by
 obtain ⟨h1, h1'⟩ := List.getElem?_eq_some_iff.1 hx;obtain ⟨h2, h2'⟩ := List.getElem?_eq_some_iff.1 hy;have hp := List.pairwise_iff_getElem.1 ha;refine ⟨by rw [← h1', ← h2']; exact hp i (i + 1) h1 h2 (by omega), fun e he1 he2 hm => ?_⟩;obtain ⟨j, hj, hje⟩ := List.getElem_of_mem hm
 rcases Nat.lt_trichotomy j i with h | h | h
 ·have := hp j i hj h1 h; omega
 ·subst h; omega
 ·rcases Nat.lt_or_eq_of_le (show i + 1 ≤ j by omega) with h | h
  ·have := hp (i + 1) j h2 hj h; omega
  ·subst h; omega
theorem qgy {a0 : List Int} {i : Nat} {y : Int} (hy : a0[i]? = some y) : a0.take (i + 1) = a0.take i ++ [y] := by
 rw [List.take_add_one, hy]; rfl
theorem qa4 (a0 : List Int) (ha : a0.Pairwise (· < ·)) (hr : ∀ d ∈ a0, 0 ≤ d ∧ d ≤ 99999) (hlen : a0.length ≤ 401) : ∀ (l : List Int) (i : Nat) (x10 : List S45) (f t n : Int), JS a0 i x10 f t n → i + 1 + l.length = a0.length → a0.drop (i + 1) = l →
  ∃ R, s112_l1 a0 l (i + 1) (x10 ++ [⟨f, t, mkS a0 (wk f)⟩]) n = some R ∧ (∀ p ∈ R, s102 p = 0) ∧ R.flatMap dq = a0 ∧ R.length ≤ a0.length
 | [], i, x10, f, t, n, hJ, hn, _ => by
  refine ⟨_, by rw [s112_l1], fun p hp => ?_, ?_, by have := hJ.h10; simp at hn ⊢; omega⟩
  ·rcases List.mem_append.1 hp with hp | hp
   ·exact hJ.ok p hp
   ·rw [List.mem_singleton.1 hp]; exact hJ.valid ha hr
  ·rw [List.flatMap_append];have := hJ.flat;rw [show a0.take (i + 1) = a0 by rw [List.take_of_length_le]; simp at hn; omega] at this;simp only [List.flatMap_cons, List.flatMap_nil, List.append_nil];exact this
 | y :: l, i, x10, f, t, n, hJ, hn, hd => by
  rw [List.length_cons] at hn
  have hi : i < a0.length := by omega
  have h10 := hJ.h10;have hx := hJ.ht
  have hyi : a0[i + 1]? = some y := by
   have : (a0.drop (i + 1))[0]? = some y := by rw [hd]; rfl
   simpa using this
  have hdn : a0.drop (i + 1 + 1) = l := by
   have : a0.drop (i + 1 + 1) = (a0.drop (i + 1)).drop 1 := by rw [List.drop_drop]
   rw [this, hd]; rfl
  have hym := List.mem_of_getElem? hyi;have hxm := List.mem_of_getElem? hx;have hyr := hr y hym;have hxr := hr t hxm;have hfr := hr f hJ.hf;obtain ⟨hlt, hgap⟩ := qst ha hx hyi
  have hw0 : 0 ≤ wk y ∧ wk y ≤ 20000 := by unfold wk; omega
  have hw1 : 0 ≤ wk t ∧ wk t ≤ 20000 := by unfold wk; omega
  have hwl : wk t ≤ wk y := by unfold wk; omega
  have hwf : wk f ≤ wk t := by have := hJ.le; unfold wk; omega
  have e0 : decide ((0 : Int) < (((i + 1 : Nat)) : Int)) = true := decide_eq_true (by omega)
  have ep : ixO a0 (IntKind.i64.wrap ((((i + 1 : Nat)) : Int) - 1)) = some t := by
   rw [wrap_i64 ⟨by omega, by omega⟩]
   have : (((i + 1 : Nat)) : Int) - 1 = ((i : Nat) : Int) := by omega
   rw [this]; exact qkw hx
  have hset : ∀ (q v : S45), ixO (x10 ++ [q]) (IntKind.i64.wrap ((List.length (x10 ++ [q]) : Int) - 1)) = some q ∧ List.set (x10 ++ [q]) (Int.toNat (IntKind.i64.wrap ((List.length (x10 ++ [q]) : Int) - 1))) v = x10 ++ [v] := fun q v => by
   have hl : (List.length (x10 ++ [q]) : Int) - 1 = (x10.length : Int) := by simp
   rw [hl];have hw : IntKind.i64.wrap (x10.length : Int) = (x10.length : Int) := wrap_i64 ⟨by omega, by omega⟩;rw [hw];exact ⟨qeo, xg (by simp)⟩
  -- the period goes on
  have goon : wk y ≤ wk t + 1 → mkS a0 (wk y) = mkS a0 (wk f) → wk y - wk f + 1 ≤ 57 → JS a0 (i + 1) x10 f y (wk y - wk f + 1) := fun hw hm h57 => by
   have hsame : ∀ w, wk f ≤ w → w ≤ wk y → mkS a0 w = mkS a0 (wk f) := fun w h1 h2 => by
    rcases Int.lt_or_le (wk t) w with h3 | h3
    ·rw [show w = wk y by omega]; exact hm
    ·exact hJ.same w h1 h3
   have hfin : ∀ e, t < e → e ≤ y → inM (mkS a0 (wk f)) e = inM (mkS a0 (wk e)) e := fun e h1 h2 => by
    rw [hsame (wk e) (by have := hJ.le; unfold wk at *; omega) (by unfold wk; omega)]
   refine ⟨by omega, hyi, hJ.hf, by have := hJ.le; omega, rfl, h57, hsame, hJ.ok, ?_⟩;rw [qgy hyi, ← hJ.flat, List.append_assoc]
   congr 1
   show dayL (mkS a0 (wk f)) (y + 1 - f).toNat f = dayL (mkS a0 (wk f)) (t + 1 - f).toNat f ++ [y];refine qnm (by have := hJ.le; omega) hlt (fun e h1 h2 => ?_) ?_
   ·rw [hfin e h1 (by omega)]
    cases hc : inM (mkS a0 (wk e)) e
    ·rfl
    ·exact absurd ((qcy ha e).1 hc) (hgap e h1 h2)
   ·rw [hfin y hlt (Int.le_refl _)];exact (qcy ha y).2 hym
  -- a new period begins
  have anew : JS a0 (i + 1) (x10 ++ [⟨f, t, mkS a0 (wk f)⟩]) y y 1 := by
   refine ⟨by simp; omega, hyi, hym, Int.le_refl _, by omega, by omega, fun w h1 h2 => by rw [show w = wk y by omega], fun p hp => ?_, ?_⟩
   ·rcases List.mem_append.1 hp with hp | hp
    ·exact hJ.ok p hp
    ·rw [List.mem_singleton.1 hp]; exact hJ.valid ha hr
   ·rw [qgy hyi, ← hJ.flat, List.flatMap_append]
    have e1 : dq ⟨y, y, mkS a0 (wk y)⟩ = [y] := by
     unfold dq
     have : (y + 1 - y).toNat = 1 := by omega
     simp only [this];rw [dayL, (qcy ha y).2 hym]; rfl
    rw [e1]; simp
  have ihn := qa4 a0 ha hr hlen l (i + 1) _ _ _ _ anew (by omega) hdn
  have hsn : wk y - wk f + 1 = n + (wk y - wk t) := by have := hJ.hn; omega
  rw [s112_l1, e0, cond_true, ep];simp only [bindO, Bool.true_and];rw [wt hxr, wt hyr, wrap_i64 (n := wk y - 1) ⟨by omega, by omega⟩, qe4 _ hr hlen, (hset _ default).1];simp only [bindO, s112_j1]
  by_cases hA : wk t = wk y
  ·rw [decide_eq_true hA, cond_true, (hset _ _).2];have hg := goon (by omega) (by rw [← hA]; exact hJ.same _ hwf (Int.le_refl _)) (by have := hJ.h57; omega);rw [show wk y - wk f + 1 = n by omega] at hg;exact qa4 a0 ha hr hlen l (i + 1) _ _ _ _ hg (by omega) hdn
  ·rw [decide_eq_false hA, cond_false]
   by_cases hB : wk t = wk y - 1
   ·rw [decide_eq_true hB];simp only [cond_true, Bool.true_and]
    by_cases hC : mkS a0 (wk f) = mkS a0 (wk y)
    ·rw [decide_eq_true hC, Bool.true_and]
     by_cases hD : n < 57
     ·rw [decide_eq_true hD, cond_true, (hset _ _).2, wrap_i64 (n := n + 1) ⟨by have := hJ.hn; omega, by omega⟩];have hg := goon (by omega) hC.symm (by omega);rw [show wk y - wk f + 1 = n + 1 by omega] at hg;exact qa4 a0 ha hr hlen l (i + 1) _ _ _ _ hg (by omega) hdn
     ·rw [decide_eq_false hD, cond_false];exact ihn
    ·rw [decide_eq_false hC, Bool.false_and, cond_false];exact ihn
   ·rw [decide_eq_false hB];simp only [cond_false, Bool.false_and, bindO];exact ihn
theorem qnn (a0 : List Int) (ha : a0.Pairwise (· < ·)) (hr : ∀ d ∈ a0, 0 ≤ d ∧ d ≤ 99999) (hlen : a0.length ≤ 401) : ∃ R, s112 a0 = some R ∧ (∀ p ∈ R, s102 p = 0) ∧ R.flatMap dq = a0 ∧ R.length ≤ a0.length := by
 unfold s112
 cases a0 with
 | nil => exact ⟨[], by rw [s112_l1], by simp, rfl, Nat.le_refl _⟩
 | cons y l =>
  have hy := hr y List.mem_cons_self
  have hJ : JS (y :: l) 0 [] y y 1 := by
   refine ⟨by simp, rfl, List.mem_cons_self, Int.le_refl _, by omega, by omega, fun w h1 h2 => by rw [show w = wk y by omega], by simp, ?_⟩
   have e1 : dq ⟨y, y, mkS (y :: l) (wk y)⟩ = [y] := by
    unfold dq
    have : (y + 1 - y).toNat = 1 := by omega
    simp only [this];rw [dayL, (qcy ha y).2 List.mem_cons_self]; rfl
   rw [e1]; rfl
  obtain ⟨R, h1, h2, h3⟩ := qa4 (y :: l) ha hr hlen l 0 [] y y 1 hJ (by simp; omega) rfl;refine ⟨R, ?_, h2, h3⟩;rw [s112_l1];have z : decide ((0 : Int) < (((0 : Nat)) : Int)) = false := rfl;rw [z];simp only [cond_false, Bool.false_and, bindO, s112_j1];rw [wt hy, qe4 _ hr hlen];exact h1
theorem qno {K V : Type} [DecidableEq K] (m : List (K × V)) (k j : K) (v : V) : mget (mset m k v) j = if k = j then some v else mget m j := by
 induction m with
 | nil => by_cases h : k = j <;> simp [mset, mget, h]
 | cons p m ih =>
  obtain ⟨a, b⟩ := p
  by_cases ha : a = k
  ·subst ha
   by_cases h : a = j <;> simp [mset, mget, h]
  ·by_cases h : a = j
   ·subst h;have hk : ¬ k = a := fun h => ha h.symm
    simp [mset, mget, ha, hk]
   ·simp [mset, mget, ha, h, ih]
theorem qky {K V : Type} [DecidableEq K] (m : List (K × V)) (k j : K) (v z : V) : mgetD (mset m k v) j z = if k = j then v else mgetD m j z := by
 unfold mgetD;rw [qno]
 by_cases h : k = j <;> simp [h]
def okI (a0 : S23) (u v : List S151) (i k : Int) : Bool := match u[i.toNat]?, v[k.toNat]? with
 | some a, some b => s142 a0 a b
 | _, _ => false
theorem qqp {a0 : S23} {u v : List S151} {i k : Int} {a b : S151} (h : u[i.toNat]? = some a) (h' : v[k.toNat]? = some b) : okI a0 u v i k = s142 a0 a b := by unfold okI; rw [h, h']
theorem qgz (rec1 : Nat → List S154 → List (Int × Bool) → Option (List S154)) (a0 : S23) (u v : List S151) (x : List S154) (m : List (Int × Bool)) (k6 : Nat) (i : Int) (hi : i ∈ idxs u.length) : ∀ (l : List Int) (k : Nat), (∀ j ∈ l, j ∈ idxs v.length) →
  s115_l2 rec1 a0 u v x m k6 i l k = match l.find? (fun j => !(mgetD m j false) && okI a0 u v i j) with
   | some j => rec1 (k6 + 1) (x ++ [⟨i, j⟩]) (mset m j true)
   | none => rec1 (k6 + 1) x m
 | [], k, _ => by rw [s115_l2]; rfl
 | j :: l, k, h => by
  obtain ⟨a, ha, ha'⟩ := wm hi;obtain ⟨b, hb, hb'⟩ := wm (h j List.mem_cons_self);have ih := qgz rec1 a0 u v x m k6 i hi l (k + 1) (fun z hz => h z (List.mem_cons_of_mem _ hz));rw [s115_l2, List.find?_cons, qqp ha' hb', ha, hb, ih]
  cases hm : mgetD m j false
  ·simp only [Bool.not_false, cond_true, bindO, Bool.true_and]
   cases hs : s142 a0 a b
   ·rfl
   ·rfl
  ·simp only [Bool.not_true, cond_false, bindO, Bool.false_and]
theorem qic {k : Nat} {j : Int} (h : j ∈ idxs k) : j ∈ idxs (k + 1) := by
 rw [qca]; exact List.mem_append_left _ h
theorem qe6 (k : Nat) : (k : Int) ∈ idxs (k + 1) := qax.2 ⟨by omega, by omega⟩
end Go.Sim
set_option maxRecDepth 10000
namespace Go.Sim
open Go.Proofs
def s44 (a0 : S23) (a1 : List S151) (a2 : List S151) : Option ((List S154) × Int) :=
 (bif decide ((s113 a0 a1 a2) ≠ 0) then some ([], (s113 a0 a1 a2)) else bindO (s115 a0 a1 a2) fun r1 => bindO (s114 r1) fun r2 => some (r2, 0))
def s45 (a0 : S23) (a1 : List S151) (a2 : List S151) : Option ((List Int) × Int) :=
 (bif decide ((s113 a0 a1 a2) ≠ 0) then some ([], (s113 a0 a1 a2)) else bindO (s115 a0 a1 a2) fun r1 => some ((s116 (List.length a1 : Int) (s117 r1 s118)), 0))
def s46 (a0 : S23) (a1 : List S151) (a2 : List S151) : Option ((List Int) × Int) :=
 (bif decide ((s113 a0 a1 a2) ≠ 0) then some ([], (s113 a0 a1 a2)) else bindO (s115 a0 a1 a2) fun r1 => some ((s116 (List.length a2 : Int) (s117 r1 s119)), 0))
def s47_j1 (rec1 : Nat → Int → Option (Bool × Int)) (a0 : S23) (k4 : Nat) (x9 : Int) : Option (Bool × Int) :=
 (bif decide (x9 = a0.Run) then some (true, 0) else rec1 (k4 + 1) x9)
def s47_l1 (a0 : S23) (a1 : List S151) (a2 : List S151) : List S154 → Nat → Int → Option (Bool × Int)
 | [], k4, x2 => some (false, 0)
 | y5 :: t6, k4, x2 => bindO (ixO a2 y5.Record) fun y7 => bindO (ixO a1 y5.Slot) fun y8 => (bif decide (a0.Off < max (IntKind.i64.wrap (y7.Moment - y8.Moment)) (IntKind.i64.wrap (0 - (IntKind.i64.wrap (y7.Moment - y8.Moment))))) then s47_j1 (fun k_ z0_ => s47_l1 a0 a1 a2 t6 k_ z0_) a0 k4 (IntKind.i64.wrap (x2 + 1)) else s47_j1 (fun k_ z0_ => s47_l1 a0 a1 a2 t6 k_ z0_) a0 k4 0)
def s47 (a0 : S23) (a1 : List S151) (a2 : List S151) : Option (Bool × Int) :=
 (bif decide ((s113 a0 a1 a2) ≠ 0) then some (false, (s113 a0 a1 a2)) else bindO (s115 a0 a1 a2) fun r1 => s47_l1 a0 a1 a2 r1 0 0)
end Go.Sim
set_option maxRecDepth 10000
namespace Go.Sim
open Go.Proofs
def s52_j1 (rec2 : Nat → (List S154) → Option (List S154)) (k9 : Nat) (x12 : List S154) : Option (List S154) :=
 rec2 (k9 + 1) x12
def s52_l2 (rec1 : Nat → (List S154) → Option (List S154)) (k4 : Nat) : List S154 → Nat → (List S154) → Option (List S154)
 | [], k9, x7 => rec1 (k4 + 1) x7
 | y10 :: t11, k9, x7 => (bif decide (y10.Slot = ((k4 : Nat) : Int)) then s52_j1 (fun k_ z0_ => s52_l2 rec1 k4 t11 k_ z0_) k9 (x7 ++ [y10]) else s52_j1 (fun k_ z0_ => s52_l2 rec1 k4 t11 k_ z0_) k9 x7)
def s52_l1 (r1 : List S154) : List S151 → Nat → (List S154) → Option (List S154)
 | [], k4, x2 => some x2
 | y5 :: t6, k4, x2 => s52_l2 (fun k_ z0_ => s52_l1 r1 t6 k_ z0_) k4 r1 0 x2
def s52 (a0 : S23) (a1 : List S151) (a2 : List S151) : Option (List S154) :=
 bindO (s120 a0 a1 a2) fun r1 => s52_l1 r1 a1 0 []
def s53_j1 (rec1 : Nat → (List Int) → Option (List Int)) (k4 : Nat) (x7 : List Int) : Option (List Int) :=
 rec1 (k4 + 1) x7
def s53_l2 (rec1 : Nat → (List Int) → Option (List Int)) (x2 : List Int) (k4 : Nat) : List S154 → Nat → Bool → Option (List Int)
 | [], k10, x8 => (bif !x8 then s53_j1 rec1 k4 (x2 ++ [((k4 : Nat) : Int)]) else s53_j1 rec1 k4 x2)
 | y11 :: t12, k10, x8 => s53_l2 rec1 x2 k4 t12 (k10 + 1) (x8 || (decide (y11.Slot = ((k4 : Nat) : Int))))
def s53_l1 (r1 : List S154) : List S151 → Nat → (List Int) → Option (List Int)
 | [], k4, x2 => some x2
 | y5 :: t6, k4, x2 => s53_l2 (fun k_ z0_ => s53_l1 r1 t6 k_ z0_) x2 k4 r1 0 false
def s53 (a0 : S23) (a1 : List S151) (a2 : List S151) : Option (List Int) :=
 bindO (s120 a0 a1 a2) fun r1 => s53_l1 r1 a1 0 []
def s54_j1 (rec1 : Nat → (List Int) → Option (List Int)) (k4 : Nat) (x7 : List Int) : Option (List Int) :=
 rec1 (k4 + 1) x7
def s54_l2 (rec1 : Nat → (List Int) → Option (List Int)) (x2 : List Int) (k4 : Nat) : List S154 → Nat → Bool → Option (List Int)
 | [], k10, x8 => (bif !x8 then s54_j1 rec1 k4 (x2 ++ [((k4 : Nat) : Int)]) else s54_j1 rec1 k4 x2)
 | y11 :: t12, k10, x8 => s54_l2 rec1 x2 k4 t12 (k10 + 1) (x8 || (decide (y11.Record = ((k4 : Nat) : Int))))
def s54_l1 (r1 : List S154) : List S151 → Nat → (List Int) → Option (List Int)
 | [], k4, x2 => some x2
 | y5 :: t6, k4, x2 => s54_l2 (fun k_ z0_ => s54_l1 r1 t6 k_ z0_) x2 k4 r1 0 false
def s54 (a0 : S23) (a1 : List S151) (a2 : List S151) : Option (List Int) :=
 bindO (s120 a0 a1 a2) fun r1 => s54_l1 r1 a2 0 []
def s55_j1 (rec1 : Nat → Int → Option Bool) (a0 : S23) (k4 : Nat) (x9 : Int) : Option Bool :=
 (bif decide (a0.Run ≤ x9) then some true else rec1 (k4 + 1) x9)
def s55_l1 (a0 : S23) (a1 : List S151) (a2 : List S151) : List S154 → Nat → Int → Option Bool
 | [], k4, x2 => some false
 | y5 :: t6, k4, x2 => bindO (ixO a2 y5.Record) fun y7 => bindO (ixO a1 y5.Slot) fun y8 => (bif decide (a0.Off < max (IntKind.i64.wrap (y7.Moment - y8.Moment)) (IntKind.i64.wrap (0 - (IntKind.i64.wrap (y7.Moment - y8.Moment))))) then s55_j1 (fun k_ z0_ => s55_l1 a0 a1 a2 t6 k_ z0_) a0 k4 (IntKind.i64.wrap (x2 + 1)) else s55_j1 (fun k_ z0_ => s55_l1 a0 a1 a2 t6 k_ z0_) a0 k4 0)
def s55 (a0 : S23) (a1 : List S151) (a2 : List S151) : Option Bool :=
 bindO (s120 a0 a1 a2) fun r1 => s55_l1 a0 a1 a2 r1 0 0
end Go.Sim
set_option maxRecDepth 10000
namespace Go.Sim
open Go.Proofs
noncomputable def s8 (a0 : S23) (a1 : List S151) (a2 : List S151) : Option Bool :=
 (bif (((!s16) || (!(s17 (s18 a0)))) || (!(s19 (s20 a1) 8))) || (!(s19 (s20 a2) 8)) then some s16 else bindO (s44 a0 a1 a2) fun r1 => bindO (s45 a0 a1 a2) fun r2 => bindO (s46 a0 a1 a2) fun r3 => bindO (s47 a0 a1 a2) fun r4 => (bif decide ((s48 a0 a1 a2) ≠ 0) then bindO (bif (decide ((List.length r1.1 : Int) = 0)) && (decide (r1.2 = (s48 a0 a1 a2))) then s49 r2.1 r2.2 (s48 a0 a1 a2) [] else some default) fun r5 => bindO (bif ((decide ((List.length r1.1 : Int) = 0)) && (decide (r1.2 = (s48 a0 a1 a2)))) && r5 then s49 r3.1 r3.2 (s48 a0 a1 a2) [] else some default) fun r6 => some ((((((decide ((List.length r1.1 : Int) = 0)) && (decide (r1.2 = (s48 a0 a1 a2)))) && r5) && r6) && (!r4.1)) && (decide (r4.2 = (s48 a0 a1 a2)))) else bindO (bif decide (r1.2 = 0) then s52 (s18 a0) (s20 a1) (s20 a2) else some default) fun r7 => bindO (bif decide (r1.2 = 0) then s50 (s51 r1.1) r7 else some default) fun r8 => bindO (bif (decide (r1.2 = 0)) && r8 then s53 (s18 a0) (s20 a1) (s20 a2) else some default) fun r9 => bindO (bif (decide (r1.2 = 0)) && r8 then s49 r2.1 r2.2 0 r9 else some default) fun r10 => bindO (bif ((decide (r1.2 = 0)) && r8) && r10 then s54 (s18 a0) (s20 a1) (s20 a2) else some default) fun r11 => bindO (bif ((decide (r1.2 = 0)) && r8) && r10 then s49 r3.1 r3.2 0 r11 else some default) fun r12 => bindO (bif ((((decide (r1.2 = 0)) && r8) && r10) && r12) && (decide (r4.2 = 0)) then s55 (s18 a0) (s20 a1) (s20 a2) else some default) fun r13 => some ((((((decide (r1.2 = 0)) && r8) && r10) && r12) && (decide (r4.2 = 0))) && (r4.1 == r13))))
section
variable {E : Env} {w0 : World} {M0 : Nat → Prop}
theorem MFits.get {w : World} {M : Nat → Prop} : ∀ {es : List (Value × G)} {l : List MapEntry} {j : Nat} {e : MapEntry}, MFits w M es l → l[j]? = some e → ∃ k g, es[j]? = some (k, g) ∧ e.key = k ∧ g.p w M e.val
 | [], [], _, _, _, h => by simp at h
 | (k, g) :: _, e' :: _, 0, e, h, he => by
  simp at he; subst he
  exact ⟨k, g, rfl, h.1.1, h.1.2⟩
 | _ :: _, _ :: _, j + 1, e, h, he => by
  obtain ⟨k, g, h1, h2⟩ := MFits.get h.2 (by simpa using he);exact ⟨k, g, by simpa using h1, h2⟩
 | [], _ :: _, _, _, h, _ => h.elim
 | _ :: _, [], _, _, h, _ => h.elim
theorem MFits.length {w : World} {M : Nat → Prop} : ∀ {es : List (Value × G)} {l : List MapEntry}, MFits w M es l → l.length = es.length
 | [], [], _ => rfl
 | (_, _) :: _, _ :: _, h => by simp [MFits.length h.2]
 | [], _ :: _, h => h.elim
 | _ :: _, [], h => h.elim
end
section
variable {α : Type}
def MOrd (m : List α) (sn : List Nat) (l : List α) : Prop := sn.Nodup ∧ l.map some = sn.reverse.map (fun j => m[j]?)
theorem MOrd.lt {m : List α} {sn : List Nat} {l : List α} (h : MOrd m sn l) {j : Nat} (hj : j ∈ sn) : j < m.length := by
 have h1 : m[j]? ∈ sn.reverse.map (fun j => m[j]?) := List.mem_map.2 ⟨j, List.mem_reverse.2 hj, rfl⟩;rw [← h.2] at h1;obtain ⟨x, _, hx⟩ := List.mem_map.1 h1;exact (List.getElem?_eq_some_iff.1 hx.symm).1
theorem nodup_sub_len {α : Type} [DecidableEq α] : ∀ {a b : List α}, a.Nodup → (∀ x ∈ a, x ∈ b) → a.length ≤ b.length
 | [], _, _, _ => Nat.zero_le _
 | x :: a, b, hn, hs => by
  obtain ⟨h1, h2⟩ := List.nodup_cons.1 hn;have hx := hs x List.mem_cons_self;have := nodup_sub_len (b := b.erase x) h2 fun y hy => (List.mem_erase_of_ne (fun e => h1 (by rw [← e]; exact hy))).2 (hs y (List.mem_cons_of_mem _ hy));rw [List.length_erase_of_mem hx] at this;have : 0 < b.length := List.length_pos_of_mem hx
  simp; omega
theorem MOrd.len {m : List α} {sn : List Nat} {l : List α} (h : MOrd m sn l) : l.length ≤ m.length := by
 have h1 : l.length = sn.length := by have := congrArg List.length h.2; simpa using this
 have := nodup_sub_len h.1 (b := List.range m.length) fun x hx => List.mem_range.2 (h.lt hx)
 simp at this
 omega
end
def gm (P : Int → Int → Bool) (ov : List Int) : List Int → List Int → List S154
 | [], _ => []
 | i :: r, T => match ov.find? (fun j => !decide (j ∈ T) && P i j) with
  | some j => ⟨i, j⟩ :: gm P ov r (j :: T)
  | none => gm P ov r T
section
variable {P : Int → Int → Bool} {ov : List Int}
theorem qe7 : ∀ (a : List Int) (T : List Int), ((gm P ov a T).map S154.Slot).Sublist a
 | [], _ => by simp [gm]
 | i :: a, T => by
  rw [gm]
  cases ov.find? (fun j => !decide (j ∈ T) && P i j) with
  | none => exact (qe7 a T).cons _
  | some j => exact (qe7 a (j :: T)).cons_cons _
end
section
variable {C : Type} {A B : Int} {su sv : Int → Int} {cu cv : Int → C} {P : Int → Int → Bool} {ou ov : List Int}
structure Win (A B : Int) (su sv : Int → Int) (cu cv : Int → C) (P : Int → Int → Bool) (ou ov : List Int) : Prop where
 p : ∀ i ∈ ou, ∀ k ∈ ov, P i k = true ↔ cu i = cv k ∧ su i - B ≤ sv k ∧ sv k ≤ su i + A
 u : ou.Pairwise (fun i j => su i ≤ su j)
 un : ou.Nodup
 v : ov.Pairwise (fun i j => sv i ≤ sv j)
end
theorem qe8 (f : S104 → Bool) (l : List S104) : s206 l f = l.any f := by
 have key : ∀ (l : List S104) (k : Nat), decide (0 ≤ s242_l1 f l k) = l.any f := by
  intro l
  induction l with
  | nil => intro k; rfl
  | cons y l ih =>
   intro k;rw [s242_l1, List.any_cons]
   cases h : f y
   ·rw [cond_false, ih]; simp
   ·rw [cond_true]; simp
 unfold s206 s242; exact key l 0
theorem qnp (a : S23) (s : S151) (l : List S104) : s177 a s l = s128 a s l := by
 unfold s177 s128;rw [qe8]
 have key : ∀ (l : List S104) (k : Nat), l.any (fun x0 => s207 x0 s (IntKind.i64.wrap (Int.tdiv s.Moment 1440)) a) = s128_l1 a s l k := by
  intro l
  induction l with
  | nil => intro k; rfl
  | cons y l ih =>
   intro k;rw [List.any_cons, s128_l1, ← ih (k + 1)]
   have : s207 y s (IntKind.i64.wrap (Int.tdiv s.Moment 1440)) a = (((decide (y.Kind = (⟨#[98, 97, 99, 107]⟩))) && (s179 y s)) && (decide (IntKind.i64.wrap (y.Told + a.Notice) ≤ IntKind.i64.wrap (Int.tdiv s.Moment 1440)))) := by
    unfold s207 s179 s208
    by_cases h : y.Kind = (⟨#[98, 97, 99, 107]⟩ : ByteArray)
    ·have h2 : ¬ (⟨#[98, 97, 99, 107]⟩ : ByteArray) = ⟨#[119, 101, 97, 116, 104, 101, 114]⟩ := by decide
     rw [h]
     simp [h2, Bool.and_assoc]
    ·simp [h]
   rw [this]
   cases (((decide (y.Kind = (⟨#[98, 97, 99, 107]⟩))) && (s179 y s)) && (decide (IntKind.i64.wrap (y.Told + a.Notice) ≤ IntKind.i64.wrap (Int.tdiv s.Moment 1440)))) <;> simp
 exact key l 0
theorem qkz (a : S23) (s : S151) (l : List S104) : s178 a s l = s129 a s l := by
 unfold s178 s129;rw [qe8]
 have key : ∀ (l : List S104) (k : Nat), l.any (fun x0 => s209 x0 (IntKind.i64.wrap (Int.tdiv s.Moment 1440)) s a) = s129_l1 a s l k := by
  intro l
  induction l with
  | nil => intro k; rfl
  | cons y l ih =>
   intro k;rw [List.any_cons, s129_l1, ← ih (k + 1)]
   have : s209 y (IntKind.i64.wrap (Int.tdiv s.Moment 1440)) s a = ((s179 y s) && ((decide (y.Kind = (⟨#[119, 101, 97, 116, 104, 101, 114]⟩))) || ((decide (y.Kind = (⟨#[99, 97, 110, 99, 101, 108]⟩))) && (s92 a.Causes y.Cause)))) := by
    unfold s209 s179 s208;rw [qhv]
    by_cases h : y.Kind = (⟨#[119, 101, 97, 116, 104, 101, 114]⟩ : ByteArray)
    ·simp [h]
    ·by_cases h2 : y.Name = s.Name
     ·simp [h, h2]
     ·simp [h, h2]
   rw [this]
   cases ((s179 y s) && ((decide (y.Kind = (⟨#[119, 101, 97, 116, 104, 101, 114]⟩))) || ((decide (y.Kind = (⟨#[99, 97, 110, 99, 101, 108]⟩))) && (s92 a.Causes y.Cause)))) <;> simp
 exact key l 0
theorem qe9 (a0 : S23) (u v : List S151) : ∀ (rest : List Int) (k : Nat) (x : List S154) (m : List (Int × Bool)) (T : List Int), (∀ i ∈ rest, i ∈ idxs u.length) → (∀ j, mgetD m j false = decide (j ∈ T)) →
  s115_l1 a0 u v (ordI v) rest k x m = some (x ++ gm (okI a0 u v) (ordI v) rest T)
 | [], k, x, m, T, _, _ => by simp [s115_l1, gm]
 | i :: rest, k, x, m, T, hr, hm => by
  have hr' : ∀ j ∈ rest, j ∈ idxs u.length := fun j hj => hr j (List.mem_cons_of_mem _ hj);rw [s115_l1, qgz (fun k_ z0_ z1_ => s115_l1 a0 u v (ordI v) rest k_ z0_ z1_) a0 u v x m k i (hr i List.mem_cons_self) (ordI v) 0 (fun j hj => qeu.1 hj), gm]
  have hfun : (fun j => !(mgetD m j false) && okI a0 u v i j) = fun j => !decide (j ∈ T) && okI a0 u v i j := funext fun j => by rw [hm]
  rw [hfun]
  cases (ordI v).find? (fun j => !decide (j ∈ T) && okI a0 u v i j) with
  | none => exact qe9 a0 u v rest (k + 1) x m T hr' hm
  | some j =>
   simp only
   rw [qe9 a0 u v rest (k + 1) _ _ (j :: T) hr' fun z => by
    rw [qky, hm]
    by_cases hz : j = z
    ·subst hz; simp
    ·have : ¬ z = j := fun e => hz e.symm
     simp [hz, this]]
   simp
def mat (a0 : S23) (u v : List S151) : List S154 := gm (okI a0 u v) (ordI v) (ordI u) []
theorem qsu (a0 : S23) (u v : List S151) : s115 a0 u v = some (mat a0 u v) := by
 unfold s115 mat;rw [qmh, qmh];simp only [bindO];rw [qe9 a0 u v (ordI u) 0 [] [] [] (fun i hi => qeu.1 hi) (fun j => by simp [mgetD, mget])]
 rfl
theorem qph {a0 : S23} {u v : List S151} {e : S154} (h : e ∈ mat a0 u v) : e.Slot ∈ idxs u.length :=
 qeu.1 ((qe7 (P := okI a0 u v) (ov := ordI v) (ordI u) []).subset (List.mem_map_of_mem h))
def atF (g : S151 → Bool) : List S151 → Nat → List Int
 | [], _ => []
 | s :: l, k => bif g s then atF g l (k + 1) else (k : Int) :: atF g l (k + 1)
def base (g x : S151 → Bool) (s : S151) : Int := bif g s then 0 else bif x s then 2 else 3
def setF (at_ : List Int) (M : List S154) (cs : List Int) : List Int := M.foldl (fun cs e => match at_[e.Slot.toNat]? with | some p => cs.set p.toNat 1 | none => cs) cs
def stF (a0 : S23) (g x : S151 → Bool) (v a1 : List S151) : List Int := setF (atF g a1 0) (mat a0 (a1.filter (fun s => !g s)) v) (a1.map (base g x))
theorem qg0 (at_ : List Int) (n : Nat) (hat : ∀ p ∈ at_, p ∈ idxs n) : ∀ (l : List S154) (k : Nat) (cs : List Int), cs.length = n → (∀ e ∈ l, e.Slot ∈ idxs at_.length) → s124_l2 at_ l k cs = some (setF at_ l cs)
 | [], k, cs, hn, _ => rfl
 | e :: l, k, cs, hn, hl => by
  obtain ⟨p, hp, hp'⟩ := wm (hl e List.mem_cons_self);have hpn := hat p (List.mem_of_getElem? hp');obtain ⟨c, h1, _⟩ := wm (l := cs) (by rw [hn]; exact hpn);rw [s124_l2, hp];simp only [bindO, h1];rw [qg0 at_ n hat l (k + 1) _ (by rw [List.length_set]; exact hn) fun z hz => hl z (List.mem_cons_of_mem _ hz)];unfold setF;rw [List.foldl_cons, hp']
theorem w9 (a0 : S23) (a2 : List S104) (n : Nat) : ∀ (l : List S151) (k : Nat) (due : List S151) (at_ cs : List Int), k = cs.length → k + l.length = n → due.length = at_.length → (∀ p ∈ at_, p ∈ idxs k) →
  s124_l1 a0 a2 l k due at_ (cs ++ List.replicate l.length 0) = some (setF (at_ ++ atF (fun s => s128 a0 s a2) l k) (mat a0 (due ++ l.filter (fun s => !s128 a0 s a2)) (flyL a2)) (cs ++ l.map (base (fun s => s128 a0 s a2) (fun s => s129 a0 s a2))))
 | [], k, due, at_, cs, hk, hn, hd, hp => by
  have hk0 : k = n := by simpa using hn
  rw [s124_l1, ql1];simp only [bindO, qsu, atF, List.filter_nil, List.append_nil, List.map_nil]
  have := qg0 at_ n (by rw [← hk0]; exact hp) (mat a0 due (flyL a2)) 0 cs (by omega) fun e he => by rw [← hd]; exact qph he
  simpa using this
 | y :: l, k, due, at_, cs, hk, hn, hd, hp => by
  have hix : ∀ v : Int, List.set (cs ++ List.replicate (y :: l).length (0 : Int)) (Int.toNat ((k : Nat) : Int)) v = (cs ++ [v]) ++ List.replicate l.length 0 := fun v => by
   rw [List.length_cons, List.replicate_succ, xg (by rw [hk]; simp)]
   simp
  have hi : ixO (cs ++ List.replicate (y :: l).length (0 : Int)) ((k : Nat) : Int) = some 0 := by
   rw [List.length_cons, List.replicate_succ]; exact xe (by rw [hk])
  have hn' : k + 1 + l.length = n := by simp at hn; omega
  have hp1 : ∀ p ∈ at_, p ∈ idxs (k + 1) := fun p h => qic (hp p h)
  have hp2 : ∀ p ∈ at_ ++ [((k : Nat) : Int)], p ∈ idxs (k + 1) := fun p h => by
   rcases List.mem_append.1 h with h | h
   ·exact hp1 p h
   ·rw [List.mem_singleton.1 h]; exact qe6 k
  rw [s124_l1, qnp, qkz, hi];simp only [bindO, hix, s124_j1, s124_j2];rw [atF, List.filter_cons, List.map_cons];have hb : base (fun s => s128 a0 s a2) (fun s => s129 a0 s a2) y = bif s128 a0 y a2 then 0 else bif s129 a0 y a2 then 2 else 3 := rfl;rw [hb]
  cases s128 a0 y a2
  ·simp only [cond_false]
   cases s129 a0 y a2
   ·simp only [cond_false];rw [w9 a0 a2 n l (k + 1) (due ++ [y]) (at_ ++ [((k : Nat) : Int)]) (cs ++ [3]) (by simp [hk]) hn' (by simp [hd]) hp2]
    simp
   ·simp only [cond_true];rw [w9 a0 a2 n l (k + 1) (due ++ [y]) (at_ ++ [((k : Nat) : Int)]) (cs ++ [2]) (by simp [hk]) hn' (by simp [hd]) hp2]
    simp
  ·simp only [cond_true];rw [w9 a0 a2 n l (k + 1) due at_ (cs ++ [0]) (by simp [hk]) hn' hd hp1]
   simp
theorem qsv (a0 : S23) (a1 : List S151) (a2 : List S104) : s124 a0 a1 a2 = some (stF a0 (fun s => s128 a0 s a2) (fun s => s129 a0 s a2) (flyL a2) a1) := by
 have := w9 a0 a2 a1.length a1 0 [] [] [] rfl (by simp) rfl (by simp)
 simpa [s124, stF] using this
def flownI (at_ : List Int) (M : List S154) : List Nat := M.filterMap (fun e => (at_[e.Slot.toNat]?).map Int.toNat)
theorem qjz (at_ : List Int) : ∀ (M : List S154) (cs : List Int), (setF at_ M cs).length = cs.length
 | [], _ => rfl
 | e :: M, cs => by
  unfold setF;rw [List.foldl_cons];have := qjz at_ M (match at_[e.Slot.toNat]? with | some p => cs.set p.toNat 1 | none => cs);unfold setF at this;rw [this]
  cases at_[e.Slot.toNat]? <;> simp
theorem qbx (at_ : List Int) : ∀ (M : List S154) (cs : List Int) (i : Nat) (c : Int), cs[i]? = some c → (setF at_ M cs)[i]? = some (if i ∈ flownI at_ M then 1 else c)
 | [], cs, i, c, h => by simpa [setF, flownI] using h
 | e :: M, cs, i, c, h => by
  have hs : setF at_ (e :: M) cs = setF at_ M (match at_[e.Slot.toNat]? with | some p => cs.set p.toNat 1 | none => cs) := rfl;rw [hs]
  cases hp : at_[e.Slot.toNat]? with
  | none =>
   simp only
   rw [qbx at_ M cs i c h]
   simp [flownI, hp]
  | some p =>
   simp only
   have hlt := (List.getElem?_eq_some_iff.1 h).1
   by_cases hi : p.toNat = i
   ·subst hi;rw [qbx at_ M _ p.toNat 1 (by simp [hlt])]
    simp [flownI, hp]
   ·rw [qbx at_ M _ i c (by rw [List.getElem?_set_ne hi]; exact h)];have : ¬ i = p.toNat := fun e => hi e.symm
    simp [flownI, hp, this]
theorem qsw (a0 : S23) (g x : S151 → Bool) (v a1 : List S151) : (stF a0 g x v a1).length = a1.length := by unfold stF; rw [qjz, List.length_map]
theorem qsx {a0 : S23} {g x : S151 → Bool} {v a1 : List S151} {i : Nat} {s : S151} (h : a1[i]? = some s) :
  (stF a0 g x v a1)[i]? = some (if i ∈ flownI (atF g a1 0) (mat a0 (a1.filter (fun s => !g s)) v) then 1 else base g x s) := by
 unfold stF;exact qbx _ _ _ _ _ (by rw [List.getElem?_map, h]; rfl)
theorem qsy (n : Int) : sun n % 7 = 1 := by unfold sun; omega
theorem qnq (s : S67) : beg s % 7 = 1 := by
 unfold beg
 split <;> exact qsy _
theorem qsz (own s : S67) (d : Int) : (eqv own s d - d) % 7 = 0 := by
 have a := qnq own;have b := qnq s;unfold eqv; omega
theorem qu5 {own s : S67} {d e : Int} (h : d < e) : eqv own s d < eqv own s e := by unfold eqv; omega
theorem qg1 (own s : S67) : ∀ (l : List Int), l.Pairwise (· < ·) → ∃ m, m ≤ l.length ∧ eqvL own s l = (l.take m).map (eqv own s) ∧ (∀ d, l[m]? = some d → nxt s ≤ eqv own s d) ∧ (∀ d ∈ l.take m, eqv own s d < nxt s)
 | [], _ => ⟨0, Nat.le_refl _, rfl, by simp, by simp⟩
 | d :: l, h => by
  have hc := List.pairwise_cons.1 h
  by_cases hd : eqv own s d < nxt s
  ·obtain ⟨m, h1, h2, h3, h4⟩ := qg1 own s l hc.2;refine ⟨m + 1, by simp; omega, ?_, by simpa using h3, ?_⟩
   ·unfold eqvL at h2 ⊢;rw [List.map_cons, List.filter_cons, if_pos (by simpa using hd), h2]; rfl
   ·intro e he;rw [List.take_succ_cons] at he
    rcases List.mem_cons.1 he with rfl | he
    ·exact hd
    ·exact h4 e he
  ·refine ⟨0, Nat.zero_le _, ?_, ?_, by simp⟩
   ·unfold eqvL;rw [List.take_zero, List.map_nil, List.filter_eq_nil_iff];intro v hv;obtain ⟨e, he, rfl⟩ := List.mem_map.1 hv
    rcases List.mem_cons.1 he with rfl | he
    ·simpa using hd
    ·have := qu5 (own := own) (s := s) (hc.1 e he)
     simp; omega
   ·intro e he
    have : e = d := by simpa using he.symm
    subst this; omega
theorem qnr {P : Int → Int → Bool} {n : Nat} (hP : ∀ i ∈ idxs n, ∀ j ∈ idxs n, P i j = decide (i = j)) : ∀ (r : List Int) (T : List Int), r.Nodup → (∀ i ∈ r, i ∈ idxs n) → (∀ i ∈ r, i ∉ T) → gm P (idxs n) r T = r.map (fun i => ⟨i, i⟩)
 | [], _, _, _, _ => rfl
 | i :: r, T, hn, hm, hT => by
  have hc := List.nodup_cons.1 hn;have hi := hm i List.mem_cons_self
  have hf : (idxs n).find? (fun j => !decide (j ∈ T) && P i j) = some i := by
   have hu : ∀ j ∈ idxs n, (!decide (j ∈ T) && P i j) = true → j = i := fun j hj h => by
    rw [hP i hi j hj, Bool.and_eq_true] at h;exact (of_decide_eq_true h.2).symm
   cases hq : (idxs n).find? (fun j => !decide (j ∈ T) && P i j) with
   | none =>
    have := List.find?_eq_none.1 hq i hi;rw [hP i hi i hi, decide_eq_false (hT i List.mem_cons_self), decide_eq_true rfl] at this;exact absurd rfl this
   | some j =>
    have h1 := List.find?_some hq;rw [hu j (List.mem_of_find?_eq_some hq) h1]
  rw [gm, hf]
  simp only
  rw [qnr hP r (i :: T) hc.2 (fun j hj => hm j (List.mem_cons_of_mem _ hj)) (fun j hj hjT => by
   rcases List.mem_cons.1 hjT with rfl | hjT
   ·exact hc.1 hj
   ·exact hT j (List.mem_cons_of_mem _ hj) hjT)]
  rfl
theorem qs0 {l : List S151} (h : l.Pairwise (fun a b => a.Moment ≤ b.Moment)) : ordI l = idxs l.length := by
 refine (qhy (List.Perm.refl _) ?_).symm;refine List.pairwise_iff_getElem.2 fun i j hi hj hij => ?_
 have hii : (idxs l.length)[i] = (i : Int) := by simp [idxs]
 have hjj : (idxs l.length)[j] = (j : Int) := by simp [idxs]
 have hi' : i < l.length := by simpa [xu] using hi
 have hj' : j < l.length := by simpa [xu] using hj
 rw [hii, hjj];have m1 : momI l (i : Int) = l[i].Moment := qet (by simp [List.getElem?_eq_getElem hi']);have m2 : momI l (j : Int) = l[j].Moment := qet (by simp [List.getElem?_eq_getElem hj']);have := List.pairwise_iff_getElem.1 h i j hi' hj' hij;unfold RelM
 omega
theorem qs1 (l : List S151) : ∀ (k : Nat), atF (fun _ => false) l k = (List.range l.length).map (fun (i : Nat) => ((k + i : Nat) : Int)) := by
 induction l with
 | nil => intro k; rfl
 | cons s l ih =>
  intro k;rw [atF, cond_false, ih, List.length_cons, List.range_succ_eq_map, List.map_cons, List.map_map]
  congr 1
  refine List.map_congr_left fun i _ => ?_;show ((k + 1 + i : Nat) : Int) = ((k + (i + 1) : Nat) : Int)
  omega
theorem qj0 {p : S45} (h : s102 p = 0) : s69 p = (s104 p, 0) := by
 have e := qau h;unfold s69 at e ⊢;rw [decide_eq_false (by simpa using h), cond_false] at e ⊢;exact Prod.ext e rfl
theorem qid {p : S45} (h : s102 p = 0) : s104 p = dayP p := xv p h
theorem qqq {a0 : S45} {a1 : S67} (h1 : ¬ s40 a0 ≠ 0) (h2 : ¬ 60 < IntKind.i64.wrap (a0.fTo - a0.fFrom)) (h3 : ¬ s41 a1 ≠ 0) : s102 a0 = 0 ∧ (s69 a0).1.length ≤ 61 ∧ okS a1 := by
 have hp : s102 a0 = 0 := by rw [qmf]; exact Decidable.not_not.1 h1
 have hs : okS a1 := qu3 (by rw [qgt]; exact Decidable.not_not.1 h3);refine ⟨hp, ?_, hs⟩;obtain ⟨q1, q2, q3, q4, _, _⟩ := period_ok _ hp;rw [wrap_i64 (n := a0.fTo - a0.fFrom) ⟨by omega, by omega⟩] at h2;rw [qj0 hp, qid hp];have := qao a0.Days (a0.fTo + 1 - a0.fFrom).toNat a0.fFrom;show (dayL _ _ _).length ≤ 61
 omega
theorem qu6 (p : S45) : (s69 p).1.length ≤ 401 := by
 by_cases h : s102 p = 0
 ·exact qi4 h
 ·unfold s69;rw [decide_eq_true h];exact Nat.zero_le _
theorem qs2 {x : List Int} {k n : Nat} {p : S45} (h : x.length ≤ k * 401) (hk : k ≤ n) (hn : n ≤ 401) : (x.length + (s69 p).1.length) * (7 + 1) ≤ 140737488355328 := by
 have := qu6 p;have : k * 401 ≤ 401 * 401 := Nat.mul_le_mul_right 401 (by omega)
 omega
theorem qpi {x : List Int} {k : Nat} {p : S45} (h : x.length ≤ k * 401) : (x ++ (s69 p).1).length ≤ (k + 1) * 401 := by
 have := qu6 p;rw [List.length_append, Nat.add_mul]; omega
def noteL (d : Int) : S104 := S104.mk (⟨#[102, 108, 121]⟩) (⟨#[120]⟩) (IntKind.i64.wrap ((IntKind.i64.wrap (1440 * d)) + 5)) (⟨#[65]⟩) 0 0 ByteArray.empty 0
theorem qns {x : List S104} {l : List Int} {k : Nat} {d : Int} (h : x = List.map noteL (List.take k l)) (hx : l[k]? = some d) : x ++ [noteL d] = List.map noteL (List.take (k + 1) l) := by
 rw [List.take_add_one, hx, h, List.map_append]; rfl
theorem qpj {x : List S104} {l : List Int} {k : Nat} (h : x = List.map noteL (List.take k l)) (hl : l.length ≤ 61) : (x.length + 1) * (95 + 1) ≤ 140737488355328 := by
 have : x.length ≤ 61 := by rw [h, List.length_map, List.length_take]; omega
 omega
theorem car1 {a0 : S45} {a1 : S67} (hp : s102 a0 = 0) (hs : okS a1) : ∀ (l P : List Int) (k : Nat) (x2 : Int) (x3 : ByteArray), P ++ l = s104 a0 → k = P.length →
  (∀ d ∈ P, s158 d = some (⟨x2, x3⟩, 0) ∧ okS ⟨x2, x3⟩ ∧ beg ⟨x2, x3⟩ ≤ d) →
  (∃ e, (e = 30 ∨ e = 13) ∧ s104 a0 ≠ [] ∧ s108_l1 a0 a1 l k x2 x3 = some ([], e)) ∨
  (∃ own R, okS own ∧ (∀ d ∈ s104 a0, beg own ≤ d) ∧ s108_l1 a0 a1 l k x2 x3 = some (R, 0) ∧ s112 (eqvL own a1 (s104 a0)) = some R)
 | [], P, k, x2, x3, hP, hk, h => by
  rw [s108_l1, qau hp]
  have hP' : P = s104 a0 := by simpa using hP
  cases hc : (decide (0 < (List.length (s104 a0) : Int))) && (!decide (x3 = a1.Kind))
  ·rw [cond_false]
   right
   cases hd : s104 a0 with
   | nil =>
    obtain ⟨R, g1, g2⟩ := qqo [] List.Pairwise.nil (by simp) (by simp);refine ⟨a1, R, hs, by simp, ?_, g2⟩;rw [s108_l2, g1]; rfl
   | cons d0 l0 =>
    have hm : d0 ∈ P := by rw [hP', hd]; exact List.mem_cons_self
    have ho := (h d0 hm).2.1
    have hkind : x3 = a1.Kind := by
     rw [hd] at hc;simp only [List.length_cons] at hc;rw [decide_eq_true (by omega), Bool.true_and] at hc
     simpa using hc
    have hall : ∀ d ∈ s104 a0, beg ⟨x2, x3⟩ ≤ d := fun d hd' => (h d (by rw [hP']; exact hd')).2.2;have key := quy (own := ⟨x2, x3⟩) hs ho hkind (s104 a0) 0 0 [] (fun d hd' => ⟨(h d (by rw [hP']; exact hd')).1, (vo hp).2 d hd'⟩);have bs := xz hs
    obtain ⟨R, g1, g2⟩ := qqo (eqvL ⟨x2, x3⟩ a1 (s104 a0)) (by
     unfold eqvL;refine List.Pairwise.filter _ (List.pairwise_map.2 ?_);rw [xv a0 hp]
     exact (xf _ _ _).imp fun h => by unfold eqv; omega) (fun v hv => by
     obtain ⟨hv1, hv2⟩ := List.mem_filter.1 hv;obtain ⟨d, hd1, rfl⟩ := List.mem_map.1 hv1;have := hall d hd1
     have hv2 : eqv ⟨x2, x3⟩ a1 d < nxt a1 := by simpa using hv2
     unfold eqv at *
     omega) (by
     have := (vo hp).1;have h9 := List.length_filter_le (fun v => decide (v < nxt a1)) ((s104 a0).map (eqv ⟨x2, x3⟩ a1));rw [List.length_map] at h9;unfold eqvL
     omega)
    refine ⟨⟨x2, x3⟩, R, ho, by rw [← hd]; exact hall, ?_, by rw [← hd]; exact g2⟩;rw [← hd, key.1, List.nil_append, g1]
    rfl
  ·rw [cond_true]
   left
   refine ⟨13, .inr rfl, ?_, rfl⟩;intro e;rw [e] at hc
   simp at hc
 | y :: l, P, k, x2, x3, hP, hk, h => by
  have hy : y ∈ s104 a0 := by rw [← hP]; simp
  have hne : s104 a0 ≠ [] := List.ne_nil_of_mem hy;obtain ⟨y0, y1⟩ := (vo hp).2 y hy;rw [s108_l1]
  rcases qnd y0 y1 with ⟨s, g1, g2, g3, g4, g5⟩ | ⟨⟨s, g1⟩, s', g2⟩
  ·rw [g1];simp only [bindO];rw [decide_eq_false (by show ¬ (0 : Int) ≠ 0; decide), Bool.false_or]
   cases hc : (decide (0 < ((k : Nat) : Int))) && (!(eqAnd [decide (s.Year = x2), decide (s.Kind = x3)]))
   ·rw [cond_false];refine car1 hp hs l (P ++ [y]) (k + 1) s.Year s.Kind (by rw [← hP]; simp) (by simp [hk]) fun d hd => ?_
    rcases List.mem_append.1 hd with hd | hd
    ·have hk0 : 0 < P.length := List.length_pos_of_mem hd;rw [decide_eq_true (by omega), Bool.true_and] at hc
     have hc : s.Year = x2 ∧ s.Kind = x3 := by simpa [eqAnd] using hc
     have := h d hd;rw [← hc.1, ← hc.2] at this;exact this
    ·rw [List.mem_singleton.1 hd];exact ⟨g1, g3, g4⟩
   ·rw [cond_true];exact .inl ⟨30, .inl rfl, hne, rfl⟩
  ·rw [g1];simp only [bindO];rw [decide_eq_true (by show (30 : Int) ≠ 0; decide), Bool.true_or, cond_true];exact .inl ⟨30, .inl rfl, hne, rfl⟩
theorem qj1 {a0 : S45} {a1 : S67} (hp : s102 a0 = 0) (hs : okS a1) :
  (∃ e, (e = 30 ∨ e = 13) ∧ s104 a0 ≠ [] ∧ s108 a0 a1 = some ([], e)) ∨
  (∃ own R, okS own ∧ s108 a0 a1 = some (R, 0) ∧ s112 (eqvL own a1 (s104 a0)) = some R ∧ (∀ p ∈ R, s102 p = 0) ∧ R.flatMap dq = eqvL own a1 (s104 a0) ∧ R.length ≤ 401 ∧ (∀ d ∈ s104 a0, beg own ≤ d)) := by
 have h := car1 hp hs (s104 a0) [] 0 0 ByteArray.empty rfl rfl (by simp)
 have e : s108 a0 a1 = s108_l1 a0 a1 (s104 a0) 0 0 ByteArray.empty := by unfold s108; rw [qau hp]
 rw [e]
 rcases h with h | ⟨own, R, h1, h2, h3, h4⟩
 ·exact .inl h
 ·right
  have bs := xz hs
  have asc : (s104 a0).Pairwise (· < ·) := by rw [xv a0 hp]; exact xf _ _ _
  have hl : (eqvL own a1 (s104 a0)).length ≤ 401 := by
   have := (vo hp).1;have h9 := List.length_filter_le (fun v => decide (v < nxt a1)) ((s104 a0).map (eqv own a1));rw [List.length_map] at h9;unfold eqvL
   omega
  obtain ⟨R', g1, g2, g3, g4⟩ := qnn (eqvL own a1 (s104 a0)) (by
   unfold eqvL
   exact List.Pairwise.filter _ (List.pairwise_map.2 (asc.imp fun h => by unfold eqv; omega))) (fun v hv => by
   obtain ⟨hv1, hv2⟩ := List.mem_filter.1 hv;obtain ⟨d, hd1, rfl⟩ := List.mem_map.1 hv1;have := h2 d hd1
   have hv2 : eqv own a1 d < nxt a1 := by simpa using hv2
   unfold eqv at *
   omega) hl
  rw [h4] at g1
  cases g1
  exact ⟨own, R, h1, h3, h4, g2, g3, by omega, h2⟩
theorem qfa {a0 : S45} {a1 : S67} {r : List S45 × Int} (hp : s102 a0 = 0) (hs : okS a1) (h : s108 a0 a1 = some r) : s39 a0 a1 = some r := by
 have e : s84 [s102 a0, s107 a1] = 0 := by
  rw [hp, qe3 hs]; rfl
 unfold s39;rw [e, decide_eq_false (by decide), cond_false, h]
 rfl
theorem qwo {a0 : S45} {a1 : S67} {r : List S45 × Int} (hp : s102 a0 = 0) (hs : okS a1) (h : s39 a0 a1 = some r) : r.1.length ≤ 401 := by
 rcases qj1 hp hs with ⟨e, _, _, h1⟩ | ⟨own, R, _, h1, _, _, _, h2, _⟩
 ·rw [qfa hp hs h1] at h
  cases h
  exact Nat.zero_le _
 ·rw [qfa hp hs h1] at h
  cases h
  exact h2
theorem qby {d : Int} (h : 0 ≤ d ∧ d ≤ 99999) : IntKind.i64.wrap ((IntKind.i64.wrap (1440 * d)) + 5) = 1440 * d + 5 := by
 rw [wrap_i64 (n := 1440 * d) ⟨by omega, by omega⟩, wrap_i64 ⟨by omega, by omega⟩]
theorem qu7 (l : List Int) : s170 (s171 (l.map noteL) s172) s173 = l.map (fun d => (⟨⟨#[120]⟩, IntKind.i64.wrap ((IntKind.i64.wrap (1440 * d)) + 5), ⟨#[65]⟩⟩ : S151)) := by
 rw [qer, qes]
 have : (l.map noteL).filter s172 = l.map noteL := List.filter_eq_self.2 fun n hn => by
  obtain ⟨d, _, rfl⟩ := List.mem_map.1 hn
  rfl
 rw [this, List.map_map]
 rfl
theorem qu8 {l : List Int} (ha : l.Pairwise (· < ·)) (hr : ∀ d ∈ l, 0 ≤ d ∧ d ≤ 99999) : FlyUp (l.map noteL) := by
 unfold FlyUp;rw [qu7];refine ⟨fun x _ y _ => ⟨_, rfl⟩, fun i j x y r hij hi hj h => ?_⟩;have h : some (s175 y x) = some r := h
 cases h
 rw [List.getElem?_map] at hi hj
 cases hd : l[i]? with
 | none => rw [hd] at hi; cases hi
 | some d =>
  cases he : l[j]? with
  | none => rw [he] at hj; cases hj
  | some e =>
   rw [hd] at hi;rw [he] at hj
   cases hi
   cases hj
   have hlt : d < e := by
    obtain ⟨h1, h1'⟩ := List.getElem?_eq_some_iff.1 hd;obtain ⟨h2, h2'⟩ := List.getElem?_eq_some_iff.1 he;rw [← h1', ← h2'];exact List.pairwise_iff_getElem.1 ha i j h1 h2 hij
   have hdr := hr d (List.mem_of_getElem? hd);have her := hr e (List.mem_of_getElem? he);have hq := qmj (⟨⟨#[120]⟩, IntKind.i64.wrap ((IntKind.i64.wrap (1440 * e)) + 5), ⟨#[65]⟩⟩ : S151) (⟨⟨#[120]⟩, IntKind.i64.wrap ((IntKind.i64.wrap (1440 * d)) + 5), ⟨#[65]⟩⟩ : S151)
   have hs : s127 (⟨⟨#[120]⟩, IntKind.i64.wrap ((IntKind.i64.wrap (1440 * d)) + 5), ⟨#[65]⟩⟩ : S151) (⟨⟨#[120]⟩, IntKind.i64.wrap ((IntKind.i64.wrap (1440 * e)) + 5), ⟨#[65]⟩⟩ : S151) = true := by
    rw [vc]
    left
    show IntKind.i64.wrap _ < IntKind.i64.wrap _;rw [qby hdr, qby her]
    omega
   rw [hs] at hq;exact Int.not_lt.1 (of_decide_eq_false hq)
def carQ (p : S45) : S115 := S115.mk (⟨#[120]⟩) ByteArray.empty (⟨#[65]⟩) ByteArray.empty ByteArray.empty ByteArray.empty (S45.mk p.fFrom p.fTo p.Days) 5 0 0 0
theorem qk0 {a0 : S45} {x : List S104} {k : Nat} {P : Prop} (hp : s102 a0 = 0) (hd : (s69 a0).1.length ≤ 61) (h : x = List.map noteL (List.take k (s69 a0).1)) (hk : (s69 a0).1.length ≤ k) : P → (∀ q ∈ [carQ a0], RqOk q) ∧ [carQ a0].length ≤ 64 ∧ x.length ≤ 63 ∧ FlyUp x := by
 intro _;rw [List.take_of_length_le hk] at h;subst h;refine ⟨fun q hq => ?_, by simp, by rw [List.length_map]; omega, ?_⟩
 ·rw [List.mem_singleton.1 hq]
  have hd2 : (dayP a0).length ≤ 61 := by rw [qj0 hp] at hd; rw [← qid hp]; exact hd
  refine ⟨hp, by show (0 : Int) ≤ 5; decide, by show (5 : Int) ≤ 1439; decide, ?_⟩;show (dayP a0).length ≤ 100
  omega
 ·have e := qau hp;rw [e];exact qu8 (by rw [xv a0 hp]; exact xf _ _ _) (vo hp).2
end Go.Sim
set_option maxRecDepth 10000
namespace Go.Sim
open Go.Proofs
def s12_l3 (a0 : S45) (a1 : S67) (r1 : (List S45) × Int) : List Int → Nat → (List S104) → Option Bool
 | [], k17, x15 => bindO (s64 s71 [(S115.mk (⟨#[120]⟩) ByteArray.empty (⟨#[65]⟩) ByteArray.empty ByteArray.empty ByteArray.empty (S45.mk a0.fFrom a0.fTo a0.Days) 5 0 0 0)] x15 a1) fun r20 => bindO (bif (decide (r20.2 = 0)) && (decide ((List.length r20.1 : Int) = 1)) then ixO r20.1 0 else some default) fun y21 => bindO (bif ((decide (r20.2 = 0)) && (decide ((List.length r20.1 : Int) = 1))) && (decide (y21.Name = (⟨#[120]⟩))) then ixO r20.1 0 else some default) fun y22 => bindO (bif ((decide (r20.2 = 0)) && (decide ((List.length r20.1 : Int) = 1))) && (decide (y21.Name = (⟨#[120]⟩))) then s43 y22.Periods r1.1 else some default) fun r23 => some ((((decide (r20.2 = 0)) && (decide ((List.length r20.1 : Int) = 1))) && (decide (y21.Name = (⟨#[120]⟩)))) && r23)
 | y18 :: t19, k17, x15 => s12_l3 a0 a1 r1 t19 (k17 + 1) (x15 ++ [(S104.mk (⟨#[102, 108, 121]⟩) (⟨#[120]⟩) (IntKind.i64.wrap ((IntKind.i64.wrap (1440 * y18)) + 5)) (⟨#[65]⟩) 0 0 ByteArray.empty 0)])
def s12_l2 (a0 : S45) (a1 : S67) (r1 : (List S45) × Int) (x2 : List Int) (r7 : S45 × Int) : List Int → Nat → Option Bool
 | [], k9 => bindO (bif (!(decide ((List.length ((s69 a0).1) : Int) = 0))) && ((decide (0 < (List.length x2 : Int))) && (decide ((List.length x2 : Int) < (List.length ((s69 a0).1) : Int)))) then ixO x2 0 else some default) fun y12 => bindO (bif (!(decide ((List.length ((s69 a0).1) : Int) = 0))) && ((decide (0 < (List.length x2 : Int))) && (decide ((List.length x2 : Int) < (List.length ((s69 a0).1) : Int)))) then ixO ((s69 a0).1) (List.length x2 : Int) else some default) fun y13 => bindO (bif (!(decide ((List.length ((s69 a0).1) : Int) = 0))) && ((decide (0 < (List.length x2 : Int))) && (decide ((List.length x2 : Int) < (List.length ((s69 a0).1) : Int)))) then ixO ((s69 a0).1) 0 else some default) fun y14 => (bif (decide ((List.length ((s69 a0).1) : Int) = 0)) || (((decide (0 < (List.length x2 : Int))) && (decide ((List.length x2 : Int) < (List.length ((s69 a0).1) : Int)))) && (decide (IntKind.i64.wrap ((IntKind.i64.wrap (y12 + y13)) - y14) ≤ r7.1.fTo))) then some ((decide ((List.length ((s69 a0).1) : Int) = 0)) && (decide ((List.length r1.1 : Int) = 0))) else s12_l3 a0 a1 r1 ((s69 a0).1) 0 [])
 | y10 :: t11, k9 => bindO (bif !((decide (y10 < r7.1.fFrom)) || (decide (r7.1.fTo < y10))) then ixO x2 0 else some default) fun y24 => bindO (bif !((decide (y10 < r7.1.fFrom)) || (decide (r7.1.fTo < y10))) then ixO ((s69 a0).1) ((k9 : Nat) : Int) else some default) fun y25 => bindO (bif !((decide (y10 < r7.1.fFrom)) || (decide (r7.1.fTo < y10))) then ixO ((s69 a0).1) 0 else some default) fun y26 => bindO (bif !(((decide (y10 < r7.1.fFrom)) || (decide (r7.1.fTo < y10))) || (decide (IntKind.i64.wrap (y10 - y24) ≠ IntKind.i64.wrap (y25 - y26)))) then ixO ((s69 a0).1) ((k9 : Nat) : Int) else some default) fun y27 => (bif (((decide (y10 < r7.1.fFrom)) || (decide (r7.1.fTo < y10))) || (decide (IntKind.i64.wrap (y10 - y24) ≠ IntKind.i64.wrap (y25 - y26)))) || (decide (Int.tmod (IntKind.i64.wrap (y10 - y27)) 7 ≠ 0)) then some false else s12_l2 a0 a1 r1 x2 r7 t11 (k9 + 1))
def s12_l1 (a0 : S45) (a1 : S67) (r1 : (List S45) × Int) : List S45 → Nat → (List Int) → Option Bool
 | [], k4, x2 => bindO (s70 a1) fun r7 => (bif (decide (r7.2 ≠ 0)) || (decide ((List.length ((s69 a0).1) : Int) < (List.length x2 : Int))) then some false else s12_l2 a0 a1 r1 x2 r7 x2 0)
 | y5 :: t6, k4, x2 => (bif decide ((s69 y5).2 ≠ 0) then some false else s12_l1 a0 a1 r1 t6 (k4 + 1) (x2 ++ ((s69 y5).1)))
noncomputable def s12 (a0 : S45) (a1 : S67) : Option Bool :=
 (bif (((!s16) || (decide ((s40 a0) ≠ 0))) || (decide (60 < IntKind.i64.wrap (a0.fTo - a0.fFrom)))) || (decide ((s41 a1) ≠ 0)) then some s16 else bindO (s39 a0 a1) fun r1 => (bif (decide ((s69 a0).2 ≠ 0)) || (decide (61 < (List.length ((s69 a0).1) : Int))) then some false else (bif decide (r1.2 ≠ 0) then some (((decide (r1.2 = 30)) || (decide (r1.2 = 13))) && (decide (0 < (List.length ((s69 a0).1) : Int)))) else s12_l1 a0 a1 r1 r1.1 0 [])))
set_option maxHeartbeats 4000000 in
theorem c12 (a0 : S45) (a1 : S67) {R : Bool}   (hR : s12 a0 a1 = some R) : Con (EG glT) 12 [G.agg [G.int a0.fFrom, G.int a0.fTo, G.int a0.Days], G.agg [G.int a1.Year, G.str a1.Kind]] (G.bool R) := by
 unfold s12 at hR;refine qp Tryz.func12 rfl rfl fun w0 M0 => ?_;refine qb (qa [.p, .p, .p] (su (zo rfl rfl) rfl (su (zo rfl rfl) rfl (sa rfl rfl (qc (qb ?_))))));refine qb (qa [.p, .p, .p, .p, .p, .p, .p, .p, .p, .p, .p, .p, .p, .p, .p, .p, .p, .p, .p, .p] (su (qf rfl K16 rfl (c16) qk) rfl (su (kh rfl rfl) rfl (sm rfl rfl (sg rfl rfl (fun h => qv rfl ty46 rfl rfl rfl) rfl (sg rfl rfl (fun h => qf rfl K40 rfl (c40 a0) (qd (gd h rfl) qk)) rfl ?_))))));refine sg rfl rfl (fun h => zw rfl (gd h rfl) rfl) rfl (su (ju rfl rfl rfl rfl) rfl (sm rfl rfl (sg rfl rfl (fun h => qe rfl qaa rfl) rfl (sg rfl rfl (fun h => qg rfl ty3 (gd h rfl)) rfl (sg rfl rfl (fun h => qe rfl qbj rfl) rfl (sg rfl rfl (fun h => qg rfl ty3 (gd h rfl)) rfl ?_))))));refine sg rfl rfl (fun h => jn rfl (gd h rfl) (gd h rfl)) rfl (sg rfl rfl (fun h => jh rfl (gd h rfl) rfl) rfl (su (ju rfl rfl rfl rfl) rfl (sm rfl rfl (sg rfl rfl (fun h => qv rfl ty68 rfl rfl rfl) rfl (sg rfl rfl (fun h => qf rfl K41 rfl (c41 a1) (qd (gd h rfl) qk)) rfl (sg rfl rfl (fun h => zw rfl (gd h rfl) rfl) rfl ?_))))));refine su (ju rfl rfl rfl rfl) rfl (qc (qi _ rfl (fun h1 => ?_) (fun h1 => ?_)))
 ·replace hR := zl hR h1;refine qb (qa [.p, .p] (su (qf rfl K16 rfl (c16) qk) rfl (sa rfl rfl (qc (qo ?_)))));exact qfi (zd rfl (rv_g rfl)) (congrArg (fun R_ => G.bool R_) (Option.some.inj hR))
 ·replace h1 : ((((!s16) || (decide ((s40 a0) ≠ 0))) || (decide (60 < IntKind.i64.wrap (a0.fTo - a0.fFrom)))) || (decide ((s41 a1) ≠ 0))) = false := h1;replace hR := zt hR h1;(try simp only [bB] at h1);obtain ⟨hp, hd61, hs⟩ := qqq h1.1.1.2 h1.1.2 h1.2;refine qm (qb (qa [.p, .p, .p, .p, .p, .p, .p] (su (qv rfl ty46 rfl rfl rfl) rfl (su (qf rfl K69 rfl (c69' a0) (qd rfl qk)) rfl (sm rfl rfl (su (qr rfl rfl rfl) rfl ?_))))));refine su (qr rfl rfl rfl) rfl (sa rfl rfl (sa rfl rfl (qc (qb ?_))));refine Exists.elim (qj hR) (fun r1 hq_ => ?_);have br1 := hq_.1;replace hR := hq_.2;clear hq_;refine qa [.p, .p, .p, .p, .p, .p, .p, .p] (su (qv rfl ty46 rfl rfl rfl) rfl (su (qv rfl ty68 rfl rfl rfl) rfl (su (qf rfl K39 rfl (c39 a0 a1 br1) (qd rfl (qd rfl qk))) rfl (sm rfl rfl (su (qr rfl rfl rfl) rfl (su (qr rfl rfl rfl) rfl ?_))))));refine sa rfl rfl (sa rfl rfl (qc ?_));have hl39 := qwo hp hs br1;refine qb (qb (qa [.p, .p, .p, .p, .p, .p, .p] (sm rfl rfl (su (zw rfl rfl rfl) rfl (sm rfl rfl (sg rfl rfl (fun h => qh rfl rfl) rfl ?_))))));refine sg rfl rfl (fun h => qz (f := cInt) (l := (s69 a0).1) rfl Tryz.underlying82 (gd h rfl)) rfl (sg rfl rfl (fun h => jh rfl (gd h rfl) rfl) rfl (su (ju rfl rfl rfl rfl) rfl (qc (qi _ rfl (fun h2 => ?_) (fun h2 => ?_)))))
  ·replace hR := zl hR h2;refine qb (qa [.p] (sa rfl rfl (qc (qo ?_))));exact qfi (zd rfl (rv_g rfl)) (congrArg (fun R_ => G.bool R_) (Option.some.inj hR))
  ·replace h2 : ((decide ((s69 a0).2 ≠ 0)) || (decide (61 < (List.length ((s69 a0).1) : Int)))) = false := h2;replace hR := zt hR h2;(try simp only [bB] at h2);refine qm (qb (qb (qa [.p, .p] (sm rfl rfl (su (zw rfl rfl rfl) rfl (qc ?_))))));refine qi _ rfl (fun h3 => ?_) (fun h3 => ?_)
   ·replace hR := zl hR h3;refine qb (qa [.p, .p, .p, .p, .p, .p, .p, .p, .p, .p, .p, .p] (sm rfl rfl (su (jk rfl rfl rfl) rfl (sm rfl rfl (sg rfl rfl (fun h => qh rfl rfl) rfl (sg rfl rfl (fun h => jk rfl (gd h rfl) rfl) rfl ?_))))));refine su (ju rfl rfl rfl rfl) rfl (sm rfl rfl (sg rfl rfl (fun h => qh rfl rfl) rfl (sg rfl rfl (fun h => qz (f := cInt) (l := (s69 a0).1) rfl Tryz.underlying82 (gd h rfl)) rfl (sg rfl rfl (fun h => jh rfl (gd h rfl) rfl) rfl (su (zk rfl rfl rfl rfl) rfl (sa rfl rfl ?_))))));refine qc (qo ?_);exact qfi (zd rfl (rv_g rfl)) (congrArg (fun R_ => G.bool R_) (Option.some.inj hR))
   ·replace h3 : (decide (r1.2 ≠ 0)) = false := h3;replace hR := zt hR h3;(try simp only [bB] at h3);refine qm (qb (qa [.w] (sw (jq 9 3 1 rfl rfl rfl) rfl (qc (qb (qb ?_))))));refine qa [.p, .p, .p] (sm rfl rfl (su (qz (f := S45.c) (l := r1.1) rfl Tryz.underlying69 rfl) rfl (sm rfl rfl (qc (ql (qu (γ := Nat × (List S45) × (List Int)) (fun g => ([(2, .g (G.ref [G.int a0.fFrom, G.int a0.fTo, G.int a0.Days])), (3, .g (G.ref [G.int a1.Year, G.str a1.Kind])), (5, .g (G.sl 1 (List.map cInt ((s69 a0).1)))), (7, .g (G.sl 3 (List.map S45.c r1.1))), (9, .osl 9 1 0 (List.length g.2.2)), (74, .g (G.sl 3 (List.map S45.c r1.1))), (75, .g (G.int (List.length r1.1 : Int))), (76, .g (G.int ((g.1 : Nat) : Int)))], [(9, .arr 3 1 (List.map cInt g.2.2))])) (fun g => g.2.2.length ≤ g.1 * 401 ∧ g.1 ≤ List.length r1.1 ∧ r1.1.drop g.1 = g.2.1 ∧ s12_l1 a0 a1 r1 g.2.1 g.1 g.2.2 = some R) (fun g => List.length g.2.1) ⟨rfl, (0, r1.1, []), ⟨rfl, rfl, rfl, rfl, rfl, rfl, rfl, rfl, trivial⟩, ⟨rfl, trivial⟩, rfl, ⟨iH, iH, rfl, hR⟩, trivial⟩ ?_))))))
    ·rintro ⟨k4, u6, x2⟩ ⟨iv1_0, iv1_1, hd, hR⟩;replace hd : r1.1.drop k4 = u6 := hd;replace hR : s12_l1 a0 a1 r1 u6 k4 x2 = some R := hR;replace iv1_0 : x2.length ≤ k4 * 401 := iv1_0;replace iv1_1 : k4 ≤ List.length r1.1 := iv1_1;refine qb (qa [.p] (su (qy rfl rfl rfl) rfl (qc (zp (f := S45.c) (l := r1.1) 7 rfl fun hlz1 => ?_))));refine qb (qi _ rfl (fun h4 => ?_) (fun h4 => ?_))
     ·replace h4 : (decide (((k4 : Nat) : Int) < (List.length r1.1 : Int))) = true := h4;refine Exists.elim (zm hd (decT h4)) (fun y5 hq_ => ?_);refine Exists.elim hq_ (fun t6 hqq_ => ?_);have et6 := hqq_.1;have hx1 := hqq_.2.1;replace hd := hqq_.2.2;clear hqq_ hq_;rw [et6] at hR;replace h4 := decT h4;rw [s12_l1] at hR;(try dsimp only at hR);refine qm (qb (ql (qb (qa [.p, .p, .w, .w] (su (zu (f := S45.c) (l := r1.1) (a := y5) rfl Tryz.underlying69 ty46 rfl rfl (Int.natCast_nonneg _) hx1) rfl (su (qv rfl ty46 rfl rfl rfl) rfl ?_))))));refine sw (zn 11 rfl z46 rfl rfl) rfl (js rfl rfl (zb (tv := .g (G.agg [G.int y5.fFrom, G.int y5.fTo, G.int y5.Days])) rfl ty46 rfl rfl rfl rfl rfl) (qc (qb (qa [.r, .p, .p, .p, .p, .p, .p] (sr (z2 rfl ty46 rfl rfl rfl rfl) rfl (su (qf rfl K69 rfl (c69' y5) (qd rfl qk)) rfl ?_))))));refine sm rfl rfl (su (qr rfl rfl rfl) rfl (su (qr rfl rfl rfl) rfl (sa rfl rfl (sa rfl rfl (qc (qb ?_))))));refine qb (qa [.p, .p] (sm rfl rfl (su (zw rfl rfl rfl) rfl (qc (qi _ rfl (fun h13 => ?_) (fun h13 => ?_))))))
      ·replace hR := zl hR h13;refine qb (qa [.p] (sa rfl rfl (qc (qo ?_))));exact qfi (zd rfl (rv_g rfl)) (congrArg (fun R_ => G.bool R_) (Option.some.inj hR))
      ·replace h13 : (decide ((s69 y5).2 ≠ 0)) = false := h13;replace hR := zt hR h13;(try simp only [bB] at h13);refine qm (qa [.p, .p, .k, .p] (su (qn rfl rfl) rfl (sm rfl rfl (st_k rfl rfl (ku (f := cInt) (out := x2) (new := (s69 y5).1) rfl qrh rfl rfl (wg rfl (wi (by decide) (by simp []))) (qb2 rfl) (by exact qs2 iv1_0 iv1_1 hl39)) rfl (su (zh rfl rfl) rfl (qc ?_))))));refine qa [.p, .p] (su (ze rfl rfl rfl iE) rfl (sm rfl rfl (qc ?_)));exact ⟨rfl, (k4 + 1, t6, x2 ++ ((s69 y5).1)), ⟨rfl, rfl, rfl, rfl, rfl, rfl, rfl, rfl, trivial⟩, ⟨rfl, trivial⟩, rfl, ⟨(qpi iv1_0), iB, hd, hR⟩, by simp [et6]⟩
     ·replace h4 : (decide (((k4 : Nat) : Int) < (List.length r1.1 : Int))) = false := h4;have hn_ := zz hd (decF h4);rw [hn_] at hR;rw [s12_l1] at hR;refine zc ?_;refine qb (v6 (l := [(2, .g (G.ref [G.int a0.fFrom, G.int a0.fTo, G.int a0.Days])), (3, .g (G.ref [G.int a1.Year, G.str a1.Kind])), (5, .g (G.sl 1 (List.map cInt ((s69 a0).1)))), (7, .g (G.sl 3 (List.map S45.c r1.1))), (9, .g (G.sl 1 (List.map cInt x2)))]) (m := []) 9 rfl ⟨.inl ⟨rfl, rfl⟩, .inl ⟨rfl, rfl⟩, .inl ⟨rfl, rfl⟩, .inl ⟨rfl, rfl⟩, .inr (qek rfl), trivial⟩ trivial rfl rfl ?_);refine Exists.elim (qj hR) (fun r7 hq_ => ?_);have br7 := hq_.1;replace hR := hq_.2;clear hq_;refine qa [.p, .p, .p, .p, .p, .w, .w, .p] (su (qv rfl ty68 rfl rfl rfl) rfl (su (qf rfl K70 rfl (c70 a1 br7) (qd rfl qk)) rfl (sm rfl rfl (su (qr rfl rfl rfl) rfl (su (qr rfl rfl rfl) rfl (sw (zn 14 rfl z46 rfl rfl) rfl ?_))))));refine js rfl rfl (zb (tv := .g (G.agg [G.int r7.1.fFrom, G.int r7.1.fTo, G.int r7.1.Days])) rfl ty46 rfl rfl rfl rfl rfl) (sa rfl rfl (qc (qb (qb (qa [.p, .p, .p, .p, .p, .p, .p, .p, .p] (sm rfl rfl ?_))))));refine su (zw rfl rfl rfl) rfl (sm rfl rfl (sg rfl rfl (fun h => qh rfl rfl) rfl (sg rfl rfl (fun h => qz (f := cInt) (l := x2) rfl Tryz.underlying82 (gd h rfl)) rfl (sg rfl rfl (fun h => qh rfl rfl) rfl (sg rfl rfl (fun h => qz (f := cInt) (l := (s69 a0).1) rfl Tryz.underlying82 (gd h rfl)) rfl (sg rfl rfl (fun h => jh rfl (gd h rfl) (gd h rfl)) rfl ?_))))));refine su (ju rfl rfl rfl rfl) rfl (qc (qi _ rfl (fun h6 => ?_) (fun h6 => ?_)))
      ·replace hR := zl hR h6;refine qb (qa [.p] (sa rfl rfl (qc (qo ?_))));exact qfi (zd rfl (rv_g rfl)) (congrArg (fun R_ => G.bool R_) (Option.some.inj hR))
      ·replace h6 : ((decide (r7.2 ≠ 0)) || (decide ((List.length ((s69 a0).1) : Int) < (List.length x2 : Int)))) = false := h6;replace hR := zt hR h6;(try simp only [bB] at h6);refine qm (qb (qb (qa [.p, .p, .p] (sm rfl rfl (su (qz (f := cInt) (l := x2) rfl Tryz.underlying82 rfl) rfl (sm rfl rfl ?_))))));refine qc (ql (qu (γ := Nat × (List Int)) (fun g => ([(2, .g (G.ref [G.int a0.fFrom, G.int a0.fTo, G.int a0.Days])), (3, .g (G.ref [G.int a1.Year, G.str a1.Kind])), (5, .g (G.sl 1 (List.map cInt ((s69 a0).1)))), (7, .g (G.sl 3 (List.map S45.c r1.1))), (9, .g (G.sl 1 (List.map cInt x2))), (14, .ptr 14 0), (106, .g (G.int (List.length x2 : Int))), (107, .g (G.int ((g.1 : Nat) : Int)))], [(14, .box [.g (G.int r7.1.fFrom), .g (G.int r7.1.fTo), .g (G.int r7.1.Days)])])) (fun g => x2.drop g.1 = g.2 ∧ s12_l2 a0 a1 r1 x2 r7 g.2 g.1 = some R) (fun g => List.length g.2) ⟨rfl, (0, x2), ⟨rfl, rfl, rfl, rfl, rfl, rfl, rfl, rfl, trivial⟩, ⟨rfl, trivial⟩, rfl, ⟨rfl, hR⟩, trivial⟩ ?_))
       ·rintro ⟨k9, u11⟩ ⟨hd, hR⟩;replace hd : x2.drop k9 = u11 := hd;replace hR : s12_l2 a0 a1 r1 x2 r7 u11 k9 = some R := hR;refine qb (qa [.p] (su (qy rfl rfl rfl) rfl (qc (zp (f := cInt) (l := x2) 9 rfl fun hlz2 => ?_))));refine qb (qi _ rfl (fun h7 => ?_) (fun h7 => ?_))
        ·replace h7 : (decide (((k9 : Nat) : Int) < (List.length x2 : Int))) = true := h7;refine Exists.elim (zm hd (decT h7)) (fun y10 hq_ => ?_);refine Exists.elim hq_ (fun t11 hqq_ => ?_);have et11 := hqq_.1;have hx2 := hqq_.2.1;replace hd := hqq_.2.2;clear hqq_ hq_;rw [et11] at hR;replace h7 := decT h7;rw [s12_l2] at hR;(try dsimp only at hR);refine qm (qb (ql (qb (qa [.p, .p] (sm rfl rfl (sa rfl rfl ?_))))));refine qc (qb ?_);refine Exists.elim (qj hR) (fun y24 hq_ => ?_);have by24 := hq_.1;replace hR := hq_.2;clear hq_;refine Exists.elim (qj hR) (fun y25 hq_ => ?_);have by25 := hq_.1;replace hR := hq_.2;clear hq_;refine Exists.elim (qj hR) (fun y26 hq_ => ?_);have by26 := hq_.1;replace hR := hq_.2;clear hq_;refine Exists.elim (qj hR) (fun y27 hq_ => ?_);have by27 := hq_.1;replace hR := hq_.2;clear hq_;refine z0 [.p, .p, .p, .p, .p, .r, .p, .p, .p, .p, .p, .p, .p, .r, .p, .p, .p, .p, .p, .p, .p, .p, .p, .p, .p, .p, .p, .p, .p, .p, .p, .p, .p, .p, .p, .p, .p, .p, .p, .p, .p, .p, .p, .p, .p, .p, .p, .p] (by kernel_rfl) (sm rfl rfl (sm rfl rfl (su (zu (f := cInt) (l := x2) (a := y10) rfl Tryz.underlying82 ty3 rfl rfl (Int.natCast_nonneg _) hx2) rfl (su (qg rfl ty3 rfl) rfl (su (z4 rfl qbj rfl) rfl (sr (zx rfl ty3 rfl rfl rfl) rfl ?_))))));refine su (qy rfl rfl rfl) rfl (sm rfl rfl (sg rfl rfl (fun h => qh rfl rfl) rfl (sg rfl rfl (fun h => qh rfl rfl) rfl (sg rfl rfl (fun h => zu (f := cInt) (l := x2) (a := y10) rfl Tryz.underlying82 ty3 (gd h rfl) (gd h rfl) (Int.natCast_nonneg _) hx2) rfl (sg rfl rfl (fun h => qg rfl ty3 (gd h rfl)) rfl (sg rfl rfl (fun h => z4 rfl qaa rfl) rfl ?_))))));refine qab rfl rfl rfl (kz _ _) (fun h => zx rfl ty3 (gd h rfl) rfl rfl) rfl ?_;refine sg rfl rfl (fun h => jh rfl (gd h rfl) (gd h rfl)) rfl (su (ju rfl rfl rfl rfl) rfl (sm rfl rfl (sg rfl rfl (fun h => qh rfl rfl) rfl (sg rfl rfl (fun h => qh rfl rfl) rfl (sg rfl rfl (fun h => zu (f := cInt) (l := x2) (a := y10) rfl Tryz.underlying82 ty3 (gd h rfl) (gd h rfl) (Int.natCast_nonneg _) hx2) rfl (sg rfl rfl (fun h => qg rfl ty3 (gd h rfl)) rfl ?_))))));refine sg rfl rfl (fun h => qh rfl rfl) rfl (sg rfl rfl (fun h => zu (f := cInt) (l := x2) (a := y24) rfl Tryz.underlying82 ty3 (gd h rfl) rfl (zq (qat by24 h)) (qt (qat by24 h))) rfl (sg rfl rfl (fun h => qg rfl ty3 (gd h rfl)) rfl (sg rfl rfl (fun h => jn rfl (gd h rfl) (gd h rfl)) rfl (sg rfl rfl (fun h => qh rfl rfl) rfl (sg rfl rfl (fun h => qh rfl rfl) rfl (sg rfl rfl (fun h => zu (f := cInt) (l := (s69 a0).1) (a := y25) rfl Tryz.underlying82 ty3 (gd h rfl) (gd h rfl) (zq (qat by25 h)) (qt (qat by25 h))) rfl ?_))))));refine sg rfl rfl (fun h => qg rfl ty3 (gd h rfl)) rfl (sg rfl rfl (fun h => qh rfl rfl) rfl (sg rfl rfl (fun h => zu (f := cInt) (l := (s69 a0).1) (a := y26) rfl Tryz.underlying82 ty3 (gd h rfl) rfl (zq (qat by26 h)) (qt (qat by26 h))) rfl (sg rfl rfl (fun h => qg rfl ty3 (gd h rfl)) rfl (sg rfl rfl (fun h => jn rfl (gd h rfl) (gd h rfl)) rfl (sg rfl rfl (fun h => zw rfl (gd h rfl) (gd h rfl)) rfl (su (ju rfl rfl rfl rfl) rfl ?_))))));refine sm rfl rfl (sg rfl rfl (fun h => qh rfl rfl) rfl (sg rfl rfl (fun h => qh rfl rfl) rfl (sg rfl rfl (fun h => zu (f := cInt) (l := x2) (a := y10) rfl Tryz.underlying82 ty3 (gd h rfl) (gd h rfl) (Int.natCast_nonneg _) hx2) rfl (sg rfl rfl (fun h => qg rfl ty3 (gd h rfl)) rfl (sg rfl rfl (fun h => qh rfl rfl) rfl (sg rfl rfl (fun h => qh rfl rfl) rfl ?_))))));refine sg rfl rfl (fun h => zu (f := cInt) (l := (s69 a0).1) (a := y27) rfl Tryz.underlying82 ty3 (gd h rfl) (gd h rfl) (zq (qat by27 h)) (qt (qat by27 h))) rfl (sg rfl rfl (fun h => qg rfl ty3 (gd h rfl)) rfl (sg rfl rfl (fun h => jn rfl (gd h rfl) (gd h rfl)) rfl (sg rfl rfl (fun h => wz rfl (gd h rfl) rfl (by decide)) rfl (sg rfl rfl (fun h => zw rfl (gd h rfl) rfl) rfl (su (ju rfl rfl rfl rfl) rfl (qc ?_))))));refine qi _ rfl (fun h12 => ?_) (fun h12 => ?_)
         ·replace hR := zl hR h12;refine qb (qa [.p] (sa rfl rfl (qc (qo ?_))));exact qfi (zd rfl (rv_g rfl)) (congrArg (fun R_ => G.bool R_) (Option.some.inj hR))
         ·replace h12 : ((((decide (y10 < r7.1.fFrom)) || (decide (r7.1.fTo < y10))) || (decide (IntKind.i64.wrap (y10 - y24) ≠ IntKind.i64.wrap (y25 - y26)))) || (decide (Int.tmod (IntKind.i64.wrap (y10 - y27)) 7 ≠ 0))) = false := h12;replace hR := zt hR h12;(try simp only [bB] at h12);refine qm (qa [.p, .p] (su (ze rfl rfl rfl iE) rfl (sm rfl rfl (qc ?_))));exact ⟨rfl, (k9 + 1, t11), ⟨rfl, rfl, rfl, rfl, rfl, rfl, rfl, rfl, trivial⟩, ⟨rfl, trivial⟩, rfl, ⟨hd, hR⟩, by simp [et11]⟩
        ·replace h7 : (decide (((k9 : Nat) : Int) < (List.length x2 : Int))) = false := h7;have hn_ := zz hd (decF h7);rw [hn_] at hR;rw [s12_l2] at hR;refine zc ?_;refine qb (qb ?_);refine Exists.elim (qj hR) (fun y12 hq_ => ?_);have by12 := hq_.1;replace hR := hq_.2;clear hq_;refine Exists.elim (qj hR) (fun y13 hq_ => ?_);have by13 := hq_.1;replace hR := hq_.2;clear hq_;refine Exists.elim (qj hR) (fun y14 hq_ => ?_);have by14 := hq_.1;replace hR := hq_.2;clear hq_;refine z0 [.p, .p, .p, .p, .p, .p, .p, .p, .p, .p, .p, .p, .p, .p, .p, .p, .p, .p, .p, .p, .p, .p, .p, .p, .p, .p, .p, .p, .p, .r, .p, .p, .p] (by kernel_rfl) (sm rfl rfl (su (qz (f := cInt) (l := (s69 a0).1) rfl Tryz.underlying82 rfl) rfl (su (jk rfl rfl rfl) rfl (sm rfl rfl (sg rfl rfl (fun h => qh rfl rfl) rfl (sg rfl rfl (fun h => qz (f := cInt) (l := x2) rfl Tryz.underlying82 (gd h rfl)) rfl ?_))))));refine sg rfl rfl (fun h => jh rfl (gd h rfl) rfl) rfl (sg rfl rfl (fun h => qh rfl (gd h rfl)) rfl (st_g rfl rfl rfl (zr _ _ _) (fun h => qh rfl rfl) rfl (st_g rfl rfl rfl (zr _ _ _) (fun h => qz (f := cInt) (l := x2) rfl Tryz.underlying82 (gd h rfl)) rfl (st_g rfl rfl rfl (zr _ _ _) (fun h => qh rfl rfl) rfl (st_g rfl rfl rfl (zr _ _ _) (fun h => qz (f := cInt) (l := (s69 a0).1) rfl Tryz.underlying82 (gd h rfl)) rfl (st_g rfl rfl rfl (zr _ _ _) (fun h => qy rfl (gd h rfl) (gd h rfl)) rfl ?_))))));refine sg rfl rfl (fun h => zk rfl (gd h rfl) rfl (gd2 h rfl)) rfl (sg rfl rfl (fun h => qh rfl (gd h rfl)) rfl (st_g rfl rfl rfl (zr _ _ _) (fun h => qh rfl rfl) rfl (st_g rfl rfl rfl (zr _ _ _) (fun h => zu (f := cInt) (l := x2) (a := y12) rfl Tryz.underlying82 ty3 (gd h rfl) rfl (zq (qkl by12 h)) (qt (qkl by12 h))) rfl (st_g rfl rfl rfl (zr _ _ _) (fun h => qg rfl ty3 (gd h rfl)) rfl (st_g rfl rfl rfl (zr _ _ _) (fun h => qh rfl rfl) rfl (st_g rfl rfl rfl (zr _ _ _) (fun h => qh rfl rfl) rfl ?_))))));refine st_g rfl rfl rfl (zr _ _ _) (fun h => qz (f := cInt) (l := x2) rfl Tryz.underlying82 (gd h rfl)) rfl (st_g rfl rfl rfl (zr _ _ _) (fun h => zu (f := cInt) (l := (s69 a0).1) (a := y13) rfl Tryz.underlying82 ty3 (gd h rfl) (gd h rfl) (zq (qkl by13 h)) (qt (qkl by13 h))) rfl (st_g rfl rfl rfl (zr _ _ _) (fun h => qg rfl ty3 (gd h rfl)) rfl (st_g rfl rfl rfl (zr _ _ _) (fun h => jm rfl (gd h rfl) (gd h rfl)) rfl (st_g rfl rfl rfl (zr _ _ _) (fun h => qh rfl rfl) rfl (st_g rfl rfl rfl (zr _ _ _) (fun h => zu (f := cInt) (l := (s69 a0).1) (a := y14) rfl Tryz.underlying82 ty3 (gd h rfl) rfl (zq (qkl by14 h)) (qt (qkl by14 h))) rfl (st_g rfl rfl rfl (zr _ _ _) (fun h => qg rfl ty3 (gd h rfl)) rfl ?_))))));refine st_g rfl rfl rfl (zr _ _ _) (fun h => jn rfl (gd h rfl) (gd h rfl)) rfl (st_g rfl rfl rfl (zr _ _ _) (fun h => z4 rfl qaa rfl) rfl (qab rfl rfl rfl (zr _ _ _) (fun h => zx rfl ty3 (gd h rfl) rfl rfl) rfl ?_));refine st_g rfl rfl rfl (zr _ _ _) (fun h => vq rfl (gd h rfl) (gd h rfl)) rfl (sg rfl rfl (fun h => zk rfl (gd h rfl) rfl (gd2 h rfl)) rfl (su (ju rfl rfl rfl rfl) rfl (qc (qi _ rfl (fun h9 => ?_) (fun h9 => ?_)))))
         ·replace hR := zl hR h9;refine qb (qa [.p, .p, .p, .p, .p, .p, .p, .p, .p] (sm rfl rfl (su (qz (f := cInt) (l := (s69 a0).1) rfl Tryz.underlying82 rfl) rfl (su (jk rfl rfl rfl) rfl (sm rfl rfl (sg rfl rfl (fun h => qh rfl rfl) rfl ?_))))));refine sg rfl rfl (fun h => qz (f := S45.c) (l := r1.1) rfl Tryz.underlying69 (gd h rfl)) rfl (sg rfl rfl (fun h => jk rfl (gd h rfl) rfl) rfl (su (zk rfl rfl rfl rfl) rfl (sa rfl rfl (qc (qo ?_)))));exact qfi (zd rfl (rv_g rfl)) (congrArg (fun R_ => G.bool R_) (Option.some.inj hR))
         ·replace h9 : ((decide ((List.length ((s69 a0).1) : Int) = 0)) || (((decide (0 < (List.length x2 : Int))) && (decide ((List.length x2 : Int) < (List.length ((s69 a0).1) : Int)))) && (decide (IntKind.i64.wrap ((IntKind.i64.wrap (y12 + y13)) - y14) ≤ r7.1.fTo)))) = false := h9;replace hR := zt hR h9;(try simp only [bB] at h9);refine qm (qb (qa [.w] (sw (jq 17 105 8 rfl rfl rfl) rfl (qc (qb (qb ?_))))));refine qa [.p, .p, .p] (sm rfl rfl (su (qz (f := cInt) (l := (s69 a0).1) rfl Tryz.underlying82 rfl) rfl (sm rfl rfl (qc (ql (qu (γ := Nat × (List Int) × (List S104)) (fun g => ([(2, .g (G.ref [G.int a0.fFrom, G.int a0.fTo, G.int a0.Days])), (3, .g (G.ref [G.int a1.Year, G.str a1.Kind])), (7, .g (G.sl 3 (List.map S45.c r1.1))), (17, .osl 17 8 0 (List.length g.2.2)), (200, .g (G.sl 1 (List.map cInt ((s69 a0).1)))), (201, .g (G.int (List.length ((s69 a0).1) : Int))), (202, .g (G.int ((g.1 : Nat) : Int)))], [(17, .arr 105 8 (List.map S104.c g.2.2))])) (fun g => g.2.2 = List.map noteL (List.take g.1 ((s69 a0).1)) ∧ ((s69 a0).1).drop g.1 = g.2.1 ∧ s12_l3 a0 a1 r1 g.2.1 g.1 g.2.2 = some R) (fun g => List.length g.2.1) ⟨rfl, (0, ((s69 a0).1), []), ⟨rfl, rfl, rfl, rfl, rfl, rfl, rfl, trivial⟩, ⟨rfl, trivial⟩, rfl, ⟨rfl, rfl, hR⟩, trivial⟩ ?_))))))
          ·rintro ⟨k17, u19, x15⟩ ⟨iv3_0, hd, hR⟩;replace hd : ((s69 a0).1).drop k17 = u19 := hd;replace hR : s12_l3 a0 a1 r1 u19 k17 x15 = some R := hR;replace iv3_0 : x15 = List.map noteL (List.take k17 ((s69 a0).1)) := iv3_0;refine qb (qa [.p] (su (qy rfl rfl rfl) rfl (qc (zp (f := cInt) (l := (s69 a0).1) 200 rfl fun hlz3 => ?_))));refine qb (qi _ rfl (fun h10 => ?_) (fun h10 => ?_))
           ·replace h10 : (decide (((k17 : Nat) : Int) < (List.length ((s69 a0).1) : Int))) = true := h10;refine Exists.elim (zm hd (decT h10)) (fun y18 hq_ => ?_);refine Exists.elim hq_ (fun t19 hqq_ => ?_);have et19 := hqq_.1;have hx3 := hqq_.2.1;replace hd := hqq_.2.2;clear hqq_ hq_;rw [et19] at hR;replace h10 := decT h10;rw [s12_l3] at hR;(try dsimp only at hR);refine qm (qb (ql (qb (qa [.p, .p, .p] (su (zu (f := cInt) (l := (s69 a0).1) (a := y18) rfl Tryz.underlying82 ty3 rfl rfl (Int.natCast_nonneg _) hx3) rfl (su (qg rfl ty3 rfl) rfl ?_))))));refine sa rfl rfl (qc (qa [.p, .p, .p, .p, .p, .p, .k, .p] (su (qn rfl rfl) rfl (sm rfl rfl (su (qeq rfl rfl rfl) rfl (su (jm rfl rfl rfl) rfl ?_))))));refine su (jc rfl z105 rfl qwp (zi rfl (zi rfl (zi rfl (zi rfl kp)))) rfl) rfl (su (qw rfl Tryz.underlying26 xp z105 rfl (za rfl jz) rfl (by exact lens rfl) (by decide)) rfl (st_k rfl rfl (ku (f := S104.c) (out := x15) (new := [(S104.mk (⟨#[102, 108, 121]⟩) (⟨#[120]⟩) (IntKind.i64.wrap ((IntKind.i64.wrap (1440 * y18)) + 5)) (⟨#[65]⟩) 0 0 ByteArray.empty 0)]) rfl qtt rfl rfl (wg rfl (wi (by decide) (by simp [S104.c]))) (qb2 rfl) (by exact qpj iv3_0 hd61)) rfl (su (zh rfl rfl) rfl (qc (qa [.p, .p] (su (ze rfl rfl rfl iE) rfl ?_))))));refine sm rfl rfl (qc ?_);exact ⟨rfl, (k17 + 1, t19, x15 ++ [(S104.mk (⟨#[102, 108, 121]⟩) (⟨#[120]⟩) (IntKind.i64.wrap ((IntKind.i64.wrap (1440 * y18)) + 5)) (⟨#[65]⟩) 0 0 ByteArray.empty 0)]), ⟨rfl, rfl, rfl, rfl, rfl, rfl, rfl, trivial⟩, ⟨rfl, trivial⟩, rfl, ⟨(qns iv3_0 hx3), hd, hR⟩, by simp [et19]⟩
           ·replace h10 : (decide (((k17 : Nat) : Int) < (List.length ((s69 a0).1) : Int))) = false := h10;have hn_ := zz hd (decF h10);rw [hn_] at hR;rw [s12_l3] at hR;refine zc ?_;refine qb (v6 (l := [(2, .g (G.ref [G.int a0.fFrom, G.int a0.fTo, G.int a0.Days])), (3, .g (G.ref [G.int a1.Year, G.str a1.Kind])), (7, .g (G.sl 3 (List.map S45.c r1.1))), (17, .g (G.sl 8 (List.map S104.c x15)))]) (m := []) 17 rfl ⟨.inl ⟨rfl, rfl⟩, .inl ⟨rfl, rfl⟩, .inl ⟨rfl, rfl⟩, .inr (qek rfl), trivial⟩ trivial rfl rfl ?_);refine Exists.elim (qj hR) (fun r20 hq_ => ?_);have br20 := hq_.1;replace hR := hq_.2;clear hq_;refine z0 [.p, .p, .p, .p, .p, .p, .p, .p, .p, .p, .p, .p] (by kernel_rfl) (su (qf rfl K71 rfl (c71 ) qk) rfl (su (qv rfl ty46 rfl rfl rfl) rfl (su (jc rfl z116 rfl qwq (zi rfl (zi rfl (zi rfl (zi rfl kp)))) rfl) rfl (su (qw rfl Tryz.underlying112 qc4 z116 rfl (za rfl jz) rfl (by exact lens rfl) (by decide)) rfl (sm rfl rfl (su (qv rfl ty68 rfl rfl rfl) rfl ?_))))));refine su (qf rfl K64 rfl (c64V s71 [(S115.mk (⟨#[120]⟩) ByteArray.empty (⟨#[65]⟩) ByteArray.empty ByteArray.empty ByteArray.empty (S45.mk a0.fFrom a0.fTo a0.Days) 5 0 0 0)] x15 a1 (qk0 hp hd61 iv3_0 (by have := decF h10; omega)) br20) (qd rfl (qd rfl (qd rfl (qd rfl qk))))) rfl (sm rfl rfl (su (qr rfl rfl rfl) rfl (su (qr rfl rfl rfl) rfl (sa rfl rfl (sa rfl rfl (qc ?_))))));refine qb ?_;refine Exists.elim (qj hR) (fun y21 hq_ => ?_);have by21 := hq_.1;replace hR := hq_.2;clear hq_;refine Exists.elim (qj hR) (fun y22 hq_ => ?_);have by22 := hq_.1;replace hR := hq_.2;clear hq_;refine Exists.elim (qj hR) (fun r23 hq_ => ?_);have br23 := hq_.1;replace hR := hq_.2;clear hq_;refine qa [.p, .p, .p, .p, .p, .p, .p, .p, .p, .p, .p, .p, .p, .p, .p, .p, .p, .p, .p, .p, .p, .p, .p] (sm rfl rfl (su (jk rfl rfl rfl) rfl (sm rfl rfl (sg rfl rfl (fun h => qh rfl rfl) rfl (sg rfl rfl (fun h => qz (f := S131.c) (l := r20.1) rfl Tryz.underlying117 (gd h rfl)) rfl (sg rfl rfl (fun h => jk rfl (gd h rfl) rfl) rfl ?_))))));refine su (zk rfl rfl rfl rfl) rfl (sm rfl rfl (sg rfl rfl (fun h => qh rfl rfl) rfl (sg rfl rfl (fun h => zu (f := S131.c) (l := r20.1) (a := y21) rfl Tryz.underlying117 qsn (gd h rfl) rfl (zq (jb by21 h)) (qt (jb by21 h))) rfl (sg rfl rfl (fun h => qe rfl qs3 (gd h rfl)) rfl (sg rfl rfl (fun h => qg rfl ty9 (gd h rfl)) rfl (sg rfl rfl (fun h => kx rfl (gd h rfl) rfl) rfl ?_))))));refine su (zk rfl rfl rfl rfl) rfl (sm rfl rfl (sg rfl rfl (fun h => qh rfl rfl) rfl (sg rfl rfl (fun h => zu (f := S131.c) (l := r20.1) (a := y22) rfl Tryz.underlying117 qsn (gd h rfl) rfl (zq (jb by22 h)) (qt (jb by22 h))) rfl (sg rfl rfl (fun h => qe rfl qs4 (gd h rfl)) rfl (sg rfl rfl (fun h => qg rfl ty69 (gd h rfl)) rfl (sg rfl rfl (fun h => qh rfl rfl) rfl ?_))))));refine sg rfl rfl (fun h => qf rfl K43 rfl (c43 y22.Periods r1.1 (jb br23 h)) (qd (gd h rfl) (qd (gd h rfl) qk))) rfl (su (zk rfl rfl rfl rfl) rfl (sa rfl rfl (qc (qo ?_))));exact qfi (zd rfl (rv_g rfl)) (congrArg (fun R_ => G.bool R_) (Option.some.inj hR))
theorem qnt (rec1 : Nat → List S131 → Option (List S131 × Int)) (a0 : S23) (a3 : S67) (x1 : List S131) (k : Nat) (y : S115) : ∀ (cs : List Int) (k' k'' : Nat) (u v : Int) (q : S55), s58_l1 cs k'' u v = some (q, 0) → s64_l2 rec1 a0 a3 x1 k y cs k' u v = s64_l2 rec1 a0 a3 x1 k y [] 0 q.Flown q.Due
 | [], k', k'', u, v, q, h => by
  rw [s58_l1] at h
  cases h
  rw [s64_l2, s64_l2]
 | c :: cs, k', k'', u, v, q, h => by
  rw [s58_l1] at h;rw [s64_l2];exact qnt rec1 a0 a3 x1 k y cs _ _ _ _ q h
end Go.Sim
