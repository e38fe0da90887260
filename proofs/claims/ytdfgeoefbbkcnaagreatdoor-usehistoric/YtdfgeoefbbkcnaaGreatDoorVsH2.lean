/-
  What is proved: UseHistoric: its law: it is true of every period and every season.
-/
import Derived.Test.YtdfgeoefbbkcnaaGreatDoorVsH1
import Derived.Test.YtdfgeoefbbkcnaaGreatDoorVaA4
set_option linter.unusedSectionVars false
set_option linter.unusedSimpArgs false
set_option linter.unusedVariables false
set_option linter.unnecessarySimpa false
set_option linter.deprecated false
namespace Go.Sim
/-! ## UseHistoric: the last Sundays -/
/-- the last Sunday up to a day -/
def sun (n : Int) : Int := n - (n + 6) % 7
theorem sun_rng (n : Int) : n - 6 ≤ sun n ∧ sun n ≤ n := by unfold sun; omega
theorem s188_emod {x : Int} (h : 0 ≤ x) (h' : x ≤ 1000000000) : s188 x = (x + 5) % 7 := by
  unfold s188
  rw [wrap_i64 ⟨by omega, by omega⟩, Int.tmod_eq_emod_of_nonneg (by omega)]
theorem s162_loop : ∀ (k : Nat) (x : Int), (x + 6) % 7 < (k : Int) → 7 ≤ x - (x + 6) % 7 → x ≤ 1000000000 → s162_l1 k x = some (sun x)
  | 0, x, h, _, _ => by omega
  | k + 1, x, h, h1, h2 => by
    rw [s162_l1, s180_emod (by omega) h2]
    by_cases h3 : (x + 5) % 7 = 6
    · rw [decide_eq_false (by simpa using h3), cond_false]
      unfold sun
      congr 1
      omega
    · rw [decide_eq_true h3, cond_true, wrap_i64 ⟨by omega, by omega⟩, s162_loop k (x - 1) (by omega) (by omega) (by omega)]
      unfold sun
      congr 1
      omega
theorem s162_3 {y : Int} (h : 2000 ≤ y) (h' : y ≤ 3000) : s162 y 3 = some (sun (N3 y)) := by
  have := N_rng h h'
  unfold s162
  rw [s200_3 h h']
  exact s162_loop _ _ (by omega) (by omega) (by omega)
theorem s162_10 {y : Int} (h : 2000 ≤ y) (h' : y ≤ 3000) : s162 y 10 = some (sun (N10 y)) := by
  have := N_rng h h'
  unfold s162
  rw [s200_10 h h']
  exact s162_loop _ _ (by omega) (by omega) (by omega)
theorem s223_2 (y : Int) : s223 y 2 = some (28 + lp y) := by
  have h : s248 y = s224 y := rfl
  unfold s223 lp
  rw [h]
  cases s224 y <;> rfl
theorem s223_c {y m r : Int} (hm : m ≠ 2) (h : ixO lenL (IntKind.i64.wrap (m - 1)) = some r) : s223 y m = some r := by
  unfold s223
  rw [decide_eq_false hm, Bool.false_and, cond_false, h]
  rfl
theorem s221_y {y m : Int} (h : 2000 ≤ y) (h' : y ≤ 3000) : s221 y m 31 = s221_l2 y ((m - 1).toNat) (30 + Dy (y - 2000).toNat) 1 := by
  have hn := toNat_cast h
  unfold s221
  rw [wrap_i64 (n := y - 2000) ⟨by omega, by omega⟩, wrap_i64 (n := (31 : Int) - 1) ⟨by omega, by omega⟩]
  have := s221_years y m (y - 2000).toNat 0 30 (by omega) (by omega) (by omega)
  simp only [Nat.zero_add, Dy] at this
  have e : (y - 2000 - 0).toNat = (y - 2000).toNat := by simp
  rw [e]
  show s221_l1 y m (y - 2000).toNat 30 ((0 : Nat) : Int) = _
  rw [this]
  congr 1
  omega
theorem s221_3 {y : Int} (h : 2000 ≤ y) (h' : y ≤ 3000) : s221 y 3 31 = some (N3 y) := by
  have hn := toNat_cast h
  have h1 := lp_rng y
  have h2 := Dy_rng (y - 2000).toNat
  rw [s221_y h h']
  show s221_l2 y 2 _ 1 = _
  rw [s221_l2, s223_c (y := y) (m := 1) (r := 31) (by decide) rfl]
  simp only [bindO]
  rw [wrap_i64 ⟨by omega, by omega⟩, s221_l2, show (1 : Int) + 1 = 2 from rfl, s223_2]
  simp only [bindO]
  rw [wrap_i64 ⟨by omega, by omega⟩, s221_l2]
  unfold N3
  congr 1
  omega
theorem s221_10 {y : Int} (h : 2000 ≤ y) (h' : y ≤ 3000) : s221 y 10 31 = some (N10 y) := by
  have hn := toNat_cast h
  have h1 := lp_rng y
  have h2 := Dy_rng (y - 2000).toNat
  rw [s221_y h h']
  show s221_l2 y 9 _ 1 = _
  rw [s221_l2, s223_c (y := y) (m := 1) (r := 31) (by decide) rfl]
  simp only [bindO]
  rw [wrap_i64 ⟨by omega, by omega⟩, s221_l2, show (1 : Int) + 1 = 2 from rfl, s223_2]
  simp only [bindO]
  rw [wrap_i64 ⟨by omega, by omega⟩, s221_l2, show (2 : Int) + 1 = 3 from rfl, s223_c (y := y) (m := 3) (r := 31) (by decide) rfl]
  simp only [bindO]
  rw [wrap_i64 ⟨by omega, by omega⟩, s221_l2, show (3 : Int) + 1 = 4 from rfl, s223_c (y := y) (m := 4) (r := 30) (by decide) rfl]
  simp only [bindO]
  rw [wrap_i64 ⟨by omega, by omega⟩, s221_l2, show (4 : Int) + 1 = 5 from rfl, s223_c (y := y) (m := 5) (r := 31) (by decide) rfl]
  simp only [bindO]
  rw [wrap_i64 ⟨by omega, by omega⟩, s221_l2, show (5 : Int) + 1 = 6 from rfl, s223_c (y := y) (m := 6) (r := 30) (by decide) rfl]
  simp only [bindO]
  rw [wrap_i64 ⟨by omega, by omega⟩, s221_l2, show (6 : Int) + 1 = 7 from rfl, s223_c (y := y) (m := 7) (r := 31) (by decide) rfl]
  simp only [bindO]
  rw [wrap_i64 ⟨by omega, by omega⟩, s221_l2, show (7 : Int) + 1 = 8 from rfl, s223_c (y := y) (m := 8) (r := 31) (by decide) rfl]
  simp only [bindO]
  rw [wrap_i64 ⟨by omega, by omega⟩, s221_l2, show (8 : Int) + 1 = 9 from rfl, s223_c (y := y) (m := 9) (r := 30) (by decide) rfl]
  simp only [bindO]
  rw [wrap_i64 ⟨by omega, by omega⟩, s221_l2]
  unfold N10
  congr 1
  omega
theorem s189_of {y m n : Int} (h : s221 y m 31 = some n) (h0 : 0 ≤ n) (h1 : n ≤ 1000000) : s189 y m = some (sun n) := by
  unfold s189
  rw [h]
  simp only [bindO]
  rw [s188_emod h0 (by omega), wrap_i64 (n := (n + 5) % 7 + 7) ⟨by omega, by omega⟩, wrap_i64 (n := (n + 5) % 7 + 7 - 6) ⟨by omega, by omega⟩, Int.tmod_eq_emod_of_nonneg (by omega), wrap_i64 ⟨by omega, by omega⟩]
  unfold sun
  congr 1
  omega
theorem s189_3 {y : Int} (h : 2000 ≤ y) (h' : y ≤ 3000) : s189 y 3 = some (sun (N3 y)) := by
  have := N_rng h h'
  exact s189_of (s221_3 h h') (by omega) (by omega)
theorem s189_10 {y : Int} (h : 2000 ≤ y) (h' : y ≤ 3000) : s189 y 10 = some (sun (N10 y)) := by
  have := N_rng h h'
  exact s189_of (s221_10 h h') (by omega) (by omega)
end Go.Sim

namespace Go.Sim
/-! ## UseHistoric: the year of a day -/
def QD (y m R : Int) : Prop := ∀ (k : Nat) (x : Int), 0 ≤ x → x < R → x.toNat < k → ∃ t, s195_l2 y k x m = some (y, t)
theorem QD_last {y m r : Int} (h : s223 y m = some r) : QD y m r
  | 0, x, _, _, hk => by omega
  | k + 1, x, h0, h1, hk => by
    rw [s195_l2, h]
    simp only [bindO]
    rw [decide_eq_false (by omega), cond_false]
    exact ⟨_, rfl⟩
theorem QD_step {y m r R : Int} (h : s223 y m = some r) (hr : 0 < r) (hR : r + R ≤ 1000) (hm : 0 ≤ m ∧ m ≤ 100) (hq : QD y (m + 1) R) : QD y m (r + R)
  | 0, x, _, _, hk => by omega
  | k + 1, x, h0, h1, hk => by
    rw [s195_l2, h]
    simp only [bindO]
    by_cases hx : r ≤ x
    · rw [decide_eq_true hx, cond_true, wrap_i64 (n := x - r) ⟨by omega, by omega⟩, wrap_i64 (n := m + 1) ⟨by omega, by omega⟩]
      exact hq k (x - r) (by omega) (by omega) (by omega)
    · rw [decide_eq_false hx, cond_false]
      exact ⟨_, rfl⟩
theorem QD_year (y : Int) : QD y 1 (365 + lp y) := by
  have hl := lp_rng y
  have q12 : QD y 12 31 := QD_last (s223_c (by decide) rfl)
  have q11 := QD_step (R := 31) (s223_c (y := y) (m := 11) (r := 30) (by decide) rfl) (by decide) (by decide) (by decide) q12
  have q10 := QD_step (R := 30 + 31) (s223_c (y := y) (m := 10) (r := 31) (by decide) rfl) (by decide) (by decide) (by decide) q11
  have q9 := QD_step (R := 31 + (30 + 31)) (s223_c (y := y) (m := 9) (r := 30) (by decide) rfl) (by decide) (by decide) (by decide) q10
  have q8 := QD_step (R := 30 + (31 + (30 + 31))) (s223_c (y := y) (m := 8) (r := 31) (by decide) rfl) (by decide) (by decide) (by decide) q9
  have q7 := QD_step (R := 31 + (30 + (31 + (30 + 31)))) (s223_c (y := y) (m := 7) (r := 31) (by decide) rfl) (by decide) (by decide) (by decide) q8
  have q6 := QD_step (R := 31 + (31 + (30 + (31 + (30 + 31))))) (s223_c (y := y) (m := 6) (r := 30) (by decide) rfl) (by decide) (by decide) (by decide) q7
  have q5 := QD_step (R := 30 + (31 + (31 + (30 + (31 + (30 + 31)))))) (s223_c (y := y) (m := 5) (r := 31) (by decide) rfl) (by decide) (by decide) (by decide) q6
  have q4 := QD_step (R := 31 + (30 + (31 + (31 + (30 + (31 + (30 + 31))))))) (s223_c (y := y) (m := 4) (r := 30) (by decide) rfl) (by decide) (by decide) (by decide) q5
  have q3 := QD_step (R := 30 + (31 + (30 + (31 + (31 + (30 + (31 + (30 + 31)))))))) (s223_c (y := y) (m := 3) (r := 31) (by decide) rfl) (by decide) (by decide) (by decide) q4
  have q2 := QD_step (s223_2 y) (by omega) (by omega) (by decide) q3
  have q1 := QD_step (s223_c (y := y) (m := 1) (r := 31) (by decide) rfl) (by decide) (by omega) (by decide) q2
  intro k x h0 h1 hk
  exact q1 k x h0 (by omega) hk
theorem s161_month (y : Int) : ∀ (k : Nat) (x m : Int), 0 ≤ x → x ≤ 1000000 → x.toNat < k → ∃ t, s161_l2 y k x m = some (y, t)
  | 0, x, m, _, _, hk => by omega
  | k + 1, x, m, h0, h1, hk => by
    have hr := s199_rng y m
    rw [s161_l2]
    by_cases hx : s199 y m ≤ x
    · rw [decide_eq_true hx, cond_true, wrap_i64 (n := x - s199 y m) ⟨by omega, by omega⟩]
      exact s161_month y k _ _ (by omega) (by omega) (by omega)
    · rw [decide_eq_false hx, cond_false]
      exact ⟨_, rfl⟩
theorem year_loop (day : Int) (hd : day ≤ 1000000) : ∀ (k k' n : Nat), Dy n ≤ day → (day - Dy n).toNat < k → (day - Dy n).toNat < k' →
    ∃ (N : Nat) (t1 t2 : Int × Int), s195_l1 k (day - Dy n) (2000 + (n : Int)) = some (2000 + (N : Int), t1) ∧ s161_l1 k' (day - Dy n) (2000 + (n : Int)) = some (2000 + (N : Int), t2) ∧ Dy N ≤ day ∧ day < Dy (N + 1)
  | 0, _, n, _, hk, _ => by omega
  | _ + 1, 0, n, _, _, hk => by omega
  | k + 1, k' + 1, n, h0, hk, hk' => by
    have hr := s198_rng (2000 + (n : Int))
    have hn := Dy_rng n
    rw [s195_l1, s161_l1, s222_eq]
    by_cases hx : s198 (2000 + (n : Int)) ≤ day - Dy n
    · rw [decide_eq_true hx, cond_true, cond_true, wrap_i64 (n := day - Dy n - s198 (2000 + (n : Int))) ⟨by omega, by omega⟩, wrap_i64 (n := 2000 + (n : Int) + 1) ⟨by omega, by omega⟩]
      have e1 : day - Dy n - s198 (2000 + (n : Int)) = day - Dy (n + 1) := by rw [Dy]; omega
      have e2 : 2000 + (n : Int) + 1 = 2000 + ((n + 1 : Nat) : Int) := by omega
      rw [e1, e2]
      have e3 : Dy (n + 1) = Dy n + s198 (2000 + (n : Int)) := rfl
      exact year_loop day hd k k' (n + 1) (by omega) (by omega) (by omega)
    · rw [decide_eq_false hx, cond_false, cond_false]
      have e3 : Dy (n + 1) = Dy n + s198 (2000 + (n : Int)) := rfl
      have e4 := s198_lp (2000 + (n : Int))
      obtain ⟨t1, g1⟩ := QD_year (2000 + (n : Int)) ((day - Dy n).toNat + 1) (day - Dy n) (by omega) (by omega) (by omega)
      obtain ⟨t2, g2⟩ := s161_month (2000 + (n : Int)) ((day - Dy n).toNat + 1) (day - Dy n) 1 (by omega) (by omega) (by omega)
      exact ⟨n, t1, t2, g1, g2, h0, by omega⟩
theorem year_ok {day : Int} (h0 : 0 ≤ day) (h1 : day ≤ 1000000) : ∃ (N : Nat) (t1 t2 : Int × Int), s195 day = some (2000 + (N : Int), t1) ∧ s161 day = some (2000 + (N : Int), t2) ∧ Dy N ≤ day ∧ day < Dy (N + 1) := by
  have := year_loop day h1 (day.toNat + 1) (day.toNat + 1) 0 (by simpa [Dy] using h0) (by simp [Dy]) (by simp [Dy])
  simpa [Dy, s195, s161] using this
end Go.Sim

namespace Go.Sim
/-! ## UseHistoric: the season of a day -/
abbrev kS : ByteArray := ⟨#[83]⟩
abbrev kW : ByteArray := ⟨#[87]⟩
theorem kSW : ¬ kW = kS := by decide
theorem s192_all {w : Int} (h : 0 ≤ w) (h' : w < 7) : s192 127 w = true := by
  have : w = 0 ∨ w = 1 ∨ w = 2 ∨ w = 3 ∨ w = 4 ∨ w = 5 ∨ w = 6 := by omega
  rcases this with rfl | rfl | rfl | rfl | rfl | rfl | rfl <;> rfl
theorem s138_S {y : Int} (h : 2000 ≤ y) (h' : y ≤ 3000) : s138 ⟨y, kS⟩ = some (sun (N3 y)) := by
  unfold s138
  rw [decide_eq_true rfl, cond_true, s189_3 h h']; rfl
theorem s138_W {y : Int} (h : 2000 ≤ y) (h' : y ≤ 3000) : s138 ⟨y, kW⟩ = some (sun (N10 y)) := by
  unfold s138
  rw [decide_eq_false kSW, cond_false, s189_10 h h']; rfl
theorem s111_S {y : Int} (h : 2000 ≤ y) (h' : y ≤ 2999) : s111 ⟨y, kS⟩ = some ⟨sun (N3 y), sun (N10 y) - 1, 127⟩ := by
  have h1 := N_rng h (by omega)
  have h2 := sun_rng (N10 y)
  unfold s111
  rw [decide_eq_true rfl, cond_true, s162_3 h (by omega), s162_10 h (by omega)]
  simp only [bindO]
  rw [wrap_i64 ⟨by omega, by omega⟩]
theorem s111_W {y : Int} (h : 2000 ≤ y) (h' : y ≤ 2999) : s111 ⟨y, kW⟩ = some ⟨sun (N10 y), sun (N3 (y + 1)) - 1, 127⟩ := by
  have h1 := N_rng (y := y + 1) (by omega) (by omega)
  have h2 := sun_rng (N3 (y + 1))
  unfold s111
  rw [decide_eq_false kSW, cond_false, s162_10 h (by omega)]
  simp only [bindO]
  rw [wrap_i64 (n := y + 1) ⟨by omega, by omega⟩, s162_3 (by omega) (by omega)]
  simp only
  rw [wrap_i64 ⟨by omega, by omega⟩]
theorem has_all {f t d : Int} (h0 : 0 ≤ d) (h1 : d ≤ 1000000) : s157 ⟨f, t, 127⟩ d = decide (f ≤ d ∧ d ≤ t) := by
  unfold s157
  rw [s180_emod h0 (by omega), s192_all (by omega) (by omega), Bool.and_true]
  simp
theorem s110_year (rec1 : Int → Option (S67 × Bool)) {day y : Int} (h0 : 0 ≤ day) (h1 : day ≤ 99999) (h : 2000 ≤ y) (h' : y ≤ 2999) : s110_l2 rec1 day y 2 0 =
    bif decide (sun (N3 y) ≤ day ∧ day ≤ sun (N10 y) - 1) then some (⟨y, kS⟩, true) else bif decide (sun (N10 y) ≤ day ∧ day ≤ sun (N3 (y + 1)) - 1) then some (⟨y, kW⟩, true) else rec1 (y + 1) := by
  have e1 : ByteArray.extract (⟨#[83, 87]⟩) (Int.toNat 0) (Int.toNat (IntKind.i64.wrap (0 + 1))) = kS := rfl
  have e2 : ByteArray.extract (⟨#[83, 87]⟩) (Int.toNat (0 + 1)) (Int.toNat (IntKind.i64.wrap (0 + 1 + 1))) = kW := rfl
  rw [s110_l2, e1, s111_S h h']
  simp only [bindO]
  rw [has_all h0 (by omega)]
  cases decide (sun (N3 y) ≤ day ∧ day ≤ sun (N10 y) - 1)
  · rw [cond_false, cond_false, s110_l2, e2, s111_W h h']
    simp only [bindO]
    rw [has_all h0 (by omega)]
    cases decide (sun (N10 y) ≤ day ∧ day ≤ sun (N3 (y + 1)) - 1)
    · rw [cond_false, cond_false, s110_l2]
    · rfl
  · rfl
theorem Dy_mono {m n : Nat} (h : m ≤ n) : Dy m ≤ Dy n := by
  induction n with
  | zero => rw [Nat.le_zero.1 h]; exact Int.le_refl _
  | succ n ih =>
    have hr := s198_rng (2000 + (n : Int))
    rcases Nat.lt_or_ge n m with h' | h'
    · have : m = n + 1 := by omega
      rw [this]; exact Int.le_refl _
    · have := ih h'
      rw [Dy]; omega
/-- where a season begins, and where the next one does -/
def beg (s : S67) : Int := if s.Kind = kS then sun (N3 s.Year) else sun (N10 s.Year)
def nxt (s : S67) : Int := if s.Kind = kS then sun (N10 s.Year) else sun (N3 (s.Year + 1))
def okS (s : S67) : Prop := 2000 ≤ s.Year ∧ s.Year ≤ 2272 ∧ (s.Kind = kS ∨ s.Kind = kW)
theorem N3_at (n : Nat) : N3 (2000 + (n : Int)) = 89 + lp (2000 + (n : Int)) + Dy n := by
  unfold N3
  have : (2000 + (n : Int) - 2000).toNat = n := by omega
  rw [this]
theorem N10_at (n : Nat) : N10 (2000 + (n : Int)) = 303 + lp (2000 + (n : Int)) + Dy n := by
  unfold N10
  have : (2000 + (n : Int) - 2000).toNat = n := by omega
  rw [this]
theorem Dy_next (n : Nat) : Dy (n + 1) = Dy n + (365 + lp (2000 + (n : Int))) := by rw [Dy, s198_lp]
end Go.Sim

namespace Go.Sim
theorem season_ok {day : Int} (h0 : 0 ≤ day) (h1 : day ≤ 99999) :
    (∃ s, s158 day = some (s, 0) ∧ s110 day = some (s, true) ∧ okS s ∧ beg s ≤ day ∧ day < nxt s) ∨ ((∃ s, s158 day = some (s, 30)) ∧ ∃ s, s110 day = some (s, false)) := by
  obtain ⟨N, t1, t2, g1, g2, g3, g4⟩ := year_ok h0 (by omega)
  have hN := Dy_rng N
  have hn : (N : Int) ≤ 273 := by omega
  have hl := lp_rng (2000 + (N : Int))
  have a3 := N3_at N
  have a10 := N10_at N
  have s3 := sun_rng (N3 (2000 + (N : Int)))
  have s10 := sun_rng (N10 (2000 + (N : Int)))
  have dn := Dy_next N
  have b3 := N3_at (N + 1)
  have bl := lp_rng (2000 + ((N + 1 : Nat) : Int))
  have bs := sun_rng (N3 (2000 + ((N + 1 : Nat) : Int)))
  have ec : 2000 + (N : Int) + 1 = 2000 + ((N + 1 : Nat) : Int) := by omega
  have hE0 : sun (N3 2000) = 85 := rfl
  have hE1 := N3_at 273
  have hEl := lp_rng (2000 + ((273 : Nat) : Int))
  have hEs := sun_rng (N3 (2000 + ((273 : Nat) : Int)))
  have h153 : s153 day = 0 := by
    unfold s153 s155 s154
    rw [decide_eq_false (by omega : ¬ day < 0), decide_eq_false (by omega : ¬ 99999 < day)]
    rfl
  -- the program
  have p1 : s138 s193 = some (sun (N3 2000)) := s138_S (by omega) (by omega)
  have p2 : s138 (s139 s194) = some (sun (N3 2273)) := s138_S (y := 2273) (by omega) (by omega)
  have c273 : (2000 + ((273 : Nat) : Int)) = 2273 := by omega
  rw [c273] at hE1 hEl hEs
  have eP : s158 day = (bif (decide (day < sun (N3 2000))) || (decide (sun (N3 2273) ≤ day)) then some ((S67.mk 0 ByteArray.empty), 30) else bif decide (day < sun (N3 (2000 + (N : Int)))) then some ((S67.mk (2000 + (N : Int) - 1) kW), 0) else bif decide (day < sun (N10 (2000 + (N : Int)))) then some ((S67.mk (2000 + (N : Int)) kS), 0) else some ((S67.mk (2000 + (N : Int)) kW), 0)) := by
    unfold s158
    rw [h153, decide_eq_false (by decide : ¬ (0 : Int) ≠ 0), cond_false, p1]
    simp only [bindO]
    by_cases hA : day < sun (N3 2000)
    · rw [decide_eq_true hA, Bool.not_true, cond_false]
      simp only [Bool.true_or, cond_true]
    · rw [decide_eq_false hA, Bool.not_false, cond_true, p2]
      simp only [Bool.false_or]
      cases decide (sun (N3 2273) ≤ day)
      · rw [cond_false, cond_false, g1]
        simp only
        rw [s189_3 (by omega) (by omega), s189_10 (by omega) (by omega), wrap_i64 (n := 2000 + (N : Int) - 1) ⟨by omega, by omega⟩]
      · rw [cond_true, cond_true]
  -- the reference
  have eR : s110 day = s110_l1 day (((min 2272 (2000 + (N : Int))) + 1) - (max 2000 (2000 + (N : Int) - 1))).toNat (max 2000 (2000 + (N : Int) - 1)) := by
    unfold s110
    rw [g2]
    simp only [bindO]
    rw [wrap_i64 (n := 2000 + (N : Int) - 1) ⟨by omega, by omega⟩]
  have l2 : ∀ (r : Int → Option (S67 × Bool)) (y : Int), s110_l2 r day y ((2 : Int) - 0).toNat 0 = s110_l2 r day y 2 0 := fun r y => rfl
  by_cases hA : day < 85
  · -- before the first season
    right
    refine ⟨⟨_, by rw [eP, decide_eq_true (by omega : day < sun (N3 2000))]; rfl⟩, ?_⟩
    have hN0 : N = 0 := by
      rcases Nat.eq_zero_or_pos N with h | h
      · exact h
      · have := Dy_mono (show 1 ≤ N from h)
        have : Dy 1 = 366 := rfl
        omega
    subst hN0
    rw [eR]
    show ∃ s, s110_l1 day 1 2000 = some (s, false)
    rw [s110_l1, l2, s110_year _ h0 h1 (by omega) (by omega)]
    have q := sun_rng (N10 2000)
    have q1 : N10 2000 = 304 := rfl
    rw [decide_eq_false (by omega), cond_false, decide_eq_false (by omega), cond_false]
    exact ⟨_, by rw [s110_l1]⟩
  · by_cases hB : sun (N3 2273) ≤ day
    · -- behind the last one
      right
      refine ⟨⟨_, by rw [eP, decide_eq_true hB, Bool.or_true]; rfl⟩, ?_⟩
      have hN0 : N = 273 := by
        by_cases h : N = 273
        · exact h
        · have := Dy_mono (show N + 1 ≤ 273 by omega)
          omega
      subst hN0
      rw [eR]
      show ∃ s, s110_l1 day 1 2272 = some (s, false)
      rw [s110_l1, l2, s110_year _ h0 h1 (by omega) (by omega)]
      have q := sun_rng (N10 2272)
      have q1 := N10_at 272
      have q2 := lp_rng (2000 + ((272 : Nat) : Int))
      have q3 := Dy_next 272
      have q4 : (2000 + ((272 : Nat) : Int)) = 2272 := by omega
      have q5 : (272 + 1 : Nat) = 273 := rfl
      rw [q4] at q1 q2 q3
      rw [q5] at q3
      have q6 : (2272 : Int) + 1 = 2273 := by omega
      rw [q6]
      rw [decide_eq_false (by omega), cond_false, decide_eq_false (by omega), cond_false]
      exact ⟨_, by rw [s110_l1]⟩
    · left
      have eP' : s158 day = (bif decide (day < sun (N3 (2000 + (N : Int)))) then some ((S67.mk (2000 + (N : Int) - 1) kW), 0) else bif decide (day < sun (N10 (2000 + (N : Int)))) then some ((S67.mk (2000 + (N : Int)) kS), 0) else some ((S67.mk (2000 + (N : Int)) kW), 0)) := by
        rw [eP, decide_eq_false (by omega : ¬ day < sun (N3 2000)), decide_eq_false hB]; rfl
      by_cases hC : day < sun (N3 (2000 + (N : Int)))
      · -- the winter that began the year before
        obtain ⟨M, rfl⟩ : ∃ M, N = M + 1 := by
          cases N with
          | zero => exact absurd hC (by show ¬ day < sun (N3 2000); omega)
          | succ M => exact ⟨M, rfl⟩
        have m10 := N10_at M
        have m3 := N3_at M
        have ml := lp_rng (2000 + (M : Int))
        have ms := sun_rng (N10 (2000 + (M : Int)))
        have md := Dy_next M
        have e9 : 2000 + ((M + 1 : Nat) : Int) - 1 = 2000 + (M : Int) := by omega
        have e10 : 2000 + (M : Int) + 1 = 2000 + ((M + 1 : Nat) : Int) := by omega
        rw [e9] at eP' eR
        refine ⟨⟨2000 + (M : Int), kW⟩, by rw [eP', decide_eq_true hC]; rfl, ?_, ⟨by show 2000 ≤ 2000 + (M : Int); omega, by show 2000 + (M : Int) ≤ 2272; omega, .inr rfl⟩, ?_, ?_⟩
        · have e11 : max 2000 (2000 + (M : Int)) = 2000 + (M : Int) := by omega
          rw [eR, e11]
          obtain ⟨k, hk⟩ : ∃ k, ((min 2272 (2000 + ((M + 1 : Nat) : Int))) + 1 - (2000 + (M : Int))).toNat = k + 1 := ⟨((min 2272 (2000 + ((M + 1 : Nat) : Int))) + 1 - (2000 + (M : Int))).toNat - 1, by omega⟩
          rw [hk, s110_l1, l2, s110_year _ h0 h1 (by omega) (by omega), e10]
          rw [decide_eq_false (by omega), cond_false, decide_eq_true (by omega), cond_true]
        · show (if kW = kS then _ else sun (N10 (2000 + (M : Int)))) ≤ day
          rw [if_neg kSW]; omega
        · show day < (if kW = kS then _ else sun (N3 (2000 + (M : Int) + 1)))
          rw [if_neg kSW, e10]; exact hC
      · have hN2 : (N : Int) ≤ 272 := by
          by_cases h : N = 273
          · subst h
            rw [c273] at hC
            omega
          · omega
        -- the year before has no season with this day
        have step : s110 day = s110_l2 (fun z0_ => s110_l1 day 0 z0_) day (2000 + (N : Int)) 2 0 := by
          rw [eR]
          cases N with
          | zero => rfl
          | succ M =>
            have m10 := N10_at M
            have m3 := N3_at M
            have ml := lp_rng (2000 + (M : Int))
            have ms := sun_rng (N10 (2000 + (M : Int)))
            have md := Dy_next M
            have e9 : 2000 + ((M + 1 : Nat) : Int) - 1 = 2000 + (M : Int) := by omega
            have e10 : 2000 + (M : Int) + 1 = 2000 + ((M + 1 : Nat) : Int) := by omega
            have e11 : max 2000 (2000 + ((M + 1 : Nat) : Int) - 1) = 2000 + (M : Int) := by omega
            have e12 : (min 2272 (2000 + ((M + 1 : Nat) : Int)) + 1 - (2000 + (M : Int))).toNat = 2 := by omega
            rw [e11, e12, s110_l1, l2, s110_year _ h0 h1 (by omega) (by omega), e10]
            rw [decide_eq_false (by omega), cond_false, decide_eq_false (by omega), cond_false, s110_l1, l2]
        rw [s110_year _ h0 h1 (by omega) (by omega), ec] at step
        by_cases hD : day < sun (N10 (2000 + (N : Int)))
        · refine ⟨⟨2000 + (N : Int), kS⟩, by rw [eP', decide_eq_false hC, cond_false, decide_eq_true hD]; rfl, ?_, ⟨by show 2000 ≤ 2000 + (N : Int); omega, by show 2000 + (N : Int) ≤ 2272; omega, .inl rfl⟩, ?_, ?_⟩
          · rw [step, decide_eq_true (by omega), cond_true]
          · show (if kS = kS then sun (N3 (2000 + (N : Int))) else _) ≤ day
            rw [if_pos rfl]; omega
          · show day < (if kS = kS then sun (N10 (2000 + (N : Int))) else _)
            rw [if_pos rfl]; omega
        · refine ⟨⟨2000 + (N : Int), kW⟩, by rw [eP', decide_eq_false hC, cond_false, decide_eq_false hD]; rfl, ?_, ⟨by show 2000 ≤ 2000 + (N : Int); omega, by show 2000 + (N : Int) ≤ 2272; omega, .inr rfl⟩, ?_, ?_⟩
          · rw [step, decide_eq_false (by omega), cond_false, decide_eq_true (by omega), cond_true]
          · show (if kW = kS then _ else sun (N10 (2000 + (N : Int)))) ≤ day
            rw [if_neg kSW]; omega
          · show day < (if kW = kS then _ else sun (N3 (2000 + (N : Int) + 1)))
            rw [if_neg kSW, ec]; omega
end Go.Sim

namespace Go.Sim
/-! ## UseHistoric: the equivalent day -/
theorem s138_ok {s : S67} (h : okS s) : s138 s = some (beg s) := by
  obtain ⟨y, k⟩ := s
  obtain ⟨h1, h2, h3⟩ := h
  have h1 : 2000 ≤ y := h1
  have h2 : y ≤ 2272 := h2
  rcases h3 with h3 | h3
  · have h3 : k = kS := h3
    subst h3
    rw [s138_S h1 (by omega)]
    unfold beg; rw [if_pos rfl]
  · have h3 : k = kW := h3
    subst h3
    rw [s138_W h1 (by omega)]
    unfold beg; rw [if_neg kSW]
theorem s139_ok {s : S67} (h : okS s) : s138 (s139 s) = some (nxt s) := by
  obtain ⟨y, k⟩ := s
  obtain ⟨h1, h2, h3⟩ := h
  have h1 : 2000 ≤ y := h1
  have h2 : y ≤ 2272 := h2
  rcases h3 with h3 | h3
  · have h3 : k = kS := h3
    subst h3
    have e : s139 ⟨y, kS⟩ = ⟨y, kW⟩ := by unfold s139; rw [decide_eq_true rfl, cond_true]
    rw [e, s138_W h1 (by omega)]
    unfold nxt; rw [if_pos rfl]
  · have h3 : k = kW := h3
    subst h3
    have e : s139 ⟨y, kW⟩ = ⟨y + 1, kS⟩ := by unfold s139; rw [decide_eq_false kSW, cond_false, wrap_i64 ⟨by show _ ≤ y + 1; omega, by show y + 1 ≤ _; omega⟩]
    rw [e, s138_S (by omega) (by omega)]
    unfold nxt; rw [if_neg kSW]
theorem s111_ok {s : S67} (h : okS s) : s111 s = some ⟨beg s, nxt s - 1, 127⟩ := by
  obtain ⟨y, k⟩ := s
  obtain ⟨h1, h2, h3⟩ := h
  have h1 : 2000 ≤ y := h1
  have h2 : y ≤ 2272 := h2
  rcases h3 with h3 | h3
  · have h3 : k = kS := h3
    subst h3
    rw [s111_S h1 (by omega)]
    unfold beg nxt; rw [if_pos rfl, if_pos rfl]
  · have h3 : k = kW := h3
    subst h3
    rw [s111_W h1 (by omega)]
    unfold beg nxt; rw [if_neg kSW, if_neg kSW]
theorem beg_rng {s : S67} (h : okS s) : 0 ≤ beg s ∧ beg s ≤ 1000000 ∧ 0 ≤ nxt s ∧ nxt s ≤ 99999 := by
  obtain ⟨y, k⟩ := s
  obtain ⟨h1, h2, _⟩ := h
  have h1 : 2000 ≤ y := h1
  have h2 : y ≤ 2272 := h2
  have a := N_rng h1 (by omega)
  have b := N_rng (y := y + 1) (by omega) (by omega)
  have c1 := sun_rng (N3 y)
  have c2 := sun_rng (N10 y)
  have c3 := sun_rng (N3 (y + 1))
  have e0 : (y + 1 - 2000).toNat = (y - 2000).toNat + 1 := by omega
  have d0 := Dy_rng (y - 2000).toNat
  have d1 := Dy_next (y - 2000).toNat
  have d2 := Dy_mono (show (y - 2000).toNat + 1 ≤ 273 by omega)
  have d3 : Dy 273 = 99712 := by decide +kernel
  have l0 := lp_rng (2000 + ((y - 2000).toNat : Int))
  have l1 := lp_rng y
  have l2 := lp_rng (y + 1)
  have e1 : N10 y = 303 + lp y + Dy (y - 2000).toNat := rfl
  have e2 : N3 (y + 1) = 89 + lp (y + 1) + Dy (y + 1 - 2000).toNat := rfl
  rw [e0] at e2
  unfold beg nxt
  by_cases hk : k = kS
  · simp only [hk, if_true]
    omega
  · simp only [hk, if_false]
    omega
/-- what a day comes to in another season -/
def eqv (own s : S67) (d : Int) : Int := beg s + d - beg own
theorem s107_ok {s : S67} (h : okS s) : s107 s = 0 := by
  obtain ⟨y, k⟩ := s
  obtain ⟨h1, h2, h3⟩ := h
  have h1 : 2000 ≤ y := h1
  have h2 : y ≤ 2272 := h2
  unfold s107 s155 s154
  rw [decide_eq_false (by show ¬ y < 2000; omega), decide_eq_false (by show ¬ 2272 < y; omega)]
  rcases h3 with h3 | h3
  · have h3 : k = kS := h3
    subst h3
    rfl
  · have h3 : k = kW := h3
    subst h3
    rfl
theorem equiv_ok {own s : S67} {d : Int} (hs : okS s) (ho : okS own) (h : s158 d = some (own, 0)) (hk : own.Kind = s.Kind) (hd : 0 ≤ d ∧ d ≤ 99999) : s159 d s = some (bif decide (nxt s ≤ eqv own s d) then (0, 7) else (eqv own s d, 0)) := by
  have a := beg_rng hs
  have b := beg_rng ho
  unfold s159
  rw [h]
  simp only [bindO]
  rw [s107_ok hs, s138_ok hs, s138_ok ho, s139_ok hs, decide_eq_true hk]
  have e : s152 [0, 0, s154 (!true) 13] = 0 := rfl
  rw [e, decide_eq_false (by decide), cond_false]
  simp only
  rw [wrap_i64 (n := beg s + d) ⟨by omega, by omega⟩, wrap_i64 (n := beg s + d - beg own) ⟨by omega, by omega⟩]
  show (bif decide (nxt s ≤ eqv own s d) then some (0, 7) else some (eqv own s d, 0)) = _
  cases decide (nxt s ≤ eqv own s d) <;> rfl
end Go.Sim

namespace Go.Sim
open Go.Proofs
/-! ## UseHistoric: all but the joining -/
def eqvL (own s : S67) (l : List Int) : List Int := (l.map (eqv own s)).filter (fun v => decide (v < nxt s))
theorem hist2 {own s : S67} (hs : okS s) (ho : okS own) (hk : own.Kind = s.Kind) : ∀ (l : List Int) (k k' : Nat) (x : List Int), (∀ d ∈ l, s158 d = some (own, 0) ∧ 0 ≤ d ∧ d ≤ 99999) →
    s108_l2 s l k x = (bindO (s160 (x ++ eqvL own s l)) fun r => some (r.1, r.2)) ∧ s42_l2 s own.Year own.Kind l k' x = (bindO (s112 (x ++ eqvL own s l)) fun r => some (r, 0))
  | [], k, k', x, _ => by
    rw [s108_l2, s42_l2]
    simp [eqvL]
  | d :: l, k, k', x, h => by
    obtain ⟨h1, h2, h3⟩ := h d List.mem_cons_self
    have a := beg_rng hs
    have b := beg_rng ho
    have ih := fun k k' x => hist2 hs ho hk l k k' x fun z hz => h z (List.mem_cons_of_mem _ hz)
    rw [s108_l2, s42_l2, equiv_ok hs ho h1 hk ⟨h2, h3⟩, s111_ok (s := S67.mk own.Year own.Kind) ho, s111_ok hs]
    simp only [bindO]
    rw [wrap_i64 (n := d - beg (S67.mk own.Year own.Kind)) ⟨by show _ ≤ d - beg own; omega, by show d - beg own ≤ _; omega⟩]
    rw [wrap_i64 (n := d - beg (S67.mk own.Year own.Kind) + beg s) ⟨by show _ ≤ d - beg own + beg s; omega, by show d - beg own + beg s ≤ _; omega⟩]
    have e : d - beg (S67.mk own.Year own.Kind) + beg s = eqv own s d := by show d - beg own + beg s = beg s + d - beg own; omega
    rw [e]
    by_cases hc : nxt s ≤ eqv own s d
    · have e2 : eqvL own s (d :: l) = eqvL own s l := by
        unfold eqvL
        rw [List.map_cons, List.filter_cons, if_neg (by simp; omega)]
      rw [decide_eq_true hc, cond_true, e2]
      rw [decide_eq_false (by show ¬ (7 : Int) = 0; decide), cond_false, decide_eq_false (by omega), cond_false]
      exact ih (k + 1) (k' + 1) x
    · have e2 : x ++ eqvL own s (d :: l) = (x ++ [eqv own s d]) ++ eqvL own s l := by
        unfold eqvL
        rw [List.map_cons, List.filter_cons, if_pos (by simp; omega)]
        simp
      rw [decide_eq_false hc, cond_false, e2]
      rw [decide_eq_true (by show (0 : Int) = 0; rfl), cond_true, decide_eq_true (by omega), cond_true]
      exact ih (k + 1) (k' + 1) _
theorem dayL_asc (m : Int) : ∀ (n : Nat) (d : Int), (dayL m n d).Pairwise (· < ·)
  | 0, d => by simp [dayL]
  | n + 1, d => by
    rw [dayL]
    split
    · refine List.pairwise_cons.2 ⟨fun z hz => ?_, dayL_asc m n (d + 1)⟩
      have := dayL_range m n (d + 1) z hz
      omega
    · exact dayL_asc m n (d + 1)
/-- what is asked of the joining -/
def JoinOk : Prop := ∀ l : List Int, l.Pairwise (· < ·) → (∀ d ∈ l, 0 ≤ d ∧ d ≤ 99999) → l.length ≤ 401 → ∃ R, s160 l = some (R, 0) ∧ s112 l = some R
theorem hist1 (hJ : JoinOk) {a0 : S45} {a1 : S67} (hp : s102 a0 = 0) (hs : okS a1) : ∀ (l P : List Int) (k : Nat) (x2 : Int) (x3 : ByteArray), P ++ l = s104 a0 → k = P.length →
    (∀ d ∈ P, s158 d = some (⟨x2, x3⟩, 0) ∧ okS ⟨x2, x3⟩ ∧ beg ⟨x2, x3⟩ ≤ d) → ∃ r, s108_l1 a0 a1 l k x2 x3 = some r ∧ s42_l1 a0 a1 l k x2 x3 = some r
  | [], P, k, x2, x3, hP, hk, h => by
    rw [s108_l1, s42_l1, s69_days hp]
    have hP' : P = s104 a0 := by simpa using hP
    cases hc : (decide (0 < (List.length (s104 a0) : Int))) && (!decide (x3 = a1.Kind))
    · rw [cond_false, cond_false]
      cases hd : s104 a0 with
      | nil =>
        obtain ⟨R, g1, g2⟩ := hJ [] List.Pairwise.nil (by simp) (by simp)
        rw [s108_l2, s42_l2, g1, g2]
        exact ⟨_, rfl, rfl⟩
      | cons d0 l0 =>
        have hm : d0 ∈ P := by rw [hP', hd]; exact List.mem_cons_self
        have ho := (h d0 hm).2.1
        have hkind : x3 = a1.Kind := by
          rw [hd] at hc
          simp only [List.length_cons] at hc
          rw [decide_eq_true (by omega), Bool.true_and] at hc
          simpa using hc
        have key := hist2 (own := ⟨x2, x3⟩) hs ho hkind (s104 a0) 0 0 [] (fun d hd' => ⟨(h d (by rw [hP']; exact hd')).1, (days_s104 hp).2 d hd'⟩)
        rw [hd] at key
        have bs := beg_rng hs
        obtain ⟨R, g1, g2⟩ := hJ (eqvL ⟨x2, x3⟩ a1 (s104 a0)) (by
          unfold eqvL
          refine List.Pairwise.filter _ (List.pairwise_map.2 ?_)
          rw [days_eq a0 hp]
          exact (dayL_asc _ _ _).imp fun h => by unfold eqv; omega) (fun v hv => by
          obtain ⟨hv1, hv2⟩ := List.mem_filter.1 hv
          obtain ⟨d, hd1, rfl⟩ := List.mem_map.1 hv1
          have := (h d (by rw [hP']; exact hd1)).2.2
          have hv2 : eqv ⟨x2, x3⟩ a1 d < nxt a1 := by simpa using hv2
          unfold eqv at *
          omega) (by
          have := (days_s104 hp).1
          have h9 := List.length_filter_le (fun v => decide (v < nxt a1)) ((s104 a0).map (eqv ⟨x2, x3⟩ a1))
          rw [List.length_map] at h9
          unfold eqvL
          omega)
        rw [hd] at g1 g2
        rw [key.1]
        have k2 := key.2
        rw [show s42_l2 a1 x2 x3 (d0 :: l0) 0 [] = _ from k2, List.nil_append, g1, g2]
        exact ⟨_, rfl, rfl⟩
    · rw [cond_true, cond_true]
      exact ⟨_, rfl, rfl⟩
  | y :: l, P, k, x2, x3, hP, hk, h => by
    have hy : y ∈ s104 a0 := by rw [← hP]; simp
    obtain ⟨y0, y1⟩ := (days_s104 hp).2 y hy
    rw [s108_l1, s42_l1]
    rcases season_ok y0 y1 with ⟨s, g1, g2, g3, g4, g5⟩ | ⟨⟨s, g1⟩, s', g2⟩
    · rw [g1, g2]
      simp only [bindO, Bool.not_true, Bool.false_or]
      rw [decide_eq_false (by show ¬ (0 : Int) ≠ 0; decide), Bool.false_or]
      cases hc : (decide (0 < ((k : Nat) : Int))) && (!(eqAnd [decide (s.Year = x2), decide (s.Kind = x3)]))
      · rw [cond_false, cond_false]
        refine hist1 hJ hp hs l (P ++ [y]) (k + 1) s.Year s.Kind (by rw [← hP]; simp) (by simp [hk]) fun d hd => ?_
        rcases List.mem_append.1 hd with hd | hd
        · have hk0 : 0 < P.length := List.length_pos_of_mem hd
          rw [decide_eq_true (by omega), Bool.true_and] at hc
          have hc : s.Year = x2 ∧ s.Kind = x3 := by simpa [eqAnd] using hc
          have := h d hd
          rw [← hc.1, ← hc.2] at this
          exact this
        · rw [List.mem_singleton.1 hd]
          exact ⟨g1, g3, g4⟩
      · rw [cond_true, cond_true]
        exact ⟨_, rfl, rfl⟩
    · rw [g1, g2]
      simp only [bindO, Bool.not_false, Bool.true_or, cond_true]
      rw [decide_eq_true (by show (30 : Int) ≠ 0; decide), Bool.true_or, cond_true]
      exact ⟨_, rfl, rfl⟩
theorem hist_ok (hJ : JoinOk) {a0 : S45} {a1 : S67} (hp : s102 a0 = 0) (hs : okS a1) : ∃ r, s108 a0 a1 = some r ∧ s42 a0 a1 = some r := by
  unfold s108 s42
  rw [s69_days hp]
  exact hist1 hJ hp hs (s104 a0) [] 0 0 ByteArray.empty rfl rfl (by simp)
end Go.Sim

namespace Go.Sim
/-! ## UseHistoric: the law, if the two ways of joining agree -/
theorem season_eq (s : S67) : s107 s = s41 s := by
  unfold s107 s41 s41_j1 s155 s90 s154
  by_cases h1 : (decide (s.Year < 2000) || decide (2272 < s.Year)) = true
  · rw [h1]
    simp [s152, s152_l1]
  · have h1 : (decide (s.Year < 2000) || decide (2272 < s.Year)) = false := by simpa using h1
    rw [h1]
    cases h2 : (!decide (s.Kind = (⟨#[83]⟩ : ByteArray))) <;> cases h3 : (!decide (s.Kind = (⟨#[87]⟩ : ByteArray))) <;> simp [s152, s152_l1]
theorem okS_of {s : S67} (h : s107 s = 0) : okS s := by
  have h' := h
  rw [season_eq] at h'
  unfold s107 at h
  obtain ⟨h1, h2⟩ := first2 _ _ h
  have h3 := when0 _ 13 (by decide) h2
  have h4 : s90 s.Year 2000 2272 = 0 := h1
  have h5 := s90_zero h4
  refine ⟨h5.1, h5.2, ?_⟩
  by_cases hk : s.Kind = kS
  · exact .inl hk
  · right
    rw [decide_eq_false hk] at h3
    simpa using h3
theorem ixO_n {α : Type} {l : List α} {i : Nat} {x : α} (h : l[i]? = some x) : ixO l (i : Int) = some x := by
  unfold ixO; rw [decide_eq_true (by omega), cond_true]; simpa using h
theorem s43_self (l : List S45) : s43 l l = some true := by
  have key : ∀ (r : List S45) (k : Nat), l.drop k = r → s43_l1 l r k = some true := by
    intro r
    induction r with
    | nil => intro k _; rfl
    | cons y r ih =>
      intro k hd
      have hy : l[k]? = some y := by
        have : (l.drop k)[0]? = some y := by rw [hd]; rfl
        simpa using this
      rw [s43_l1, ixO_n hy]
      simp only [bindO, eqAnd, decide_true, Bool.and_true, Bool.not_true, cond_false]
      refine ih (k + 1) ?_
      have : l.drop (k + 1) = (l.drop k).drop 1 := by rw [List.drop_drop]
      rw [this, hd]; rfl
  unfold s43
  rw [decide_eq_false (by simp), cond_false]
  exact key l 0 rfl
theorem s6_of (hJ : JoinOk) (a0 : S45) (a1 : S67) : s6 a0 a1 = some true := by
  unfold s6
  rw [s16_eq]
  cases ((!true) || (decide (60 < (ByteArray.size a1.Kind : Int))))
  · rw [cond_false]
    have e : s35 [s40 a0, s41 a1] = s84 [s102 a0, s107 a1] := by
      unfold s35
      rw [s84_s89, period_eq, season_eq]
    rw [e]
    by_cases h : s84 [s102 a0, s107 a1] = 0
    · have hp := per39 h
      have hs := okS_of (s84_zero h (s107 a1) (by simp))
      obtain ⟨r, g1, g2⟩ := hist_ok hJ hp hs
      have e39 : s39 a0 a1 = some r := by
        unfold s39
        rw [decide_eq_false (by simpa using h), cond_false, g1]
        rfl
      rw [e39, decide_eq_true h]
      simp only [bindO, cond_true, g2, s6_j1, s43_self, decide_true, Bool.and_self]
    · have e39 : s39 a0 a1 = some ([], s84 [s102 a0, s107 a1]) := by
        unfold s39
        rw [decide_eq_true h, cond_true]
      rw [e39, decide_eq_false h]
      simp only [bindO, cond_false, s6_j1, s43_self, decide_true, Bool.and_self]
  · rfl
end Go.Sim

namespace Go.Sim
/-! ## UseHistoric: the masks of the weeks -/
def wk (d : Int) : Int := (d + 5) / 7
def wd (d : Int) : Int := (d + 5) % 7
theorem s163_wk {d : Int} (h : 0 ≤ d ∧ d ≤ 99999) : s163 d = wk d := by
  unfold s163 wk
  rw [wrap_i64 (n := d + 5) ⟨by omega, by omega⟩, Int.tdiv_eq_ediv_of_nonneg (by omega), wrap_i64 ⟨by omega, by omega⟩]
theorem s196_wk {d : Int} (h : 0 ≤ d ∧ d ≤ 99999) : s196 d = wk d := s163_wk h
theorem s188_wd {d : Int} (h : 0 ≤ d ∧ d ≤ 99999) : s188 d = wd d := s188_emod h.1 (by omega)
theorem s180_wd {d : Int} (h : 0 ≤ d ∧ d ≤ 99999) : s180 d = wd d := s180_emod h.1 (by omega)
/-- the bit of a day in a week's mask -/
def bitD (d w : Int) : Int := if wk d = w then (2 ^ (wd d).toNat : Nat) else 0
def mkS : List Int → Int → Int
  | [], _ => 0
  | d :: l, w => bitD d w + mkS l w
theorem mkS_app (w : Int) : ∀ (l r : List Int), mkS (l ++ r) w = mkS l w + mkS r w
  | [], r => by simp [mkS]
  | d :: l, r => by rw [List.cons_append, mkS, mkS, mkS_app w l r]; omega
theorem bit_rng (d w : Int) : 0 ≤ bitD d w ∧ bitD d w ≤ 64 := by
  unfold bitD
  have h : (wd d).toNat < 7 := by unfold wd; omega
  split
  · have h7 : (wd d).toNat = 0 ∨ (wd d).toNat = 1 ∨ (wd d).toNat = 2 ∨ (wd d).toNat = 3 ∨ (wd d).toNat = 4 ∨ (wd d).toNat = 5 ∨ (wd d).toNat = 6 := by omega
    rcases h7 with e | e | e | e | e | e | e <;> rw [e] <;> decide
  · decide
theorem mkS_rng (w : Int) : ∀ l : List Int, 0 ≤ mkS l w ∧ mkS l w ≤ 64 * (l.length : Int)
  | [] => by simp [mkS]
  | d :: l => by
    have h1 := bit_rng d w
    have h2 := mkS_rng w l
    rw [mkS, List.length_cons]; omega
/-- a mask below a day's bit -/
theorem mkS_zero (w : Int) : ∀ l : List Int, (∀ d ∈ l, wk d ≠ w) → mkS l w = 0
  | [], _ => rfl
  | d :: l, h => by
    rw [mkS, mkS_zero w l fun z hz => h z (List.mem_cons_of_mem _ hz)]
    unfold bitD
    rw [if_neg (h d List.mem_cons_self)]; rfl
theorem mkS_lt : ∀ (n : Nat) (P : List Int) (y : Int), P.length = n → P.Pairwise (· < ·) → (∀ d ∈ P, d < y) → mkS P (wk y) < (2 ^ (wd y).toNat : Nat)
  | 0, P, y, hn, _, _ => by
    rw [List.length_eq_zero_iff.1 hn]
    exact Int.ofNat_lt.2 (Nat.two_pow_pos _)
  | n + 1, P, y, hn, hs, hy => by
    have hne : P ≠ [] := by intro e; rw [e] at hn; cases hn
    have e := (List.dropLast_concat_getLast hne).symm
    generalize P.dropLast = Q at e
    generalize P.getLast hne = z at e
    subst e
    obtain ⟨s1, _, s3⟩ := List.pairwise_append.1 hs
    have hz : z < y := hy z (by simp)
    have hQ : ∀ d ∈ Q, d < z := fun d hd => s3 d hd z (by simp)
    rw [mkS_app]
    by_cases hw : wk z = wk y
    · have ih := mkS_lt n Q z (by simpa using hn) s1 hQ
      rw [hw] at ih
      have hb : mkS [z] (wk y) = (2 ^ (wd z).toNat : Nat) := by simp [mkS, bitD, hw]
      have hd : (wd z).toNat + 1 ≤ (wd y).toNat := by unfold wk at hw; unfold wd; omega
      have hp := Nat.pow_le_pow_right (show 0 < 2 by decide) hd
      rw [Nat.pow_succ] at hp
      rw [hb]; omega
    · have h0 : mkS Q (wk y) = 0 := mkS_zero _ _ fun d hd => by
        have := hQ d hd
        unfold wk at *; omega
      have h1 : mkS [z] (wk y) = 0 := by simp [mkS, bitD, hw]
      have := Nat.two_pow_pos (wd y).toNat
      rw [h0, h1]; omega
end Go.Sim

namespace Go.Sim
/-! ## UseHistoric: the map of masks, and the scan -/
theorem or_bit : ∀ n < 7, ∀ k < 2 ^ n, orI ((k : Nat) : Int) (shlI 1 ((n : Nat) : Int)) = ((k + 2 ^ n : Nat) : Int) := by decide +kernel
theorem mget_mset9 {K V : Type} [DecidableEq K] (m : List (K × V)) (k j : K) (v : V) : mget (mset m k v) j = if k = j then some v else mget m j := by
  induction m with
  | nil => by_cases h : k = j <;> simp [mset, mget, h]
  | cons p m ih =>
    obtain ⟨a, b⟩ := p
    by_cases ha : a = k
    · subst ha
      by_cases h : a = j <;> simp [mset, mget, h]
    · by_cases h : a = j
      · subst h
        have hk : ¬ k = a := fun h => ha h.symm
        simp [mset, mget, ha, hk]
      · simp [mset, mget, ha, h, ih]
theorem mgetD_mset9 {K V : Type} [DecidableEq K] (m : List (K × V)) (k j : K) (v z : V) : mgetD (mset m k v) j z = if k = j then v else mgetD m j z := by
  unfold mgetD
  rw [mget_mset9]
  by_cases h : k = j <;> simp [h]
theorem masks_map (a0 : List Int) (ha : a0.Pairwise (· < ·)) (hr : ∀ d ∈ a0, 0 ≤ d ∧ d ≤ 99999) : ∀ (l P : List Int) (k : Nat) (m : List (Int × Int)), P ++ l = a0 → (∀ w, mgetD m w 0 = mkS P w) →
    ∃ m' k', s160_l2 a0 l k m = s160_l2 a0 [] k' m' ∧ ∀ w, mgetD m' w 0 = mkS a0 w
  | [], P, k, m, hP, hm => ⟨m, k, rfl, by rw [← hP, List.append_nil]; exact hm⟩
  | y :: l, P, k, m, hP, hm => by
    have hy := hr y (by rw [← hP]; simp)
    rw [← hP] at ha
    obtain ⟨p1, _, p3⟩ := List.pairwise_append.1 ha
    have hlt := mkS_lt P.length P y rfl p1 fun d hd => p3 d hd y List.mem_cons_self
    have hnn := (mkS_rng (wk y) P).1
    have hw7 : (wd y).toNat < 7 := by unfold wd; omega
    have hwd : wd y = (((wd y).toNat : Nat) : Int) := by unfold wd; omega
    have hS : mkS P (wk y) = (((mkS P (wk y)).toNat : Nat) : Int) := by omega
    have hor : orI (mgetD m (wk y) 0) (shlI 1 (wd y)) = mkS (P ++ [y]) (wk y) := by
      rw [hm, mkS_app, hS, hwd, or_bit _ hw7 _ (by omega)]
      simp only [mkS, bitD, if_true]
      push_cast
      omega
    conv => enter [1, m', 1, k', 1, 1]; rw [s160_l2, s196_wk hy, s188_wd hy, hor]
    refine masks_map a0 (by rw [← hP]; exact ha) hr l (P ++ [y]) (k + 1) _ (by rw [← hP]; simp) fun w => ?_
    rw [mgetD_mset9]
    by_cases h : wk y = w
    · rw [if_pos h, h]
    · rw [if_neg h, hm, mkS_app]
      simp [mkS, bitD, h]
theorem s164_in (rec1 : Nat → Int → Int) (x1 : Int) (k3 : Nat) : ∀ (n : Nat) (x7 x8 : Int), 0 ≤ x7 → x7 * 2 ^ n ≤ 1000000 → s164_l2 rec1 x1 k3 n x7 x8 = rec1 (k3 + 1) (IntKind.i64.wrap (x1 + x7 * 2 ^ n))
  | 0, x7, x8, _, _ => by rw [s164_l2, s164_j1]; simp
  | n + 1, x7, x8, h0, h1 => by
    have hp : (2 : Int) ^ (n + 1) = 2 ^ n * 2 := Int.pow_succ 2 n
    have hq : (1 : Int) ≤ 2 ^ n := by
      have := Nat.two_pow_pos n
      have h2 : ((2 ^ n : Nat) : Int) = (2 : Int) ^ n := by push_cast; rfl
      omega
    have e : 2 * x7 * 2 ^ n = x7 * 2 ^ (n + 1) := by rw [hp]; rw [Int.mul_comm 2 x7, Int.mul_assoc, Int.mul_comm 2 (2 ^ n)]
    have hle : 2 * x7 ≤ 2 * x7 * 2 ^ n := by
      have := Int.mul_le_mul_of_nonneg_left hq (show 0 ≤ 2 * x7 by omega)
      omega
    rw [s164_l2, wrap_i64 ⟨by omega, by omega⟩, s164_in rec1 x1 k3 n (2 * x7) (x8 + 1) (by omega) (by omega), e]
end Go.Sim

namespace Go.Sim
/-! ## sorting by insertion, in plain words -/
section
variable {α : Type}
/-! ### the walk's loops are this sort -/
theorem ixO_app {P B : List α} {x : α} : ixO (P ++ x :: B) (P.length : Int) = some x := by
  unfold ixO
  rw [decide_eq_true (by omega)]
  simp
theorem set_app {P B : List α} {x y : α} {n : Nat} (h : n = P.length) : List.set (P ++ x :: B) n y = P ++ y :: B := by
  subst h
  rw [List.set_append_right _ _ (Nat.le_refl _), Nat.sub_self, List.set_cons_zero]
end
end Go.Sim

namespace Go.Sim
/-! ## UseHistoric: both ways of joining -/
theorem s164_loop (w : Int) : ∀ (l : List Int) (k : Nat) (x : Int), (∀ d ∈ l, 0 ≤ d ∧ d ≤ 99999) → 0 ≤ x → x + 64 * (l.length : Int) ≤ 100000 → s164_l1 w l k x = x + mkS l w
  | [], k, x, _, _, _ => by rw [s164_l1]; simp [mkS]
  | y :: l, k, x, h, h0, h1 => by
    have hy := h y List.mem_cons_self
    have hb := bit_rng y w
    rw [List.length_cons] at h1
    have ih := fun x h0 h1 => s164_loop w l (k + 1) x (fun z hz => h z (List.mem_cons_of_mem _ hz)) h0 h1
    rw [s164_l1, s163_wk hy, s180_wd hy, mkS]
    by_cases hw : wk y = w
    · rw [decide_eq_true hw, cond_true]
      have e : bitD y w = (2 : Int) ^ (wd y).toNat := by unfold bitD; rw [if_pos hw]; push_cast; rfl
      rw [e] at hb ⊢
      have e0 : (wd y - 0).toNat = (wd y).toNat := by simp
      rw [e0, s164_in _ x k (wd y).toNat 1 0 (by omega) (by omega), Int.one_mul, wrap_i64 ⟨by omega, by omega⟩, ih _ (by omega) (by omega)]
      omega
    · rw [decide_eq_false hw, cond_false, s164_j1, ih x h0 (by omega)]
      unfold bitD
      rw [if_neg hw]; omega
theorem s164_ok {l : List Int} (w : Int) (h : ∀ d ∈ l, 0 ≤ d ∧ d ≤ 99999) (hl : l.length ≤ 401) : s164 l w = mkS l w := by
  unfold s164
  rw [s164_loop w l 0 0 h (by omega) (by omega)]; omega
theorem runs (a0 : List Int) (m : List (Int × Int)) (hr : ∀ d ∈ a0, 0 ≤ d ∧ d ≤ 99999) (hlen : a0.length ≤ 401) (hm : ∀ w, mgetD m w 0 = mkS a0 w) :
    ∀ (l : List Int) (i : Nat) (x10 : List S45) (y13 y14 x20 x2 : Int) (k12 k21 : Nat), x10.length ≤ i → a0.drop (i + 1) = l → a0[i]? = some x20 → 0 ≤ y13 ∧ y13 ≤ 99999 → x2 = wk x20 - wk y13 + 1 → 1 ≤ x2 ∧ x2 ≤ 57 → l.length < k12 → l.length < k21 → i + 1 + l.length = a0.length →
    s160_l4 (fun z0_ z1_ => s160_l3 a0 m k12 z0_ z1_) a0 m x10 y13 y14 k21 (((i + 1 : Nat)) : Int) (wk x20) x20 = (bindO (s112_l1 a0 l (i + 1) (x10 ++ [⟨y14, x20, mkS a0 (wk y13)⟩]) x2) fun r => some (r, 0))
  | [], i, x10, y13, y14, x20, x2, k12, k21, h10, hd, hx, hy, h2, h2r, hk, hk2, hn => by
    obtain ⟨k12, rfl⟩ : ∃ k, k12 = k + 1 := ⟨k12 - 1, by omega⟩
    obtain ⟨k21, rfl⟩ : ∃ k, k21 = k + 1 := ⟨k21 - 1, by simp at hk2; omega⟩
    have hn : i + 1 = a0.length := by simpa using hn
    have e : decide ((((i + 1 : Nat)) : Int) < (List.length a0 : Int)) = false := decide_eq_false (by omega)
    rw [s160_l4, e, cond_false, s160_j1, s160_l3, e, cond_false, s112_l1, s197, s196_wk hy, hm]
    rfl
  | y :: l, i, x10, y13, y14, x20, x2, k12, k21, h10, hd, hx, hy, h2, h2r, hk, hk2, hn => by
    obtain ⟨k12, rfl⟩ : ∃ k, k12 = k + 1 := ⟨k12 - 1, by omega⟩
    obtain ⟨k21, rfl⟩ : ∃ k, k21 = k + 1 := ⟨k21 - 1, by omega⟩
    rw [List.length_cons] at hk hk2 hn
    have hyi : a0[i + 1]? = some y := by
      have : (a0.drop (i + 1))[0]? = some y := by rw [hd]; rfl
      simpa using this
    have hdn : a0.drop (i + 1 + 1) = l := by
      have : a0.drop (i + 1 + 1) = (a0.drop (i + 1)).drop 1 := by rw [List.drop_drop]
      rw [this, hd]; rfl
    have hyr := hr y (List.mem_of_getElem? hyi)
    have hxr := hr x20 (List.mem_of_getElem? hx)
    have hw0 : 0 ≤ wk y ∧ wk y ≤ 20000 := by unfold wk; omega
    have hw1 : 0 ≤ wk x20 ∧ wk x20 ≤ 20000 := by unfold wk; omega
    have hw2 : 0 ≤ wk y13 ∧ wk y13 ≤ 20000 := by unfold wk; omega
    have e : decide ((((i + 1 : Nat)) : Int) < (List.length a0 : Int)) = true := decide_eq_true (by omega)
    have e0 : decide ((0 : Int) < (((i + 1 : Nat)) : Int)) = true := decide_eq_true (by omega)
    have ep : ixO a0 (IntKind.i64.wrap ((((i + 1 : Nat)) : Int) - 1)) = some x20 := by
      rw [wrap_i64 ⟨by omega, by omega⟩]
      have : (((i + 1 : Nat)) : Int) - 1 = ((i : Nat) : Int) := by omega
      rw [this]; exact ixO_n hx
    have ei : ixO a0 (((i + 1 : Nat)) : Int) = some y := ixO_n hyi
    have ew : IntKind.i64.wrap ((((i + 1 : Nat)) : Int) + 1) = (((i + 1 + 1 : Nat)) : Int) := by rw [wrap_i64 ⟨by omega, by omega⟩]; omega
    have hset : ∀ (q v : S45), ixO (x10 ++ [q]) (IntKind.i64.wrap ((List.length (x10 ++ [q]) : Int) - 1)) = some q ∧ List.set (x10 ++ [q]) (Int.toNat (IntKind.i64.wrap ((List.length (x10 ++ [q]) : Int) - 1))) v = x10 ++ [v] := fun q v => by
      have hl : (List.length (x10 ++ [q]) : Int) - 1 = (x10.length : Int) := by simp
      rw [hl]
      have hw : IntKind.i64.wrap (x10.length : Int) = (x10.length : Int) := wrap_i64 ⟨by omega, by omega⟩
      rw [hw]
      exact ⟨ixO_app, set_app (by simp)⟩
    have hlow := mkS_rng (wk y) a0
    rw [s160_l4, e, cond_true, ei]
    simp only [bindO]
    rw [s196_wk hyr, s196_wk hy, hm, hm, s112_l1, e0, cond_true, ep]
    simp only [bindO, Bool.true_and]
    rw [s163_wk hxr, s163_wk hyr]
    by_cases hA : wk y = wk x20
    · rw [decide_eq_true hA, cond_true, s160_j2, ei]
      simp only [bindO]
      rw [ew, decide_eq_true hA.symm, cond_true, (hset _ default).1]
      simp only
      rw [s112_j1, (hset _ _).2, ← hA]
      exact runs a0 m hr hlen hm l (i + 1) x10 y13 y14 y x2 (k12 + 1) k21 (by omega) hdn hyi hy (by rw [hA]; exact h2) h2r (by omega) (by omega) (by omega)
    · have hA' : ¬ wk x20 = wk y := fun e => hA e.symm
      have els : s160_j1 (fun z0_ z1_ => s160_l3 a0 m (k12 + 1) z0_ z1_) m x10 y13 y14 (((i + 1 : Nat)) : Int) x20 = (bindO (s112_l1 a0 l (i + 1 + 1) ((x10 ++ [⟨y14, x20, mkS a0 (wk y13)⟩]) ++ [⟨y, y, mkS a0 (wk y)⟩]) 1) fun r => some (r, 0)) := by
        rw [s160_j1, s196_wk hy, hm, s160_l3, e, cond_true, ei]
        simp only [bindO]
        rw [s196_wk hyr]
        have hf : (((List.length a0 : Int) - (((i + 1 : Nat)) : Int)).toNat + 1) = l.length + 1 + 1 := by omega
        rw [hf, s160_l4, e, cond_true, ei]
        simp only [bindO]
        rw [s196_wk hyr, decide_eq_true rfl, cond_true, s160_j2, ei]
        simp only [bindO]
        rw [ew]
        exact runs a0 m hr hlen hm l (i + 1) _ y y y 1 k12 (l.length + 1) (by simp; omega) hdn hyi hyr (by omega) (by omega) (by omega) (by omega) (by omega)
      rw [decide_eq_false hA, cond_false, decide_eq_false hA', cond_false, wrap_i64 (n := wk x20 + 1) ⟨by omega, by omega⟩, wrap_i64 (n := wk y - wk y13) ⟨by omega, by omega⟩, wrap_i64 (n := wk y - 1) ⟨by omega, by omega⟩, s164_ok _ hr hlen]
      by_cases hB : wk y = wk x20 + 1
      · rw [decide_eq_true hB, decide_eq_true (by omega : wk x20 = wk y - 1)]
        simp only [Bool.true_and, cond_true]
        rw [(hset _ default).1]
        simp only
        by_cases hC : mkS a0 (wk y) = mkS a0 (wk y13)
        · rw [decide_eq_true hC, decide_eq_true hC.symm, Bool.true_and, Bool.true_and]
          by_cases hD : x2 < 57
          · rw [decide_eq_true hD, decide_eq_true (by omega : wk y - wk y13 < 57), cond_true, cond_true, s160_j2, ei]
            simp only [bindO]
            rw [ew, s112_j1, (hset _ _).2, wrap_i64 (n := x2 + 1) ⟨by omega, by omega⟩]
            exact runs a0 m hr hlen hm l (i + 1) x10 y13 y14 y (x2 + 1) (k12 + 1) k21 (by omega) hdn hyi hy (by omega) (by omega) (by omega) (by omega) (by omega)
          · rw [decide_eq_false hD, decide_eq_false (by omega : ¬ wk y - wk y13 < 57), cond_false, cond_false, s112_j1]
            exact els
        · have hC' : ¬ mkS a0 (wk y13) = mkS a0 (wk y) := fun e => hC e.symm
          rw [decide_eq_false hC, decide_eq_false hC']
          simp only [Bool.false_and, cond_false]
          rw [s112_j1]
          exact els
      · rw [decide_eq_false hB, decide_eq_false (by omega : ¬ wk x20 = wk y - 1), Bool.false_and, Bool.false_and, cond_false]
        simp only [Bool.false_and, cond_false]
        rw [s112_j1]
        exact els
end Go.Sim

namespace Go.Sim
theorem checks_ok (a0 : List Int) (ha : a0.Pairwise (· < ·)) (hr : ∀ d ∈ a0, 0 ≤ d ∧ d ≤ 99999) (hlen : a0.length ≤ 401) : ∀ (l : List Int) (k : Nat), a0.drop k = l → k + l.length = a0.length → s160_l1 a0 l k = s160_l2 a0 a0 0 []
  | [], k, _, _ => by rw [s160_l1]
  | y :: l, k, hd, hn => by
    rw [List.length_cons] at hn
    have hyk : a0[k]? = some y := by
      have : (a0.drop k)[0]? = some y := by rw [hd]; rfl
      simpa using this
    have hdn : a0.drop (k + 1) = l := by
      have : a0.drop (k + 1) = (a0.drop k).drop 1 := by rw [List.drop_drop]
      rw [this, hd]; rfl
    have hy := hr y (List.mem_of_getElem? hyk)
    have h153 : s153 y = 0 := by
      unfold s153 s155 s154
      rw [decide_eq_false (by omega : ¬ y < 0), decide_eq_false (by omega : ¬ 99999 < y)]
      rfl
    have ih := checks_ok a0 ha hr hlen l (k + 1) hdn (by omega)
    rw [s160_l1, h153]
    cases k with
    | zero => exact ih
    | succ j =>
      have hj : j < a0.length := by omega
      have e0 : decide ((0 : Int) < (((j + 1 : Nat)) : Int)) = true := decide_eq_true (by omega)
      have ep : ixO a0 (max 0 (IntKind.i64.wrap ((((j + 1 : Nat)) : Int) - 1))) = some a0[j] := by
        rw [wrap_i64 ⟨by omega, by omega⟩]
        have : max 0 ((((j + 1 : Nat)) : Int) - 1) = ((j : Nat) : Int) := by omega
        rw [this]; exact ixO_n (List.getElem?_eq_getElem hj)
      have hj1 : j + 1 < a0.length := by omega
      have hyj : a0[j + 1] = y := by rw [List.getElem?_eq_getElem hj1] at hyk; exact Option.some.inj hyk
      have hlt : a0[j] < y := by rw [← hyj]; exact List.pairwise_iff_getElem.1 ha j (j + 1) hj hj1 (by omega)
      rw [e0, cond_true, ep]
      simp only [bindO]
      rw [decide_eq_false (by omega : ¬ y ≤ a0[j])]
      have e : s152 [0, s154 (true && false) 11] = 0 := rfl
      rw [e, decide_eq_false (by decide), cond_false]
      exact ih
theorem total112 (a0 : List Int) (hlen : a0.length ≤ 401) : ∀ (l : List Int) (i : Nat) (x10 : List S45) (q : S45) (x2 : Int), x10.length ≤ i → i + 1 + l.length = a0.length → ∃ R, s112_l1 a0 l (i + 1) (x10 ++ [q]) x2 = some R
  | [], i, x10, q, x2, _, _ => ⟨_, by rw [s112_l1]⟩
  | y :: l, i, x10, q, x2, h10, hn => by
    rw [List.length_cons] at hn
    have hi : i < a0.length := by omega
    have e0 : decide ((0 : Int) < (((i + 1 : Nat)) : Int)) = true := decide_eq_true (by omega)
    have ep : ixO a0 (IntKind.i64.wrap ((((i + 1 : Nat)) : Int) - 1)) = some a0[i] := by
      rw [wrap_i64 ⟨by omega, by omega⟩]
      have : (((i + 1 : Nat)) : Int) - 1 = ((i : Nat) : Int) := by omega
      rw [this]; exact ixO_n (List.getElem?_eq_getElem hi)
    have hset : ∀ v : S45, ixO (x10 ++ [q]) (IntKind.i64.wrap ((List.length (x10 ++ [q]) : Int) - 1)) = some q ∧ List.set (x10 ++ [q]) (Int.toNat (IntKind.i64.wrap ((List.length (x10 ++ [q]) : Int) - 1))) v = x10 ++ [v] := fun v => by
      have hl : (List.length (x10 ++ [q]) : Int) - 1 = (x10.length : Int) := by simp
      have hw : IntKind.i64.wrap (x10.length : Int) = (x10.length : Int) := wrap_i64 ⟨by omega, by omega⟩
      rw [hl, hw]
      exact ⟨ixO_app, set_app (by simp)⟩
    have ih := fun x10 q x2 h => total112 a0 hlen l (i + 1) x10 q x2 h (by omega)
    rw [s112_l1, e0, cond_true, ep]
    simp only [bindO, Bool.true_and, (hset default).1, s112_j1, (hset _).2]
    cases decide (s163 a0[i] = s163 y)
    · rw [cond_false]
      cases decide (s163 a0[i] = IntKind.i64.wrap (s163 y - 1))
      · simp only [cond_false, Bool.false_and]
        exact ih _ _ _ (by simp; omega)
      · simp only [cond_true, Bool.true_and]
        cases (decide (q.Days = s164 a0 (s163 y)) && decide (x2 < 57))
        · rw [cond_false]; exact ih _ _ _ (by simp; omega)
        · rw [cond_true]; exact ih _ _ _ (by omega)
    · rw [cond_true]; exact ih _ _ _ (by omega)
theorem joinOk : JoinOk := by
  intro a0 ha hr hlen
  obtain ⟨m, k', h1, h2⟩ := masks_map a0 ha hr a0 [] 0 [] rfl (fun w => rfl)
  have h0 : s160 a0 = s160_l3 a0 m (a0.length + 1) [] 0 := by
    unfold s160
    rw [decide_eq_false (by omega), cond_false, checks_ok a0 ha hr hlen a0 0 rfl (by simp), h1, s160_l2]
    have : (((List.length a0 : Int) - 0).toNat + 1) = a0.length + 1 := by omega
    rw [this]
  rw [h0]
  unfold s112
  cases a0 with
  | nil => exact ⟨[], by rw [s160_l3]; rfl, by rw [s112_l1]⟩
  | cons y l =>
    have hy := hr y List.mem_cons_self
    have e : decide ((0 : Int) < (List.length (y :: l) : Int)) = true := decide_eq_true (by simp only [List.length_cons]; omega)
    have ei : ixO (y :: l) 0 = some y := rfl
    have hf : (((List.length (y :: l) : Int) - 0).toNat + 1) = l.length + 1 + 1 := by simp
    have key := runs (y :: l) m hr hlen h2 l 0 [] y y y 1 (y :: l).length (l.length + 1) (by simp) rfl rfl hy (by omega) (by omega) (by simp) (by omega) (by simp; omega)
    obtain ⟨R, hR⟩ := total112 (y :: l) hlen l 0 [] ⟨y, y, mkS (y :: l) (wk y)⟩ 1 (by simp) (by simp; omega)
    rw [hR] at key
    refine ⟨R, ?_, ?_⟩
    · rw [s160_l3, e, cond_true, ei]
      simp only [bindO]
      rw [s196_wk hy, hf, s160_l4, e, cond_true, ei]
      simp only [bindO]
      rw [s196_wk hy, decide_eq_true rfl, cond_true, s160_j2, ei]
      simp only [bindO]
      rw [wrap_i64 (n := (0 : Int) + 1) ⟨by omega, by omega⟩]
      exact key
    · rw [s112_l1]
      have z : decide ((0 : Int) < (((0 : Nat)) : Int)) = false := rfl
      rw [z]
      simp only [cond_false, Bool.false_and, bindO, s112_j1]
      rw [s163_wk hy, s164_ok _ hr hlen]
      exact hR
theorem s6_true (a0 : S45) (a1 : S67) : s6 a0 a1 = some true := s6_of joinOk a0 a1
end Go.Sim

