/-
  What is proved: lemmas and contracts of functions on the way to the law groundQuotas (part 10).
-/
import Derived.Test.YthhidpjikbhljaaGreatDoorVrA5
import Derived.Test.YthhidpjikbhljaaGreatDoorVrA9
import Derived.Test.YthhidpjikbhljaaGreatDoorVrA8
set_option linter.unusedSectionVars false
set_option linter.unusedSimpArgs false
set_option linter.unusedVariables false
set_option linter.unnecessarySimpa false
set_option linter.deprecated false
namespace Go.Sim
theorem mget_mset {K V : Type} [DecidableEq K] (m : List (K × V)) (k j : K) (v : V) : mget (mset m k v) j = if k = j then some v else mget m j := by
 induction m with
 | nil => by_cases h : k = j <;> simp [mset, mget, h]
 | cons p m ih =>
  obtain ⟨a, b⟩ := p
  by_cases ha : a = k
  ·subst ha
   by_cases h : a = j <;> simp [mset, mget, h]
  ·by_cases h : a = j
   ·subst h;have hk : ¬ k = a := fun h => ha h.symm
    simp [mset, mget, ha, hk]
   ·simp [mset, mget, ha, h, ih]
theorem mgetD_mset {K V : Type} [DecidableEq K] (m : List (K × V)) (k j : K) (v z : V) : mgetD (mset m k v) j z = if k = j then v else mgetD m j z := by
 unfold mgetD;rw [mget_mset]
 by_cases h : k = j <;> simp [h]
section
variable {K V : Type} [DecidableEq K]
theorem mset_keys : ∀ (m : List (K × V)) (k : K) (v : V), (mset m k v).map Prod.fst = if k ∈ m.map Prod.fst then m.map Prod.fst else m.map Prod.fst ++ [k]
 | [], k, v => by simp [mset]
 | (a, b) :: r, k, v => by
  rw [mset]
  by_cases hk : a = k
  ·subst hk; simp
  ·have hk' : ¬ k = a := fun e => hk e.symm;rw [decide_eq_false hk, cond_false, List.map_cons, mset_keys r k v]
   by_cases h : k ∈ r.map Prod.fst
   ·rw [if_pos h, if_pos (by simp only [List.map_cons]; exact List.mem_cons_of_mem _ h)]; rfl
   ·rw [if_neg h, if_neg (by simp only [List.map_cons, List.mem_cons]; rintro (e | e); exact hk' e; exact h e)]; rfl
theorem mset_nodup {m : List (K × V)} (h : (m.map Prod.fst).Nodup) (k : K) (v : V) : ((mset m k v).map Prod.fst).Nodup := by
 rw [mset_keys]
 by_cases hk : k ∈ m.map Prod.fst
 ·rw [if_pos hk]; exact h
 ·rw [if_neg hk, List.nodup_append];exact ⟨h, by simp, fun a ha b hb => by rw [List.mem_singleton.1 hb]; intro e; exact hk (e ▸ ha)⟩
def msum (f : V → Int) (m : List (K × V)) : Int := (m.map fun p => f p.2).sum
theorem msum_mset (f : V → Int) (z : V) (hz : f z = 0) : ∀ (m : List (K × V)) (k : K) (v : V), msum f (mset m k v) = msum f m + f v - f (mgetD m k z)
 | [], k, v => by simp [mset, msum, mgetD, mget, hz]
 | (a, b) :: r, k, v => by
  have ih := msum_mset f z hz r k v;unfold msum at ih ⊢;rw [mset]
  by_cases hk : a = k
  ·subst hk; simp [mgetD, mget]; omega
  ·have e : mgetD ((a, b) :: r) k z = mgetD r k z := by simp [mgetD, mget, hk]
   rw [decide_eq_false hk, cond_false, e, List.map_cons, List.map_cons, List.sum_cons, List.sum_cons, ih]
   omega
end
theorem mgetD_of {K V : Type} [DecidableEq K] {z : V} : ∀ {m : List (K × V)}, (m.map Prod.fst).Nodup → ∀ {p : K × V}, p ∈ m → mgetD m p.1 z = p.2
 | [], _, p, hp => by cases hp
 | (a, b) :: r, hn, p, hp => by
  rw [List.map_cons, List.nodup_cons] at hn
  by_cases h : a = p.1
  ·have : p = (a, b) := by
    rcases List.mem_cons.1 hp with e | e
    ·exact e
    ·have h2 := List.mem_map_of_mem (f := Prod.fst) e;rw [← h] at h2; exact absurd h2 hn.1
   subst this; simp [mgetD, mget]
  ·rcases List.mem_cons.1 hp with e | e
   ·subst e; exact absurd rfl h
   ·have ih := mgetD_of (z := z) hn.2 e;rw [← ih]; simp [mgetD, mget, h]
theorem s1120_eq {n : S1085} {m : Int} (h0 : 0 ≤ m) (h1 : m ≤ 143999999) : s1120 n m = if (s1052 n m).2 = true then (s1052 n m).1 else -1 := by
 have e1 : Int.tmod m 1440 = m % 1440 := Int.tmod_eq_emod_of_nonneg h0;have e2 : Int.tdiv m 1440 = m / 1440 := Int.tdiv_eq_ediv_of_nonneg h0;have w1 : IntKind.i64.wrap (m / 1440) = m / 1440 := wrap_i64 (by unfold I64; omega);have w2 : IntKind.i64.wrap (m / 1440 - 1) = m / 1440 - 1 := wrap_i64 (by unfold I64; omega);unfold s1120 s1052;rw [e1, e2, w1, w2]
 have hq : 0 ≤ m / 1440 := by omega
 generalize m / 1440 = q at *;generalize m % 1440 = r at *;simp only [cond_eq_ite, Bool.and_eq_true, Bool.or_eq_true, decide_eq_true_eq]
 by_cases c1 : n.fFrom < n.fTo <;> by_cases c2 : r < n.fFrom <;> by_cases c3 : r < n.fTo <;> by_cases c4 : 0 < q
 all_goals
  have d2 : (n.fFrom ≤ r) = ¬ (r < n.fFrom) := by rw [Int.not_lt]
  have d3 : (n.fTo ≤ r) = ¬ (r < n.fTo) := by rw [Int.not_lt]
  (try simp [c1, c2, c3, c4, d2, d3]) <;> (try omega)
def qd (a0 : S1089) (m : S1079) : Bool := ((s1052 a0.Night m.Moment).2 && decide (beg a0.Season ≤ (s1052 a0.Night m.Moment).1)) && decide ((s1052 a0.Night m.Moment).1 ≤ nxt a0.Season - 1)
theorem qd_eq {a0 : S1089} (hs : okS a0.Season) {m : S1079} (h : MovOk m) : ((decide (beg a0.Season ≤ (s1120 a0.Night m.Moment))) && (decide ((s1120 a0.Night m.Moment) ≤ nxt a0.Season - 1))) = qd a0 m := by
 have hb := beg_rng hs;rw [s1120_eq h.m0 h.m1];unfold qd
 cases (s1052 a0.Night m.Moment).2
 ·simp; omega
 ·simp
section
variable (q : S1079 → Bool)
def cU (l : List S1079) (k : ByteArray) : Int := ((l.filter fun m => q m && decide (m.Name = k)).length : Int)
def pU (l : List S1079) (k : ByteArray) : Int := ((l.filter fun m => q m && decide (m.Name = k)).map S1079.Noise).sum
def cA (l : List S1079) : Int := ((l.filter q).length : Int)
def pA (l : List S1079) : Int := ((l.filter q).map S1079.Noise).sum
theorem sum_rng {l : List S1079} (h : ∀ m ∈ l, 0 ≤ m.Noise ∧ m.Noise ≤ 99) : 0 ≤ (l.map S1079.Noise).sum ∧ (l.map S1079.Noise).sum ≤ 99 * (l.length : Int) := by
 induction l with
 | nil => simp
 | cons a l ih =>
  have h1 := h a List.mem_cons_self;have h2 := ih fun m hm => h m (List.mem_cons_of_mem _ hm);rw [List.map_cons, List.sum_cons, List.length_cons]
  omega
theorem len_filter (p : S1079 → Bool) (l : List S1079) : (l.filter p).length ≤ l.length := List.length_filter_le _ _
theorem flt_rng (p : S1079 → Bool) {l : List S1079} (h : ∀ m ∈ l, 0 ≤ m.Noise ∧ m.Noise ≤ 99) : 0 ≤ ((l.filter p).map S1079.Noise).sum ∧ ((l.filter p).map S1079.Noise).sum ≤ 99 * (l.length : Int) := by
 have h1 := sum_rng (l := l.filter p) fun m hm => h m (List.mem_filter.1 hm).1;have h2 := len_filter p l
 omega
theorem cU_snoc (l : List S1079) (y : S1079) (k : ByteArray) : cU q (l ++ [y]) k = cU q l k + if q y = true ∧ y.Name = k then 1 else 0 := by
 unfold cU;rw [List.filter_append]
 by_cases h : q y = true ∧ y.Name = k
 ·rw [if_pos h]; simp [h.1, h.2]
 ·rw [if_neg h]
  have : (q y && decide (y.Name = k)) = false := by
   cases hq : q y
   ·rfl
   ·simp; exact fun e => h ⟨hq, e⟩
  simp [this]
theorem pU_snoc (l : List S1079) (y : S1079) (k : ByteArray) : pU q (l ++ [y]) k = pU q l k + if q y = true ∧ y.Name = k then y.Noise else 0 := by
 unfold pU;rw [List.filter_append]
 by_cases h : q y = true ∧ y.Name = k
 ·rw [if_pos h]; simp [h.1, h.2]
 ·rw [if_neg h]
  have : (q y && decide (y.Name = k)) = false := by
   cases hq : q y
   ·rfl
   ·simp; exact fun e => h ⟨hq, e⟩
  simp [this]
theorem cA_snoc (l : List S1079) (y : S1079) : cA q (l ++ [y]) = cA q l + if q y = true then 1 else 0 := by
 unfold cA; rw [List.filter_append]; cases h : q y <;> simp [h]
theorem pA_snoc (l : List S1079) (y : S1079) : pA q (l ++ [y]) = pA q l + if q y = true then y.Noise else 0 := by
 unfold pA; rw [List.filter_append]; cases h : q y <;> simp [h]
abbrev Mp := List (ByteArray × S1143)
def tabU : List S1079 → Mp → Mp
 | [], m => m
 | y :: l, m => tabU l (if q y = true then mset m y.Name (S1143.mk (IntKind.i64.wrap (((mgetD m y.Name (S1143.mk 0 0)).Count) + 1)) (IntKind.i64.wrap (((mgetD m y.Name (S1143.mk 0 0)).Points) + y.Noise))) else m)
structure TabOk (pre : List S1079) (m : Mp) : Prop where
 nd : (m.map Prod.fst).Nodup
 ky : ∀ k, k ∈ m.map Prod.fst ↔ 0 < cU q pre k
 vl : ∀ k, mgetD m k (S1143.mk 0 0) = S1143.mk (cU q pre k) (pU q pre k)
 sc : msum S1143.Count m = cA q pre
 sp : msum S1143.Points m = pA q pre
theorem tabU_ok : ∀ (rest pre : List S1079) (m : Mp), (pre ++ rest).length ≤ 1000 → (∀ m ∈ pre ++ rest, 0 ≤ m.Noise ∧ m.Noise ≤ 99) → TabOk q pre m → TabOk q (pre ++ rest) (tabU q rest m)
 | [], pre, m, _, _, h => by rw [List.append_nil]; exact h
 | y :: rest, pre, m, hl, hn, h => by
  have e : pre ++ y :: rest = (pre ++ [y]) ++ rest := by simp
  rw [e, tabU];rw [e] at hl hn;refine tabU_ok rest (pre ++ [y]) _ hl hn ?_
  have hlen : pre.length ≤ 1000 := by simp only [List.length_append] at hl; omega
  have hpn : ∀ m ∈ pre, 0 ≤ m.Noise ∧ m.Noise ≤ 99 := fun m hm => hn m (by simp [hm]);have hyn := hn y (by simp)
  by_cases hq : q y = true
  ·rw [if_pos hq]
   have c1 : 0 ≤ cU q pre y.Name ∧ cU q pre y.Name ≤ pre.length := by unfold cU; have := len_filter (fun m => q m && decide (m.Name = y.Name)) pre; omega
   have c2 : 0 ≤ pU q pre y.Name ∧ pU q pre y.Name ≤ 99 * (pre.length : Int) := flt_rng _ hpn
   have hv : (S1143.mk (IntKind.i64.wrap (((mgetD m y.Name (S1143.mk 0 0)).Count) + 1)) (IntKind.i64.wrap (((mgetD m y.Name (S1143.mk 0 0)).Points) + y.Noise))) = S1143.mk (cU q pre y.Name + 1) (pU q pre y.Name + y.Noise) := by
    rw [h.vl];rw [wrap_i64 (by unfold I64; dsimp only; omega), wrap_i64 (by unfold I64; dsimp only; omega)]
   rw [hv];refine ⟨mset_nodup h.nd _ _, fun k => ?_, fun k => ?_, ?_, ?_⟩
   ·rw [mset_keys, cU_snoc]
    by_cases hk : y.Name = k
    ·subst hk;rw [show (if q y = true ∧ y.Name = y.Name then (1 : Int) else 0) = 1 from if_pos ⟨hq, rfl⟩]
     constructor
     ·intro _; omega
     ·intro _; split
      ·assumption
      ·simp
    ·rw [show (if q y = true ∧ y.Name = k then (1 : Int) else 0) = 0 from if_neg fun e => hk e.2, Int.add_zero, ← h.ky]
     split
     ·rfl
     ·simp; intro e; exact absurd e.symm hk
   ·rw [mgetD_mset, cU_snoc, pU_snoc]
    by_cases hk : y.Name = k
    ·subst hk; rw [if_pos rfl, if_pos ⟨hq, rfl⟩, if_pos ⟨hq, rfl⟩]
    ·rw [if_neg hk, if_neg fun e => hk e.2, if_neg fun e => hk e.2, Int.add_zero, Int.add_zero, h.vl]
   ·rw [msum_mset S1143.Count (S1143.mk 0 0) rfl, h.sc, cA_snoc, if_pos hq, h.vl]; dsimp only; omega
   ·rw [msum_mset S1143.Points (S1143.mk 0 0) rfl, h.sp, pA_snoc, if_pos hq, h.vl]; dsimp only; omega
  ·rw [if_neg hq];refine ⟨h.nd, fun k => ?_, fun k => ?_, ?_, ?_⟩
   ·rw [cU_snoc, if_neg fun e => hq e.1, Int.add_zero]; exact h.ky k
   ·rw [cU_snoc, pU_snoc, if_neg fun e => hq e.1, if_neg fun e => hq e.1, Int.add_zero, Int.add_zero]; exact h.vl k
   ·rw [cA_snoc, if_neg hq, Int.add_zero]; exact h.sc
   ·rw [pA_snoc, if_neg hq, Int.add_zero]; exact h.sp
theorem tabU_nil : TabOk q [] [] := ⟨List.nodup_nil, fun k => by simp [cU], fun k => rfl, rfl, rfl⟩
end
theorem s1132_run {a0 : S1089} (hs : okS a0.Season) : ∀ (l : List S1079) (k : Nat) (m : Mp), (∀ m ∈ l, MovOk m) → s1132_l1 a0 (⟨beg a0.Season, nxt a0.Season - 1, 127⟩, 0) l k m = some (tabU (qd a0) l m)
 | [], k, m, _ => rfl
 | y :: l, k, m, h => by
  rw [s1132_l1];unfold s1132_j1;have e := qd_eq hs (h y List.mem_cons_self);rw [show ((decide (beg a0.Season ≤ (s1120 a0.Night y.Moment))) && (decide ((s1120 a0.Night y.Moment) ≤ nxt a0.Season - 1))) = qd a0 y from e, tabU]
  cases hq : qd a0 y
  ·rw [cond_false, if_neg (by simp)]; dsimp only; rw [s1132_run hs l _ _ fun m hm => h m (List.mem_cons_of_mem _ hm)]
  ·rw [cond_true, if_pos rfl]; dsimp only; rw [s1132_run hs l _ _ fun m hm => h m (List.mem_cons_of_mem _ hm)]
theorem s1132_ok {a0 : S1089} (hs : okS a0.Season) {l : List S1079} (h : ∀ m ∈ l, MovOk m) (hl : l.length ≤ 12) : ∃ m, s1132 a0 l = some m ∧ TabOk (qd a0) l m := by
 refine ⟨tabU (qd a0) l [], ?_, ?_⟩
 ·unfold s1132;rw [s70_ok hs];exact s1132_run hs l 0 [] h
 ·have := tabU_ok (qd a0) l [] [] (by simp; omega) (fun m hm => by have := h m (by simpa using hm); exact ⟨this.n0, this.n1⟩) (tabU_nil _)
  simpa using this
def nmq (a2 : ByteArray) (m : S1079) : Bool := decide (a2 = (⟨#[]⟩ : ByteArray)) || decide (a2 = m.Name)
theorem s1074_run {a0 : S1089} (a2 : ByteArray) : ∀ (l : List S1079) (k : Nat) (x y : Int), (∀ m ∈ l, MovOk m) → 0 ≤ x → x + l.length ≤ 1000 → 0 ≤ y → y + 99 * (l.length : Int) ≤ 100000 →
  s1074_l1 (s1049 a0) a2 ⟨beg a0.Season, nxt a0.Season - 1, 127⟩ l k x y = some ⟨x + cA (fun m => qd a0 m && nmq a2 m) l, y + pA (fun m => qd a0 m && nmq a2 m) l⟩
 | [], k, x, y, _, _, _, _, _ => by simp [s1074_l1, cA, pA]
 | z :: l, k, x, y, h, h0, h1, h2, h3 => by
  rw [s1074_l1];unfold s1074_j1;have hz := h z List.mem_cons_self;have hz0 := hz.n0;have hz1 := hz.n1;rw [List.length_cons] at h1 h3;have e : (((((s1052 (s1049 a0).Night z.Moment).2) && (decide (beg a0.Season ≤ (s1052 (s1049 a0).Night z.Moment).1))) && (decide ((s1052 (s1049 a0).Night z.Moment).1 ≤ nxt a0.Season - 1))) && ((decide (a2 = (⟨#[]⟩))) || (decide (a2 = z.Name)))) = (qd a0 z && nmq a2 z) := rfl;dsimp only;rw [e]
  cases hq : qd a0 z && nmq a2 z
  ·rw [cond_false, s1074_run a2 l _ _ _ (fun m hm => h m (List.mem_cons_of_mem _ hm)) h0 (by omega) h2 (by omega)];unfold cA pA;rw [List.filter_cons_of_neg (by rw [hq]; decide)]
  ·rw [cond_true, wrap_i64 (by unfold I64; omega), wrap_i64 (by unfold I64; omega), s1074_run a2 l _ _ _ (fun m hm => h m (List.mem_cons_of_mem _ hm)) (by omega) (by omega) (by omega) (by omega)];unfold cA pA;rw [List.filter_cons_of_pos (p := fun m => qd a0 m && nmq a2 m) hq, List.length_cons, List.map_cons, List.sum_cons]
   push_cast
   congr 2 <;> omega
theorem s1074_ok {a0 : S1089} (hs : okS a0.Season) {l : List S1079} (h : ∀ m ∈ l, MovOk m) (hl : l.length ≤ 12) (a2 : ByteArray) :
  s1074 (s1049 a0) l a2 = some ⟨cA (fun m => qd a0 m && nmq a2 m) l, pA (fun m => qd a0 m && nmq a2 m) l⟩ := by
 unfold s1074;rw [show (s1049 a0).Season = a0.Season from rfl, s111_ok hs];simp only [bindO];rw [s1074_run a2 l 0 0 0 h (by decide) (by omega) (by decide) (by omega)]
 simp
theorem s1074_all {a0 : S1089} (hs : okS a0.Season) {l : List S1079} (h : ∀ m ∈ l, MovOk m) (hl : l.length ≤ 12) : s1074 (s1049 a0) l (⟨#[]⟩) = some ⟨cA (qd a0) l, pA (qd a0) l⟩ := by
 rw [s1074_ok hs h hl]
 have : (fun m => qd a0 m && nmq (⟨#[]⟩) m) = qd a0 := by
  funext m; unfold nmq; simp
 rw [this]
theorem s1074_name {a0 : S1089} (hs : okS a0.Season) {l : List S1079} (h : ∀ m ∈ l, MovOk m) (hl : l.length ≤ 12) {k : ByteArray} (hk : s91 k = true) : s1074 (s1049 a0) l k = some ⟨cU (qd a0) l k, pU (qd a0) l k⟩ := by
 rw [s1074_ok hs h hl]
 have hk0 : ¬ k = (⟨#[]⟩ : ByteArray) := by rintro rfl; revert hk; decide
 have : (fun m => qd a0 m && nmq k m) = fun m => qd a0 m && decide (m.Name = k) := by
  funext m; unfold nmq
  rw [decide_eq_false hk0, Bool.false_or]
  by_cases e : k = m.Name
  ·simp [e]
  ·have e' : ¬ m.Name = k := fun h => e h.symm
   simp [e, e']
 unfold cA pA cU pU;rw [this]
end Go.Sim
set_option maxRecDepth 10000
namespace Go.Sim
open Go.Proofs
def s1013_l1 (r5 : List S1156) : List S1154 → Nat → Option Bool
 | [], k7 => some true
 | y8 :: t9, k7 => bindO (ixO r5 ((k7 : Nat) : Int)) fun y10 => bindO (bif !(!decide (y8.Name = y10.Name)) then ixO r5 ((k7 : Nat) : Int) else some default) fun y11 => (bif (!decide (y8.Name = y10.Name)) || (!(eqAnd [decide (y8.Sum.Count = y11.Sum.Count), decide (y8.Sum.Points = y11.Sum.Points)])) then some false else s1013_l1 r5 t9 (k7 + 1))
noncomputable def s1013 (a0 : S1089) (a1 : List S1079) : Option Bool :=
 (bif ((!s1015) || (decide (60 < (ByteArray.size a0.Season.Kind : Int)))) || (!(s1020 a1 12)) then some s1015 else bindO (s1071 a0 a1) fun r1 => bindO (s1072 a0 a1) fun r2 => bindO (s1073 a0 a1) fun r3 => (bif decide ((s1040 [(s1048 (s1049 a0)), (s1028 a1)]) ≠ 0) then some ((((((eqAnd [decide (r1.1.Count = 0), decide (r1.1.Points = 0)]) && (decide (r1.2 = (s1040 [(s1048 (s1049 a0)), (s1028 a1)])))) && (eqAnd [decide (r2.1.Count = 0), decide (r2.1.Points = 0)])) && (decide (r2.2 = (s1040 [(s1048 (s1049 a0)), (s1028 a1)])))) && (decide ((List.length r3.1 : Int) = 0))) && (decide (r3.2 = (s1040 [(s1048 (s1049 a0)), (s1028 a1)])))) else bindO (s1074 (s1049 a0) a1 (⟨#[]⟩)) fun r4 => bindO (s1075 (s1049 a0) a1) fun r5 => (bif (((decide (IntKind.i64.wrap ((IntKind.i64.wrap (r1.2 + r2.2)) + r3.2) ≠ 0)) || (!(eqAnd [decide (r1.1.Count = r4.Count), decide (r1.1.Points = r4.Points)]))) || (!(eqAnd [decide (r2.1.Count = IntKind.i64.wrap (a0.Count - r4.Count)), decide (r2.1.Points = IntKind.i64.wrap (a0.Points - r4.Points))]))) || (decide ((List.length r3.1 : Int) ≠ (List.length r5 : Int))) then some false else s1013_l1 r5 r3.1 0)))
theorem c1013 (a0 : S1089) (a1 : List S1079) {R : Bool}   (hR : s1013 a0 a1 = some R) : Con (EG glT) 13 [G.agg [G.int a0.Night.fFrom, G.int a0.Night.fTo, G.int a0.Season.Year, G.str a0.Season.Kind, G.int a0.Count, G.int a0.Points], G.sl 7 (List.map S1079.c a1)] (G.bool R) := by
 unfold s1013 at hR;refine con_of_aw Tryz.func13 rfl rfl fun w0 M0 => ?_;refine len_sl (f := S1079.c) (l := a1) 1 rfl fun hla1 => ?_;refine aw_seq ?_;refine aw_region [.p, .p] ?_;refine st rfl rfl (eff_box rfl rfl) rfl ?_;refine st rfl rfl (eff_assigng rfl rfl) rfl ?_;refine st_nil ?_;refine aw_seq ?_;refine aw_seq ?_;refine aw_region [.p, .p, .p, .p, .p, .p, .p, .p, .p, .p, .p, .p, .p, .p] ?_;refine st rfl rfl (eff_call rfl K1015 rfl (c1015) ag_nil) rfl ?_;refine st rfl rfl (eff_not rfl rfl) rfl ?_;refine st rfl rfl (eff_moveg rfl rfl) rfl ?_;refine st_g rfl rfl rfl (gb_bool _ _) (fun h => eff_fieldAddr rfl fl1090_1 rfl) rfl ?_;refine st_g rfl rfl rfl (gb_bool _ _) (fun h => eff_fieldAddr rfl fl68_1 (gd h rfl)) rfl ?_;refine st_g rfl rfl rfl (gb_bool _ _) (fun h => eff_load rfl ty9 (gd h rfl)) rfl ?_;refine st_g rfl rfl rfl (gb_bool _ _) (fun h => eff_lenS rfl Tryz.underlying9 (gd h rfl)) rfl ?_;refine st_g rfl rfl rfl (gb_bool _ _) (fun h => eff_gtr rfl (gd h rfl) rfl) rfl ?_;refine st rfl rfl (eff_or rfl rfl rfl rfl) rfl ?_;refine st rfl rfl (eff_moveg rfl rfl) rfl ?_;refine st_g rfl rfl rfl (gb_bool _ _) (fun h => eff_moveg rfl rfl) rfl ?_;refine st_g rfl rfl rfl (gb_bool _ _) (fun h => eff_call rfl K1020 rfl (c1020 a1 12) (ag_cons (gd h rfl) (ag_cons rfl ag_nil))) rfl ?_;refine st_g rfl rfl rfl (gb_bool _ _) (fun h => eff_not rfl (gd h rfl)) rfl ?_;refine st rfl rfl (eff_or rfl rfl rfl rfl) rfl ?_;refine st_nil ?_;refine aw_cond _ rfl (fun h1 => ?_) (fun h1 => ?_)
 ·replace h1 : (((!s1015) || (decide (60 < (ByteArray.size a0.Season.Kind : Int)))) || (!(s1020 a1 12))) = true := h1;replace hR := condT hR h1;(try simp only [Bool.or_eq_true, Bool.and_eq_true, Bool.or_eq_false_iff, Bool.and_eq_false_iff, Bool.not_eq_true', Bool.not_eq_false', decide_eq_true_eq, decide_eq_false_iff_not] at h1);refine aw_seq ?_;refine aw_region [.p, .p] ?_;refine st rfl rfl (eff_call rfl K1015 rfl (c1015) ag_nil) rfl ?_;refine st rfl rfl (eff_assigng rfl rfl) rfl ?_;refine st_nil ?_;refine aw_ret ?_;obtain rfl := Option.some.inj hR;exact res_c rfl (rv_g rfl)
 ·replace h1 : (((!s1015) || (decide (60 < (ByteArray.size a0.Season.Kind : Int)))) || (!(s1020 a1 12))) = false := h1;replace hR := condF hR h1;(try simp only [Bool.or_eq_true, Bool.and_eq_true, Bool.or_eq_false_iff, Bool.and_eq_false_iff, Bool.not_eq_true', Bool.not_eq_false', decide_eq_true_eq, decide_eq_false_iff_not] at h1);have hs13 := short13 (a0 := a0) h1;refine aw_skip ?_;refine aw_seq ?_;obtain ⟨r1, br1, hR⟩ := bindO_inv hR;refine aw_region [.p, .p, .p, .p, .p, .p, .w, .w, .p] ?_;refine st rfl rfl (eff_loadA rfl ty1090 rfl rfl rfl) rfl ?_;refine st rfl rfl (eff_moveg rfl rfl) rfl ?_;refine st rfl rfl (eff_call rfl K1071 rfl (c1071 a0 a1 hpm71 br1) (ag_cons rfl (ag_cons rfl ag_nil))) rfl ?_;refine st rfl rfl (eff_moveg rfl rfl) rfl ?_;refine st rfl rfl (eff_extract rfl rfl rfl) rfl ?_;refine st rfl rfl (eff_extract rfl rfl rfl) rfl ?_;refine st_w rfl rfl (eff_alloc 5 rfl z1144 rfl rfl) rfl ?_;refine st_wn rfl rfl (eff_store (tv := .g (G.agg [G.int r1.1.Count, G.int r1.1.Points])) rfl ty1144 rfl rfl rfl rfl rfl) ?_;refine st rfl rfl (eff_assigng rfl rfl) rfl ?_;refine st_nil ?_;refine aw_seq ?_;obtain ⟨r2, br2, hR⟩ := bindO_inv hR;refine aw_region [.p, .p, .p, .p, .p, .p, .w, .w, .p] ?_;refine st rfl rfl (eff_loadA rfl ty1090 rfl rfl rfl) rfl ?_;refine st rfl rfl (eff_moveg rfl rfl) rfl ?_;refine st rfl rfl (eff_call rfl K1072 rfl (c1072 a0 a1 br2) (ag_cons rfl (ag_cons rfl ag_nil))) rfl ?_;refine st rfl rfl (eff_moveg rfl rfl) rfl ?_;refine st rfl rfl (eff_extract rfl rfl rfl) rfl ?_;refine st rfl rfl (eff_extract rfl rfl rfl) rfl ?_;refine st_w rfl rfl (eff_alloc 7 rfl z1144 rfl rfl) rfl ?_;refine st_wn rfl rfl (eff_store (tv := .g (G.agg [G.int r2.1.Count, G.int r2.1.Points])) rfl ty1144 rfl rfl rfl rfl rfl) ?_;refine st rfl rfl (eff_assigng rfl rfl) rfl ?_;refine st_nil ?_;refine aw_seq ?_;obtain ⟨r3, br3, hR⟩ := bindO_inv hR;refine aw_region [.p, .p, .p, .p, .p, .p, .p, .p] ?_;refine st rfl rfl (eff_loadA rfl ty1090 rfl rfl rfl) rfl ?_;refine st rfl rfl (eff_moveg rfl rfl) rfl ?_;refine st rfl rfl (eff_call rfl K1073 rfl (c1073 a0 a1 (by first | assumption | (intro _; omega)) hpm73 br3) (ag_cons rfl (ag_cons rfl ag_nil))) rfl ?_;refine st rfl rfl (eff_moveg rfl rfl) rfl ?_;refine st rfl rfl (eff_extract rfl rfl rfl) rfl ?_;refine st rfl rfl (eff_extract rfl rfl rfl) rfl ?_;refine st rfl rfl (eff_assigng rfl rfl) rfl ?_;refine st rfl rfl (eff_assigng rfl rfl) rfl ?_;refine st_nil ?_;refine aw_seq ?_;refine aw_region [.p, .p, .p, .p, .p, .p, .p, .p] ?_;refine st rfl rfl (eff_loadA rfl ty1090 rfl rfl rfl) rfl ?_;refine st rfl rfl (eff_call rfl K1049 rfl (c1049 a0) (ag_cons rfl ag_nil)) rfl ?_;refine st rfl rfl (eff_call rfl K1048 rfl (c1048 (s1049 a0)) (ag_cons rfl ag_nil)) rfl ?_;refine st rfl rfl (eff_moveg rfl rfl) rfl ?_;refine st rfl rfl (eff_call rfl K1028 rfl (c1028 a1) (ag_cons rfl ag_nil)) rfl ?_;refine st rfl rfl (eff_buildSlice rfl Tryz.underlying51 ty3 z3 rfl (ps_cons rfl (ps_cons rfl ps_nil)) rfl (by simp []) (by decide)) rfl ?_;refine st rfl rfl (eff_call rfl K1040 rfl (c1040 [(s1048 (s1049 a0)), (s1028 a1)]) (ag_cons rfl ag_nil)) rfl ?_;refine st rfl rfl (eff_assigng rfl rfl) rfl ?_;refine st_nil ?_;refine aw_seq ?_;refine aw_seq ?_;refine aw_region [.p, .p] ?_;refine st rfl rfl (eff_moveg rfl rfl) rfl ?_;refine st rfl rfl (eff_neq rfl rfl rfl) rfl ?_;refine st_nil ?_;refine aw_cond _ rfl (fun h2 => ?_) (fun h2 => ?_)
  ·replace h2 : (decide ((s1040 [(s1048 (s1049 a0)), (s1028 a1)]) ≠ 0)) = true := h2;replace hR := condT hR h2;(try simp only [Bool.or_eq_true, Bool.and_eq_true, Bool.or_eq_false_iff, Bool.and_eq_false_iff, Bool.not_eq_true', Bool.not_eq_false', decide_eq_true_eq, decide_eq_false_iff_not] at h2);refine aw_seq ?_;refine aw_region [.r, .p, .p, .p, .p, .p, .p, .p, .p, .r, .p, .p, .p, .p, .p, .p, .p, .p, .p, .p, .p, .p, .p, .p, .p, .p, .p, .p, .p] ?_;refine st_r rfl rfl (eff_loadOA rfl ty1144 rfl rfl rfl rfl) rfl ?_;refine st rfl rfl (eff_build rfl z1144 rfl pl1144 pb_nil rfl) rfl ?_;refine st rfl rfl (eff_aeql [.int .i64 r1.1.Count, .int .i64 r1.1.Points] [.int .i64 0, .int .i64 0] rfl flat1144 rfl rfl rfl rfl rfl) rfl ?_;refine st rfl rfl (eff_moveg rfl rfl) rfl ?_;refine st_g rfl rfl rfl (gb_bool _ _) (fun h => eff_moveg rfl rfl) rfl ?_;refine st_g rfl rfl rfl (gb_bool _ _) (fun h => eff_moveg rfl rfl) rfl ?_;refine st_g rfl rfl rfl (gb_bool _ _) (fun h => eff_eql rfl (gd h rfl) (gd h rfl)) rfl ?_;refine st rfl rfl (eff_and rfl rfl rfl rfl) rfl ?_;refine st rfl rfl (eff_moveg rfl rfl) rfl ?_;refine st_gr rfl rfl rfl (gb_bool _ _) (fun h => eff_loadOA rfl ty1144 rfl rfl rfl rfl) rfl ?_;refine st_g rfl rfl rfl (gb_bool _ _) (fun h => eff_build rfl z1144 rfl pl1144 pb_nil rfl) rfl ?_;refine st_g rfl rfl rfl (gb_bool _ _) (fun h => eff_aeql [.int .i64 r2.1.Count, .int .i64 r2.1.Points] [.int .i64 0, .int .i64 0] rfl flat1144 (gd h rfl) (gd h rfl) rfl rfl rfl) rfl ?_;refine st rfl rfl (eff_and rfl rfl rfl rfl) rfl ?_;refine st rfl rfl (eff_moveg rfl rfl) rfl ?_;refine st_g rfl rfl rfl (gb_bool _ _) (fun h => eff_moveg rfl rfl) rfl ?_;refine st_g rfl rfl rfl (gb_bool _ _) (fun h => eff_moveg rfl rfl) rfl ?_;refine st_g rfl rfl rfl (gb_bool _ _) (fun h => eff_eql rfl (gd h rfl) (gd h rfl)) rfl ?_;refine st rfl rfl (eff_and rfl rfl rfl rfl) rfl ?_;refine st rfl rfl (eff_moveg rfl rfl) rfl ?_;refine st_g rfl rfl rfl (gb_bool _ _) (fun h => eff_moveg rfl rfl) rfl ?_;refine st_g rfl rfl rfl (gb_bool _ _) (fun h => eff_lenM (f := S1154.c) (l := r3.1) rfl Tryz.underlying147 (gd h rfl)) rfl ?_;refine st_g rfl rfl rfl (gb_bool _ _) (fun h => eff_eql rfl (gd h rfl) rfl) rfl ?_;refine st rfl rfl (eff_and rfl rfl rfl rfl) rfl ?_;refine st rfl rfl (eff_moveg rfl rfl) rfl ?_;refine st_g rfl rfl rfl (gb_bool _ _) (fun h => eff_moveg rfl rfl) rfl ?_;refine st_g rfl rfl rfl (gb_bool _ _) (fun h => eff_moveg rfl rfl) rfl ?_;refine st_g rfl rfl rfl (gb_bool _ _) (fun h => eff_eql rfl (gd h rfl) (gd h rfl)) rfl ?_;refine st rfl rfl (eff_and rfl rfl rfl rfl) rfl ?_;refine st rfl rfl (eff_assigng rfl rfl) rfl ?_;refine st_nil ?_;refine aw_ret ?_;obtain rfl := Option.some.inj hR;exact res_c rfl (rv_g rfl)
  ·replace h2 : (decide ((s1040 [(s1048 (s1049 a0)), (s1028 a1)]) ≠ 0)) = false := h2;replace hR := condF hR h2;(try simp only [Bool.or_eq_true, Bool.and_eq_true, Bool.or_eq_false_iff, Bool.and_eq_false_iff, Bool.not_eq_true', Bool.not_eq_false', decide_eq_true_eq, decide_eq_false_iff_not] at h2);obtain ⟨hb, hy1, hy2⟩ := quota13 h2 hs13;refine aw_skip ?_;refine aw_seq ?_;obtain ⟨r4, br4, hR⟩ := bindO_inv hR;refine aw_region [.p, .p, .p, .p, .w, .w] ?_;refine st rfl rfl (eff_loadA rfl ty1090 rfl rfl rfl) rfl ?_;refine st rfl rfl (eff_call rfl K1049 rfl (c1049 a0) (ag_cons rfl ag_nil)) rfl ?_;refine st rfl rfl (eff_moveg rfl rfl) rfl ?_;refine st rfl rfl (eff_call rfl K1074 rfl (c1074 (s1049 a0) a1 (⟨#[]⟩) (by first | assumption | omega | (simp [copyL_len]; done) | (simp [copyL_len]; omega)) (by first | assumption | omega | (simp [copyL_len]; done) | (simp [copyL_len]; omega)) br4) (ag_cons rfl (ag_cons rfl (ag_cons rfl ag_nil)))) rfl ?_;refine st_w rfl rfl (eff_alloc 12 rfl z1150 rfl rfl) rfl ?_;refine st_wn rfl rfl (eff_store (tv := .g (G.agg [G.int r4.Count, G.int r4.Points])) rfl ty1150 rfl rfl rfl rfl rfl) ?_;refine st_nil ?_;refine aw_seq ?_;obtain ⟨r5, br5, hR⟩ := bindO_inv hR;refine aw_region [.p, .p, .p, .p, .p] ?_;refine st rfl rfl (eff_loadA rfl ty1090 rfl rfl rfl) rfl ?_;refine st rfl rfl (eff_call rfl K1049 rfl (c1049 a0) (ag_cons rfl ag_nil)) rfl ?_;refine st rfl rfl (eff_moveg rfl rfl) rfl ?_;refine st rfl rfl (eff_call rfl K1075 rfl (c1075 (s1049 a0) a1 (by first | assumption | omega | (simp [copyL_len]; done) | (simp [copyL_len]; omega)) (by first | assumption | omega | (simp [copyL_len]; done) | (simp [copyL_len]; omega)) (by first | assumption | omega | (simp [copyL_len]; done) | (simp [copyL_len]; omega)) br5) (ag_cons rfl (ag_cons rfl ag_nil))) rfl ?_;refine st rfl rfl (eff_assigng rfl rfl) rfl ?_;refine st_nil ?_;refine aw_seq ?_;refine aw_seq ?_;refine aw_region [.p, .p, .p, .p, .p, .p, .p, .r, .r, .p, .p, .p, .r, .p, .p, .p, .r, .p, .p, .p, .p, .r, .p, .p, .p, .p, .p, .p, .p, .p, .p, .p, .p] ?_;refine st rfl rfl (eff_moveg rfl rfl) rfl ?_;refine st rfl rfl (eff_moveg rfl rfl) rfl ?_;refine st rfl rfl (eff_addw rfl rfl rfl) rfl ?_;refine st rfl rfl (eff_moveg rfl rfl) rfl ?_;refine st rfl rfl (eff_addw rfl rfl rfl) rfl ?_;refine st rfl rfl (eff_neq rfl rfl rfl) rfl ?_;refine st rfl rfl (eff_moveg rfl rfl) rfl ?_;refine st_gr rfl rfl rfl (gb_bool _ _) (fun h => eff_loadOA rfl ty1144 rfl rfl rfl rfl) rfl ?_;refine st_gr rfl rfl rfl (gb_bool _ _) (fun h => eff_loadOA rfl ty1150 rfl rfl rfl rfl) rfl ?_;refine st_g rfl rfl rfl (gb_bool _ _) (fun h => eff_aneq [.int .i64 r1.1.Count, .int .i64 r1.1.Points] [.int .i64 r4.Count, .int .i64 r4.Points] rfl flat1150 (gd h rfl) (gd h rfl) rfl rfl rfl) rfl ?_;refine st rfl rfl (eff_or rfl rfl rfl rfl) rfl ?_;refine st rfl rfl (eff_moveg rfl rfl) rfl ?_;refine st_gr rfl rfl rfl (gb_bool _ _) (fun h => eff_loadOA rfl ty1144 rfl rfl rfl rfl) rfl ?_;refine st_g rfl rfl rfl (gb_bool _ _) (fun h => eff_fieldAddr rfl fl1090_2 rfl) rfl ?_;refine st_g rfl rfl rfl (gb_bool _ _) (fun h => eff_load rfl ty3 (gd h rfl)) rfl ?_;refine st_g rfl rfl rfl (gb_bool _ _) (fun h => eff_fieldO rfl fl1150_0 rfl) rfl ?_;refine st_gr rfl rfl rfl (gb_bool _ _) (fun h => eff_loadO rfl ty3 (gd h rfl) rfl rfl) rfl ?_;refine st_g rfl rfl rfl (gb_bool _ _) (fun h => eff_subw rfl (gd h rfl) (gd h rfl)) rfl ?_;refine st_g rfl rfl rfl (gb_bool _ _) (fun h => eff_fieldAddr rfl fl1090_3 rfl) rfl ?_;refine st_g rfl rfl rfl (gb_bool _ _) (fun h => eff_load rfl ty3 (gd h rfl)) rfl ?_;refine st_g rfl rfl rfl (gb_bool _ _) (fun h => eff_fieldO rfl fl1150_1 rfl) rfl ?_;refine st_gr rfl rfl rfl (gb_bool _ _) (fun h => eff_loadO rfl ty3 (gd h rfl) rfl rfl) rfl ?_;refine st_g rfl rfl rfl (gb_bool _ _) (fun h => eff_subw rfl (gd h rfl) (gd h rfl)) rfl ?_;refine st_g rfl rfl rfl (gb_bool _ _) (fun h => eff_build rfl z1144 rfl pl1144 (pb_cons (gd h rfl) (pb_cons (gd h rfl) pb_nil)) rfl) rfl ?_;refine st_g rfl rfl rfl (gb_bool _ _) (fun h => eff_aneq [.int .i64 r2.1.Count, .int .i64 r2.1.Points] [.int .i64 (IntKind.i64.wrap (a0.Count - r4.Count)), .int .i64 (IntKind.i64.wrap (a0.Points - r4.Points))] rfl flat1144 (gd h rfl) (gd h rfl) rfl rfl rfl) rfl ?_;refine st rfl rfl (eff_or rfl rfl rfl rfl) rfl ?_;refine st rfl rfl (eff_moveg rfl rfl) rfl ?_;refine st_g rfl rfl rfl (gb_bool _ _) (fun h => eff_moveg rfl rfl) rfl ?_;refine st_g rfl rfl rfl (gb_bool _ _) (fun h => eff_lenM (f := S1154.c) (l := r3.1) rfl Tryz.underlying147 (gd h rfl)) rfl ?_;refine st_g rfl rfl rfl (gb_bool _ _) (fun h => eff_moveg rfl rfl) rfl ?_;refine st_g rfl rfl rfl (gb_bool _ _) (fun h => eff_lenM (f := S1156.c) (l := r5) rfl Tryz.underlying152 (gd h rfl)) rfl ?_;refine st_g rfl rfl rfl (gb_bool _ _) (fun h => eff_neq rfl (gd h rfl) (gd h rfl)) rfl ?_;refine st rfl rfl (eff_or rfl rfl rfl rfl) rfl ?_;refine st_nil ?_;refine aw_cond _ rfl (fun h3 => ?_) (fun h3 => ?_)
   ·replace h3 : ((((decide (IntKind.i64.wrap ((IntKind.i64.wrap (r1.2 + r2.2)) + r3.2) ≠ 0)) || (!(eqAnd [decide (r1.1.Count = r4.Count), decide (r1.1.Points = r4.Points)]))) || (!(eqAnd [decide (r2.1.Count = IntKind.i64.wrap (a0.Count - r4.Count)), decide (r2.1.Points = IntKind.i64.wrap (a0.Points - r4.Points))]))) || (decide ((List.length r3.1 : Int) ≠ (List.length r5 : Int)))) = true := h3;replace hR := condT hR h3;(try simp only [Bool.or_eq_true, Bool.and_eq_true, Bool.or_eq_false_iff, Bool.and_eq_false_iff, Bool.not_eq_true', Bool.not_eq_false', decide_eq_true_eq, decide_eq_false_iff_not] at h3);refine aw_seq ?_;refine aw_region [.p] ?_;refine st rfl rfl (eff_assigng rfl rfl) rfl ?_;refine st_nil ?_;refine aw_ret ?_;obtain rfl := Option.some.inj hR;exact res_c rfl (rv_g rfl)
   ·replace h3 : ((((decide (IntKind.i64.wrap ((IntKind.i64.wrap (r1.2 + r2.2)) + r3.2) ≠ 0)) || (!(eqAnd [decide (r1.1.Count = r4.Count), decide (r1.1.Points = r4.Points)]))) || (!(eqAnd [decide (r2.1.Count = IntKind.i64.wrap (a0.Count - r4.Count)), decide (r2.1.Points = IntKind.i64.wrap (a0.Points - r4.Points))]))) || (decide ((List.length r3.1 : Int) ≠ (List.length r5 : Int)))) = false := h3;replace hR := condF hR h3;(try simp only [Bool.or_eq_true, Bool.and_eq_true, Bool.or_eq_false_iff, Bool.and_eq_false_iff, Bool.not_eq_true', Bool.not_eq_false', decide_eq_true_eq, decide_eq_false_iff_not] at h3);refine aw_skip ?_;refine aw_seq ?_;refine aw_seq ?_;refine aw_region [.p, .p, .p] ?_;refine st rfl rfl (eff_moveg rfl rfl) rfl ?_;refine st rfl rfl (eff_lenM (f := S1154.c) (l := r3.1) rfl Tryz.underlying147 rfl) rfl ?_;refine st rfl rfl (eff_moveg rfl rfl) rfl ?_;refine st_nil ?_;refine aw_block ?_;refine aw_loop_g (γ := Nat × (List S1154)) (fun g => ([(9, .g (G.sl 3 (List.map S1154.c r3.1))), (13, .g (G.sl 3 (List.map S1156.c r5))), (127, .g (G.int (List.length r3.1 : Int))), (128, .g (G.int ((g.1 : Nat) : Int)))], [])) (fun g => r3.1.drop g.1 = g.2 ∧ s1013_l1 r5 g.2 g.1 = some R) (fun g => List.length g.2) ⟨rfl, (0, r3.1), ⟨rfl, rfl, rfl, rfl, trivial⟩, trivial, rfl, ⟨rfl, hR⟩, trivial⟩ ?_
    ·rintro ⟨k7, t9⟩ ⟨hd, hR⟩;replace hd : r3.1.drop k7 = t9 := hd;replace hR : s1013_l1 r5 t9 k7 = some R := hR;refine aw_seq ?_;refine aw_region [.p] ?_;refine st rfl rfl (eff_lss rfl rfl rfl) rfl ?_;refine st_nil ?_;refine len_sl (f := S1154.c) (l := r3.1) 9 rfl fun hlz1 => ?_;refine aw_seq ?_;refine aw_cond _ rfl (fun h4 => ?_) (fun h4 => ?_)
     ·replace h4 : (decide (((k7 : Nat) : Int) < (List.length r3.1 : Int))) = true := h4;obtain ⟨y8, t9, rfl, hx1, hd⟩ := drop_cons hd (decT h4);replace h4 := decT h4;rw [s1013_l1] at hR;(try dsimp only at hR);refine aw_skip ?_;refine aw_seq ?_;refine aw_block ?_;refine aw_seq ?_;refine aw_region [.p, .p] ?_;refine st rfl rfl (eff_moveg rfl rfl) rfl ?_;refine st rfl rfl (eff_assigng rfl rfl) rfl ?_;refine st_nil ?_;refine aw_seq ?_;obtain ⟨y10, by10, hR⟩ := bindO_inv hR;obtain ⟨y11, by11, hR⟩ := bindO_inv hR;refine aw_draw [.p, .p, .p, .p, .p, .p, .p, .p, .p, .p, .p, .p, .p, .p, .p, .p, .p, .p, .p, .p, .p, .p, .p, .p] (by kernel_rfl) ?_;refine st rfl rfl (eff_moveg rfl rfl) rfl ?_;refine st rfl rfl (eff_moveg rfl rfl) rfl ?_;refine st rfl rfl (eff_ix (f := S1154.c) (l := r3.1) (a := y8) rfl Tryz.underlying147 ty1155 rfl rfl (Int.natCast_nonneg _) hx1) rfl ?_;refine st rfl rfl (eff_fieldAddr rfl fl1155_0 rfl) rfl ?_;refine st rfl rfl (eff_load rfl ty9 rfl) rfl ?_;refine st rfl rfl (eff_moveg rfl rfl) rfl ?_;refine st rfl rfl (eff_moveg rfl rfl) rfl ?_;refine st rfl rfl (eff_ix (f := S1156.c) (l := r5) (a := y10) rfl Tryz.underlying152 ty1157 rfl rfl (ixO_nn by10) (ixO_get by10)) rfl ?_;refine st rfl rfl (eff_fieldAddr rfl fl1157_0 rfl) rfl ?_;refine st rfl rfl (eff_load rfl ty9 rfl) rfl ?_;refine st rfl rfl (eff_sne rfl rfl rfl) rfl ?_;refine st rfl rfl (eff_moveg rfl rfl) rfl ?_;refine st_g rfl rfl rfl (gb_bool _ _) (fun h => eff_moveg rfl rfl) rfl ?_;refine st_g rfl rfl rfl (gb_bool _ _) (fun h => eff_moveg rfl rfl) rfl ?_;refine st_g rfl rfl rfl (gb_bool _ _) (fun h => eff_ix (f := S1154.c) (l := r3.1) (a := y8) rfl Tryz.underlying147 ty1155 (gd h rfl) (gd h rfl) (Int.natCast_nonneg _) hx1) rfl ?_;refine st_g rfl rfl rfl (gb_bool _ _) (fun h => eff_fieldAddr rfl fl1155_1 (gd h rfl)) rfl ?_;refine st_g rfl rfl rfl (gb_bool _ _) (fun h => eff_loadA rfl ty1144 (gd h rfl) rfl rfl) rfl ?_;refine st_g rfl rfl rfl (gb_bool _ _) (fun h => eff_moveg rfl rfl) rfl ?_;refine st_g rfl rfl rfl (gb_bool _ _) (fun h => eff_moveg rfl rfl) rfl ?_;refine st_g rfl rfl rfl (gb_bool _ _) (fun h => eff_ix (f := S1156.c) (l := r5) (a := y11) rfl Tryz.underlying152 ty1157 (gd h rfl) (gd h rfl) (ixO_nn (condF1 by11 h)) (ixO_get (condF1 by11 h))) rfl ?_;refine st_g rfl rfl rfl (gb_bool _ _) (fun h => eff_fieldAddr rfl fl1157_1 (gd h rfl)) rfl ?_;refine st_g rfl rfl rfl (gb_bool _ _) (fun h => eff_loadA rfl ty1150 (gd h rfl) rfl rfl) rfl ?_;refine st_g rfl rfl rfl (gb_bool _ _) (fun h => eff_aneq [.int .i64 y8.Sum.Count, .int .i64 y8.Sum.Points] [.int .i64 y11.Sum.Count, .int .i64 y11.Sum.Points] rfl flat1150 (gd h rfl) (gd h rfl) rfl rfl rfl) rfl ?_;refine st rfl rfl (eff_or rfl rfl rfl rfl) rfl ?_;refine st_nil ?_;refine aw_cond _ rfl (fun h6 => ?_) (fun h6 => ?_)
      ·replace h6 : ((!decide (y8.Name = y10.Name)) || (!(eqAnd [decide (y8.Sum.Count = y11.Sum.Count), decide (y8.Sum.Points = y11.Sum.Points)]))) = true := h6;replace hR := condT hR h6;(try simp only [Bool.or_eq_true, Bool.and_eq_true, Bool.or_eq_false_iff, Bool.and_eq_false_iff, Bool.not_eq_true', Bool.not_eq_false', decide_eq_true_eq, decide_eq_false_iff_not] at h6);refine aw_seq ?_;refine aw_region [.p] ?_;refine st rfl rfl (eff_assigng rfl rfl) rfl ?_;refine st_nil ?_;refine aw_ret ?_;obtain rfl := Option.some.inj hR;exact res_c rfl (rv_g rfl)
      ·replace h6 : ((!decide (y8.Name = y10.Name)) || (!(eqAnd [decide (y8.Sum.Count = y11.Sum.Count), decide (y8.Sum.Points = y11.Sum.Points)]))) = false := h6;replace hR := condF hR h6;(try simp only [Bool.or_eq_true, Bool.and_eq_true, Bool.or_eq_false_iff, Bool.and_eq_false_iff, Bool.not_eq_true', Bool.not_eq_false', decide_eq_true_eq, decide_eq_false_iff_not] at h6);refine aw_skip ?_;refine aw_region [.p, .p] ?_;refine st rfl rfl (eff_add rfl rfl rfl (by unfold I64; omega)) rfl ?_;refine st rfl rfl (eff_moveg rfl rfl) rfl ?_;refine st_nil ?_;exact ⟨rfl, (k7 + 1, t9), ⟨rfl, rfl, rfl, rfl, trivial⟩, trivial, rfl, ⟨hd, hR⟩, by simp⟩
     ·replace h4 : (decide (((k7 : Nat) : Int) < (List.length r3.1 : Int))) = false := h4;obtain rfl := drop_nil hd (decF h4);rw [s1013_l1] at hR;refine aw_exit ?_;refine aw_seq ?_;refine aw_region [.p] ?_;refine st rfl rfl (eff_assigng rfl rfl) rfl ?_;refine st_nil ?_;refine aw_ret ?_;obtain rfl := Option.some.inj hR;exact res_c rfl (rv_g rfl)
theorem strict_ext {α : Type} {R : α → α → Prop} (ir : ∀ a, ¬ R a a) (an : ∀ a b, R a b → R b a → False) : ∀ {a b : List α}, a.Pairwise R → b.Pairwise R → (∀ x, x ∈ a ↔ x ∈ b) → a = b
 | [], [], _, _, _ => rfl
 | [], y :: b, _, _, h => by have := (h y).2 List.mem_cons_self; cases this
 | x :: a, [], _, _, h => by have := (h x).1 List.mem_cons_self; cases this
 | x :: a, y :: b, ha, hb, h => by
  rw [List.pairwise_cons] at ha hb
  have e : x = y := by
   rcases List.mem_cons.1 ((h x).1 List.mem_cons_self) with e | h1
   ·exact e
   ·rcases List.mem_cons.1 ((h y).2 List.mem_cons_self) with e | h2
    ·exact e.symm
    ·exact (an _ _ (hb.1 _ h1) (ha.1 _ h2)).elim
  subst e
  congr 1
  refine strict_ext ir an ha.2 hb.2 fun z => ⟨fun hz => ?_, fun hz => ?_⟩
  ·rcases List.mem_cons.1 ((h z).1 (List.mem_cons_of_mem _ hz)) with e | h1
   ·subst e; exact (ir _ (ha.1 _ hz)).elim
   ·exact h1
  ·rcases List.mem_cons.1 ((h z).2 (List.mem_cons_of_mem _ hz)) with e | h1
   ·subst e; exact (ir _ (hb.1 _ hz)).elim
   ·exact h1
section
variable (q : S1079 → Bool) (l : List S1079)
theorem rows_lt {m : Mp} (hn : (m.map Prod.fst).Nodup) : (isort ltR (m.map rowOf)).Pairwise (fun a b => strLt a.Name b.Name = true) := by
 have hp := isort_perm ltR (m.map rowOf)
 have h1 : ((isort ltR (m.map rowOf)).map S1154.Name).Nodup := by
  rw [(hp.map S1154.Name).nodup_iff, List.map_map];exact hn
 have h2 : (isort ltR (m.map rowOf)).Pairwise (fun a b => a.Name ≠ b.Name) := List.pairwise_map.1 h1;refine (isortR_sorted (m.map rowOf)).imp₂ (fun a b h k => ?_) h2
 cases hc : strLt a.Name b.Name
 ·exact absurd (sl_tri hc h) k
 ·rfl
theorem rows_mem {m : Mp} (h : TabOk q l m) (x : S1154) : x ∈ isort ltR (m.map rowOf) ↔ 0 < cU q l x.Name ∧ x.Sum = ⟨cU q l x.Name, pU q l x.Name⟩ := by
 rw [(isort_perm ltR (m.map rowOf)).mem_iff, List.mem_map]
 constructor
 ·rintro ⟨p, hp, rfl⟩;have h1 : p.1 ∈ m.map Prod.fst := List.mem_map_of_mem hp;have h2 := mgetD_of (z := S1143.mk 0 0) h.nd hp;rw [h.vl] at h2;refine ⟨(h.ky _).1 h1, ?_⟩;show S1143.mk p.2.Count p.2.Points = _;rw [← h2]; rfl
 ·rintro ⟨h1, h2⟩;obtain ⟨p, hp, h3⟩ := List.mem_map.1 ((h.ky _).2 h1);have h4 := mgetD_of (z := S1143.mk 0 0) h.nd hp;rw [h.vl] at h4;refine ⟨p, hp, ?_⟩;obtain ⟨xn, xs⟩ := x;simp only at h2 h3 h1 ⊢;subst h3;unfold rowOf;rw [h2, h4]
end
theorem s1075_ins (rec1 : Nat → List S1156 → Option (List S1156)) (k3 : Nat) (y : S1079) (r7 : S1143) : ∀ (B A : List S1156) (n : Nat), B.length < n →
  s1075_l2 rec1 (A ++ B) k3 y r7 n (A.length : Int) =
   if r7.Count = 0 ∨ (B.dropWhile (fun b => strLt b.Name y.Name)).head?.map S1156.Name = some y.Name then rec1 (k3 + 1) (A ++ B)
   else rec1 (k3 + 1) (A ++ B.takeWhile (fun b => strLt b.Name y.Name) ++ [⟨y.Name, r7⟩] ++ B.dropWhile (fun b => strLt b.Name y.Name))
 | [], A, 0, h => by omega
 | [], A, n + 1, _ => by
  rw [s1075_l2];unfold s1075_j1
  have e : decide (((A.length : Nat) : Int) < ((A ++ [] : List S1156).length : Int)) = false := by simp
  simp only [e, cond_false, Bool.and_false, Bool.false_and, Bool.or_false, bindO, List.dropWhile_nil, List.takeWhile_nil, List.head?_nil, Option.map_none, reduceCtorEq, or_false]
  by_cases hz : r7.Count = 0
  ·simp [hz]
  ·simp [hz]
 | b :: B, A, 0, h => by simp at h
 | b :: B, A, n + 1, h => by
  rw [s1075_l2]
  have e : decide (((A.length : Nat) : Int) < ((A ++ b :: B : List S1156).length : Int)) = true := by simp <;> omega
  have i1 : ixO (A ++ b :: B) ((A.length : Nat) : Int) = some b := ixO_app;simp only [e, cond_true, i1, bindO, Bool.true_and, Bool.and_true]
  cases hb : strLt b.Name y.Name
  ·have d1 : (b :: B).dropWhile (fun b => strLt b.Name y.Name) = b :: B := by rw [List.dropWhile_cons_of_neg (by simp [hb])]
   have d2 : (b :: B).takeWhile (fun b => strLt b.Name y.Name) = [] := by rw [List.takeWhile_cons_of_neg (by simp [hb])]
   rw [d1, d2, cond_false];unfold s1075_j1
   by_cases hz : r7.Count = 0
   ·simp [hz]
   ·by_cases hn : b.Name = y.Name
    ·simp [hz, hn]
    ·simp [hz, hn]
  ·have d1 : (b :: B).dropWhile (fun b => strLt b.Name y.Name) = B.dropWhile (fun b => strLt b.Name y.Name) := by rw [List.dropWhile_cons_of_pos (by simp [hb])]
   have d2 : (b :: B).takeWhile (fun b => strLt b.Name y.Name) = b :: B.takeWhile (fun b => strLt b.Name y.Name) := by rw [List.takeWhile_cons_of_pos (by simp [hb])]
   rw [cond_true, d1, d2];have ih := s1075_ins rec1 k3 y r7 B (A ++ [b]) n (by simp at h; omega);rw [show A ++ b :: B = (A ++ [b]) ++ B by simp, show ((A.length : Nat) : Int) + 1 = (((A ++ [b]).length : Nat) : Int) by simp, ih]
   simp
theorem tw_lt {n : ByteArray} : ∀ {B : List S1156}, ∀ b ∈ B.takeWhile (fun b => strLt b.Name n), strLt b.Name n = true
 | [], b, h => by cases h
 | a :: B, b, h => by
  rw [List.takeWhile_cons] at h
  cases ha : strLt a.Name n
  ·rw [ha] at h; simp at h
  ·rw [ha] at h
   rcases List.mem_cons.1 (by simpa using h) with e | e
   ·rw [e]; exact ha
   ·exact tw_lt b e
theorem dw_head {n : ByteArray} : ∀ {B : List S1156}, B.dropWhile (fun b => strLt b.Name n) = [] ∨ ∃ c C, B.dropWhile (fun b => strLt b.Name n) = c :: C ∧ strLt c.Name n = false
 | [] => .inl rfl
 | a :: B => by
  rw [List.dropWhile_cons]
  cases ha : strLt a.Name n
  ·exact .inr ⟨a, B, by simp, ha⟩
  ·simpa using dw_head (B := B)
structure RefOk (q : S1079 → Bool) (l pre : List S1079) (out : List S1156) : Prop where
 st : out.Pairwise (fun a b => strLt a.Name b.Name = true)
 mm : ∀ x, x ∈ out ↔ (∃ m ∈ pre, m.Name = x.Name) ∧ 0 < cU q l x.Name ∧ x.Sum = ⟨cU q l x.Name, pU q l x.Name⟩
theorem cU_nn (q : S1079 → Bool) (l : List S1079) (k : ByteArray) : 0 ≤ cU q l k := by unfold cU; omega
theorem s1075_run {a0 : S1089} (hs : okS a0.Season) {l : List S1079} (h : ∀ m ∈ l, MovOk m) (hl : l.length ≤ 12) : ∀ (rest pre : List S1079) (k : Nat) (out : List S1156), l = pre ++ rest → RefOk (qd a0) l pre out →
  ∃ r, s1075_l1 (s1049 a0) l rest k out = some r ∧ RefOk (qd a0) l l r
 | [], pre, k, out, e, ho => ⟨out, rfl, by rw [List.append_nil] at e; rw [← e] at ho; exact ho⟩
 | y :: rest, pre, k, out, e, ho => by
  rw [s1075_l1]
  have hy : y ∈ l := by rw [e]; simp
  rw [s1074_name hs h hl (h y hy).nm];simp only [bindO];have h0 := s1075_ins (fun k_ z0_ => s1075_l1 (s1049 a0) l rest k_ z0_) k y ⟨cU (qd a0) l y.Name, pU (qd a0) l y.Name⟩ out [] (out.length + 1) (by omega);rw [List.nil_append] at h0
  have h1 : (((out.length : Int) - 0).toNat + 1) = out.length + 1 := by omega
  rw [h1, show (0 : Int) = ((([] : List S1156).length : Nat) : Int) from rfl, h0]
  have e2 : l = (pre ++ [y]) ++ rest := by rw [e]; simp
  by_cases hc : cU (qd a0) l y.Name = 0 ∨ (out.dropWhile (fun b => strLt b.Name y.Name)).head?.map S1156.Name = some y.Name
  ·rw [if_pos hc];refine s1075_run hs h hl rest (pre ++ [y]) (k + 1) out e2 ⟨ho.st, fun x => ?_⟩;rw [ho.mm]
   constructor
   ·rintro ⟨⟨m, hm, hx⟩, h2⟩; exact ⟨⟨m, by simp [hm], hx⟩, h2⟩
   ·rintro ⟨⟨m, hm, hx⟩, h2⟩;refine ⟨?_, h2⟩
    rcases List.mem_append.1 hm with hm | hm
    ·exact ⟨m, hm, hx⟩
    ·rw [List.mem_singleton.1 hm] at hx
     rcases hc with hc | hc
     ·rw [← hx, hc] at h2; exact absurd h2.1 (by decide)
     ·rcases dw_head (n := y.Name) (B := out) with hd | ⟨c, C, hd, _⟩
      ·rw [hd] at hc; cases hc
      ·rw [hd] at hc
       have hcn : c.Name = y.Name := by simpa using hc
       have hco : c ∈ out := (List.dropWhile_sublist _).subset (by rw [hd]; exact List.mem_cons_self);have := ((ho.mm c).1 hco).1;rw [hcn, hx] at this; exact this
  ·rw [if_neg hc];have hc1 : ¬ cU (qd a0) l y.Name = 0 := fun e => hc (.inl e);have hc2 : ¬ (out.dropWhile (fun b => strLt b.Name y.Name)).head?.map S1156.Name = some y.Name := fun e => hc (.inr e)
   have hcp : 0 < cU (qd a0) l y.Name := by have := cU_nn (qd a0) l y.Name; omega
   refine s1075_run hs h hl rest (pre ++ [y]) (k + 1) _ e2 ?_;have hsp : out = out.takeWhile (fun b => strLt b.Name y.Name) ++ out.dropWhile (fun b => strLt b.Name y.Name) := (List.takeWhile_append_dropWhile ..).symm;have hst := ho.st;rw [hsp, List.pairwise_append] at hst
   have hdn : ∀ b ∈ out.dropWhile (fun b => strLt b.Name y.Name), strLt y.Name b.Name = true := by
    rcases dw_head (n := y.Name) (B := out) with hd | ⟨c, C, hd, hcl⟩
    ·rw [hd]; intro b hb; cases hb
    ·rw [hd] at hst hc2 ⊢
     have hne : ¬ c.Name = y.Name := by simpa using hc2
     have hyc : strLt y.Name c.Name = true := by
      cases hq : strLt y.Name c.Name
      ·exact absurd (sl_tri hcl hq) hne
      ·rfl
     intro b hb
     rcases List.mem_cons.1 hb with e | hb
     ·rw [e]; exact hyc
     ·exact sl_tr hyc ((List.pairwise_cons.1 hst.2.1).1 _ hb)
   refine ⟨?_, fun x => ?_⟩
   ·rw [List.nil_append, List.append_assoc, List.pairwise_append];refine ⟨hst.1, ?_, ?_⟩
    ·rw [List.singleton_append, List.pairwise_cons];exact ⟨hdn, hst.2.1⟩
    ·intro a ha b hb
     rcases List.mem_append.1 hb with hb | hb
     ·rw [List.mem_singleton.1 hb]; exact tw_lt a ha
     ·exact hst.2.2 a ha b hb
   ·have hx0 : (x ∈ ([] : List S1156) ++ out.takeWhile (fun b => strLt b.Name y.Name) ++ [⟨y.Name, ⟨cU (qd a0) l y.Name, pU (qd a0) l y.Name⟩⟩] ++ out.dropWhile (fun b => strLt b.Name y.Name)) ↔ (x ∈ out ∨ x = ⟨y.Name, ⟨cU (qd a0) l y.Name, pU (qd a0) l y.Name⟩⟩) := by
     have hm : x ∈ out ↔ (x ∈ out.takeWhile (fun b => strLt b.Name y.Name) ∨ x ∈ out.dropWhile (fun b => strLt b.Name y.Name)) := by
      rw [← List.mem_append, ← hsp]
     rw [hm];simp only [List.nil_append, List.mem_append, List.mem_singleton]
     constructor
     ·rintro ((h | h) | h)
      ·exact .inl (.inl h)
      ·exact .inr h
      ·exact .inl (.inr h)
     ·rintro ((h | h) | h)
      ·exact .inl (.inl h)
      ·exact .inr h
      ·exact .inl (.inr h)
    rw [hx0, ho.mm]
    constructor
    ·rintro (⟨⟨m, hm, hx⟩, h2⟩ | rfl)
     ·exact ⟨⟨m, by simp [hm], hx⟩, h2⟩
     ·exact ⟨⟨y, by simp, rfl⟩, hcp, rfl⟩
    ·rintro ⟨⟨m, hm, hx⟩, h2, h3⟩
     rcases List.mem_append.1 hm with hm | hm
     ·exact .inl ⟨⟨m, hm, hx⟩, h2, h3⟩
     ·rw [List.mem_singleton.1 hm] at hx;refine .inr ?_;obtain ⟨xn, xs⟩ := x;simp only at hx h2 h3;subst hx; rw [h3]
theorem s1075_ok {a0 : S1089} (hs : okS a0.Season) {l : List S1079} (h : ∀ m ∈ l, MovOk m) (hl : l.length ≤ 12) : ∃ r, s1075 (s1049 a0) l = some r ∧ RefOk (qd a0) l l r :=
 s1075_run hs h hl l [] 0 [] rfl ⟨List.Pairwise.nil, fun x => ⟨fun h => (by cases h), fun h => by obtain ⟨⟨m, hm, _⟩, _⟩ := h; cases hm⟩⟩
theorem cU_pos {q : S1079 → Bool} {l : List S1079} {k : ByteArray} (h : 0 < cU q l k) : ∃ m ∈ l, m.Name = k := by
 unfold cU at h
 have h1 : 0 < (l.filter fun m => q m && decide (m.Name = k)).length := by omega
 obtain ⟨m, hm⟩ := List.exists_mem_of_length_pos h1;have := List.mem_filter.1 hm;exact ⟨m, this.1, by have := this.2; simp at this; exact this.2⟩
def cv (x : S1156) : S1154 := ⟨x.Name, x.Sum⟩
theorem rows_same {q : S1079 → Bool} {l : List S1079} {m : Mp} {r : List S1156} (h : TabOk q l m) (hr : RefOk q l l r) : isort ltR (m.map rowOf) = r.map cv := by
 refine strict_ext (R := fun a b => strLt a.Name b.Name = true) (fun a h => by rw [sl_irr] at h; cases h) (fun a b h k => sl_as h k) (rows_lt h.nd) (List.pairwise_map.2 hr.st) fun x => ?_;rw [rows_mem q l h, List.mem_map]
 constructor
 ·rintro ⟨h1, h2⟩;exact ⟨⟨x.Name, x.Sum⟩, (hr.mm _).2 ⟨cU_pos h1, h1, h2⟩, rfl⟩
 ·rintro ⟨z, hz, rfl⟩;exact ((hr.mm z).1 hz).2
theorem loop13 : ∀ (R : List S1156) (P : List S1156) (k : Nat), k = P.length → s1013_l1 (P ++ R) (R.map cv) k = some true
 | [], P, k, _ => rfl
 | x :: R, P, k, e => by
  subst e;rw [List.map_cons, s1013_l1];have i1 : ixO (P ++ x :: R) ((P.length : Nat) : Int) = some x := ixO_app;have hn : (cv x).Name = x.Name := rfl;have hs : (cv x).Sum = x.Sum := rfl;simp only [i1, bindO, hn, hs, decide_true, Bool.not_true, Bool.not_false, cond_true];have ih := loop13 R (P ++ [x]) (P.length + 1) (by simp);rw [show P ++ x :: R = (P ++ [x]) ++ R by simp]
  simpa [eqAnd] using ih
theorem s1013_true (a0 : S1089) (a1 : List S1079) : s1013 a0 a1 = some true := by
 unfold s1013;rw [s1015_eq]
 cases hg : ((!true) || (decide (60 < (ByteArray.size a0.Season.Kind : Int)))) || (!(s1020 a1 12))
 case true => rfl
 rw [cond_false]
 have hs13 : s1020 a1 12 = true := by
  simp only [Bool.not_true, Bool.false_or, Bool.or_eq_false_iff, Bool.not_eq_false'] at hg;exact hg.2
 have hbad : s1040 [(s1048 (s1049 a0)), (s1028 a1)] = s89 [s1047 a0, s1027 a1] := by rw [s1040_eq, movs_eq, ← s1047_eq]
 rw [hbad]
 by_cases hz : s89 [s1047 a0, s1027 a1] = 0
 ·have hz2 := hz;rw [s89_zero] at hz2;have hq := hz2 (s1047 a0) (by simp);have hm := movs_ok (l := a1) (hz2 (s1027 a1) (by simp))
  have hl : a1.length ≤ 12 := by have := short_movs hs13 (by decide) hm.1; omega
  have hq2 := hq;unfold s1047 at hq2;rw [s1085_eq, s89_zero] at hq2
  have hs : okS a0.Season := by
   have := hq2 (s107 (S67.mk a0.Season.Year a0.Season.Kind)) (by simp);rw [s107_eq, s41_zero] at this; exact this
  have hc0 : 0 ≤ a0.Count ∧ a0.Count ≤ 100000 := by
   have := hq2 (s1088 a0.Count 0 100000) (by simp);rw [s1088_eq, s90_zero] at this; exact this
  have hp0 : 0 ≤ a0.Points ∧ a0.Points ≤ 100000 := by
   have := hq2 (s1088 a0.Points 0 100000) (by simp);rw [s1088_eq, s90_zero] at this; exact this
  obtain ⟨m, hm1, hm2⟩ := s1132_ok hs hm.2 hl;have hno : ∀ x ∈ a1, 0 ≤ x.Noise ∧ x.Noise ≤ 99 := fun x hx => ⟨(hm.2 x hx).n0, (hm.2 x hx).n1⟩
  have c1 : 0 ≤ cA (qd a0) a1 ∧ cA (qd a0) a1 ≤ 12 := by unfold cA; have := len_filter (qd a0) a1; omega
  have c2 : 0 ≤ pA (qd a0) a1 ∧ pA (qd a0) a1 ≤ 1188 := by have := flt_rng (qd a0) hno; unfold pA; omega
  have e71 : s1071 a0 a1 = some (⟨cA (qd a0) a1, pA (qd a0) a1⟩, 0) := by
   unfold s1071;rw [s1085_eq, hz, hm1];simp only [bindO, ne_eq, not_true_eq_false, decide_false, cond_false];unfold s1071_e1;rw [b1_sum0];have h1 := hm2.sc;have h2 := hm2.sp;unfold msum at h1 h2;rw [h1, h2, wrap_i64 (by unfold I64; omega), wrap_i64 (by unfold I64; omega)]
  have e72 : s1072 a0 a1 = some (⟨IntKind.i64.wrap (a0.Count - cA (qd a0) a1), IntKind.i64.wrap (a0.Points - pA (qd a0) a1)⟩, 0) := by
   unfold s1072;rw [e71]
   simp [bindO]
  obtain ⟨r, hr1, hr2⟩ := s1075_ok hs hm.2 hl
  have e73 : s1073 a0 a1 = some (r.map cv, 0) := by
   unfold s1073;rw [s1085_eq, hz, hm1];simp only [bindO, ne_eq, not_true_eq_false, decide_false, cond_false];rw [b2_map, e2_eq, List.nil_append, rows_same hm2 hr2]
  rw [e71, e72, e73, hz, s1074_all hs hm.2 hl, hr1]
  have hw : IntKind.i64.wrap (IntKind.i64.wrap (0 + 0) + 0) = 0 := by decide
  have hl13 := loop13 r [] 0 rfl;rw [List.nil_append] at hl13;simp only [bindO, ne_eq, not_true_eq_false, decide_false, cond_false, eqAnd, decide_true, Bool.and_true, Bool.true_and, Bool.not_true, Bool.or_false, Bool.false_or, hw, List.length_map, hl13]
 ·have e71 : s1071 a0 a1 = some (⟨0, 0⟩, s89 [s1047 a0, s1027 a1]) := by
   unfold s1071; rw [s1085_eq]; simp [hz]
  have e72 : s1072 a0 a1 = some (⟨0, 0⟩, s89 [s1047 a0, s1027 a1]) := by
   unfold s1072; rw [e71]; simp [bindO, hz]
  have e73 : s1073 a0 a1 = some ([], s89 [s1047 a0, s1027 a1]) := by
   unfold s1073; rw [s1085_eq]; simp [hz]
  rw [e71, e72, e73]
  simp [bindO, hz, eqAnd]
end Go.Sim
