/-
  What is proved: lemmas and contracts of functions on the way to the law topBeaconReduced (part 12).
-/
import Derived.Test.YtcpkkolljgpalaaGreatDoorVrB2
import Derived.Test.YtcpkkolljgpalaaGreatDoorVrB1
import Derived.Test.YtcpkkolljgpalaaGreatDoorVrA8
import Derived.Test.YtcpkkolljgpalaaGreatDoorVrA7
import Derived.Test.YtcpkkolljgpalaaGreatDoorVrA5
import Derived.Test.YtcpkkolljgpalaaGreatDoorVrA4
set_option linter.unusedSectionVars false
set_option linter.unusedSimpArgs false
set_option linter.unusedVariables false
set_option linter.unnecessarySimpa false
set_option linter.deprecated false
namespace Go.Sim
def cntS (p : S151 → Bool) : List (S151 × Int) → S55 → S55
 | [], z => z
 | q :: l, z => cntS p l (bif p q.1 then s126 z q.2 else z)
def dayS (w : Nat) (s : S151) : Bool := decide ((s140 (s.Moment / 1440)).1 = (w : Int))
theorem qra (a0 : S23) (a1 : List S151) : ∀ (cs : List Int) (k : Nat) (x : List S55), k + cs.length = a1.length → x.length = 7 → ∃ x', s72_l1 a0 a1 cs k x = some (s72_l2 a0 x' 0 0, 0) ∧ x'.length = 7 ∧
  ∀ (w : Nat) (z : S55), x[w]? = some z → x'[w]? = some (cntS (dayS w) ((a1.drop k).zip cs) z)
 | [], k, x, _, hx => ⟨x, by rw [s72_l1], hx, fun w z h => by rw [List.zip_nil_right]; exact h⟩
 | c :: cs, k, x, h, hx => by
  rw [List.length_cons] at h
  have hk : k < a1.length := by omega
  have hi : ixO a1 ((k : Nat) : Int) = some a1[k] := qyk (List.getElem?_eq_getElem hk);have hw := ql0 (a1[k].Moment / 1440)
  have hlt : (s140 (a1[k].Moment / 1440)).1.toNat < x.length := by omega
  obtain ⟨x', g1, g2, g3⟩ := qra a0 a1 cs (k + 1) (x.set (s140 (a1[k].Moment / 1440)).1.toNat (s126 x[(s140 (a1[k].Moment / 1440)).1.toNat] c)) (by omega) (by rw [List.length_set]; exact hx);refine ⟨x', ?_, g2, fun w z hz => ?_⟩
  ·rw [s72_l1, hi];simp only [bindO];rw [qv3 hw.1 hlt];exact g1
  ·rw [List.drop_eq_getElem_cons hk, List.zip_cons_cons, cntS]
   by_cases hd : (s140 (a1[k].Moment / 1440)).1.toNat = w
   ·subst hd;have hzz := (List.getElem?_eq_some_iff.1 hz).2
    have hb : dayS (s140 (a1[k].Moment / 1440)).1.toNat a1[k] = true := by unfold dayS; rw [decide_eq_true_eq]; omega
    rw [hb, cond_true];exact g3 _ _ (by rw [List.getElem?_set_self hlt, hzz])
   ·have hb : dayS w a1[k] = false := by unfold dayS; rw [decide_eq_false_iff_not]; omega
    rw [hb, cond_false];exact g3 w z (by rw [List.getElem?_set_ne hd]; exact hz)
theorem qyl : ∀ k : Fin 7, ∀ x : Fin 128, x.val < 2 ^ k.val → orI (x.val : Int) (shlI 1 (k.val : Int)) = ((x.val + 2 ^ k.val : Nat) : Int) := by decide +kernel
theorem qym {d : Int} (h : 0 ≤ d ∧ d ≤ 99999) : (s140 d).1 = s180 d := by
 have h0 : s153 d = 0 := by
  unfold s153 s155 s154;rw [decide_eq_false (by omega), decide_eq_false (by omega)]; rfl
 unfold s140;rw [decide_eq_false (by simpa using h0), cond_false]; rfl
section
variable {E : Env} {o : Oper} {ev : Operand → TV}
def andNotI (a b : Int) : Int := IntKind.i64.wrap ((BitVec.ofInt 64 a &&& ~~~BitVec.ofInt 64 b).toNat : Int)
theorem qev {t t' : TypeId} {x y : Operand} {a b : Int} (ho : o.op = .binOp .andNot t x y t') (hx : ev x = .g (.int a)) (hy : ev y = .g (.int b)) (mem : Mem) : Eff E o mem ev (.g (.int (andNotI a b))) :=
 vd ho hx hy rfl mem
end
open Go.Proofs
def bitB (y : Int) (j : Nat) : Bool := decide (andI (shrI y (j : Int)) 1 = 1)
theorem qhd : ∀ y < 128, ∀ j < 7, decide (andI (shrI ((y : Nat) : Int) ((j : Nat) : Int)) 1 = 1) = y.testBit j := by decide +kernel
theorem qkw {y P : Nat} (hy : y < 128) (h : ∀ j < 7, y.testBit j = true → P.testBit j = true) : andNotI (y : Int) (P : Int) = 0 := by
 have e : BitVec.ofInt 64 (y : Int) &&& ~~~BitVec.ofInt 64 (P : Int) = 0#64 := by
  rw [BitVec.ofInt_natCast, BitVec.ofInt_natCast]
  apply BitVec.eq_of_getLsbD_eq
  intro i hi;rw [BitVec.getLsbD_and, BitVec.getLsbD_not, BitVec.getLsbD_ofNat, BitVec.getLsbD_ofNat, BitVec.getLsbD_zero]
  by_cases h7 : i < 7
  ·cases hb : y.testBit i
   ·simp
   ·simp [h i h7 hb, hi]
  ·have : y.testBit i = false := Nat.testBit_lt_two_pow (Nat.lt_of_lt_of_le hy (by
    have : 2 ^ 7 ≤ 2 ^ i := Nat.pow_le_pow_right (by decide) (by omega)
    simpa using this))
   simp [this]
 unfold andNotI;rw [e]; rfl
theorem qi7 {y P : Int} (hy : 0 ≤ y ∧ y < 128) (hP : 0 ≤ P ∧ P < 128) (h : ∀ j < 7, bitB y j = true → bitB P j = true) : andNotI y P = 0 := by
 obtain ⟨u, rfl⟩ := Int.eq_ofNat_of_zero_le hy.1;obtain ⟨v, rfl⟩ := Int.eq_ofNat_of_zero_le hP.1;refine qkw (by omega) fun j hj hb => ?_;rw [← qhd v (by omega) j hj];refine h j hj ?_;unfold bitB;rw [qhd u (by omega) j hj]; exact hb
theorem qew (a0 : S23) : ∀ (t : List S55) (k x : Nat), k + t.length = 7 → x < 2 ^ k → ∃ y : Nat, s72_l2 a0 t k (x : Int) = (y : Int) ∧ y < 128 ∧
  ∀ j < 7, bitB (y : Int) j = true ↔ bitB (x : Int) j = true ∨ ∃ (i : Nat) (z : S55), t[i]? = some z ∧ k + i = j ∧ s106 a0 z = true
 | [], k, x, hk, hx => ⟨x, by rw [s72_l2], by
   have : k = 7 := by simpa using hk
   subst this; simpa using hx, fun j _ => by simp⟩
 | z :: t, k, x, hk, hx => by
  rw [List.length_cons] at hk
  have hs : 2 ^ (k + 1) = 2 * 2 ^ k := by rw [Nat.pow_succ, Nat.mul_comm]
  have hp : 2 ^ k ≤ 2 ^ 6 := Nat.pow_le_pow_right (by decide) (by omega);rw [s72_l2]
  cases hb : s106 a0 z
  ·rw [cond_false];obtain ⟨y, h1, h2, h3⟩ := qew a0 t (k + 1) x (by omega) (by omega);refine ⟨y, h1, h2, fun j hj => (h3 j hj).trans (or_congr Iff.rfl ?_)⟩
   constructor
   ·rintro ⟨i, w, g1, g2, g3⟩; exact ⟨i + 1, w, g1, by omega, g3⟩
   ·rintro ⟨i, w, g1, g2, g3⟩
    cases i with
    | zero => rw [List.getElem?_cons_zero, Option.some.injEq] at g1; subst g1; rw [hb] at g3; cases g3
    | succ i => exact ⟨i, w, g1, by omega, g3⟩
  ·rw [cond_true];have hm := qyl ⟨k, by omega⟩ ⟨x, by omega⟩ hx;simp only at hm;rw [hm];obtain ⟨y, h1, h2, h3⟩ := qew a0 t (k + 1) (x + 2 ^ k) (by omega) (by omega);refine ⟨y, h1, h2, fun j hj => (h3 j hj).trans ?_⟩;have hn : bitB ((x + 2 ^ k : Nat) : Int) j = (bitB (x : Int) j || decide (j = k)) := qqz k (by omega) x hx j hj;rw [hn, Bool.or_eq_true, decide_eq_true_eq]
   constructor
   ·rintro ((h | h) | ⟨i, w, g1, g2, g3⟩)
    ·exact .inl h
    ·exact .inr ⟨0, z, rfl, by omega, hb⟩
    ·exact .inr ⟨i + 1, w, g1, by omega, g3⟩
   ·rintro (h | ⟨i, w, g1, g2, g3⟩)
    ·exact .inl (.inl h)
    ·cases i with
     | zero => exact .inl (.inr (by omega))
     | succ i => exact .inr ⟨i, w, g1, by omega, g3⟩
def slD (nm kd : ByteArray) (m d : Int) : S151 := ⟨nm, 1440 * d + m, kd⟩
theorem qhe (nm kd : ByteArray) (p : S45) (m : Int) : s103 nm kd p m = (dayP p).map (slD nm kd m) := by
 unfold s103 slotsL momL dayP;rw [List.map_map]; rfl
theorem qdk : s23 s2012 = 0 := by decide +kernel
def stW2 (nm kd : ByteArray) (m : Int) (l : List S104) (d : Int) : Int := stD s2012 (fun s => s128 s2012 s l) (fun s => s129 s2012 s l) (flyL l) (slD nm kd m d)
theorem qfr {nm kd : ByteArray} {p : S45} {m : Int} (l : List S104) (hp : s102 p = 0) (hm0 : 100 ≤ m) (hm1 : m ≤ 1300) : s124 s2012 (s103 nm kd p m) l = some ((dayP p).map (stW2 nm kd m l)) := by
 rw [qyb, qhe, qtg, List.map_map]
 ·rfl
 ·rw [List.pairwise_map];have hp := period_ok p hp;refine (w7 p.Days (p.fTo + 1 - p.fFrom).toNat p.fFrom).imp_of_mem fun {d e} hd he hlt b _ h1 h2 => ?_;have r1 := vu _ _ _ d hd;have r2 := vu _ _ _ e he;obtain ⟨_, _, k1⟩ := (qma qdk (a := slD nm kd m d) (b := b) (show 0 ≤ 1440 * d + m ∧ 1440 * d + m ≤ 143999999 by omega)).1 h1;obtain ⟨_, k2, _⟩ := (qma qdk (a := slD nm kd m e) (b := b) (show 0 ≤ 1440 * e + m ∧ 1440 * e + m ≤ 143999999 by omega)).1 h2;replace k1 : b.Moment ≤ 1440 * d + m + 60 := k1;replace k2 : 1440 * e + m - 60 ≤ b.Moment := k2
  omega
theorem q1g {nm kd : ByteArray} {p : S45} {m : Int} {l : List S104} (h0 : s87 nm = 0) (h1 : s101 kd = 0) (h : RedP p) (hm0 : 100 ≤ m) (hm1 : m ≤ 1300) (hl : s27 l = 0) : s122 s2012 (s103 nm kd p m) l = 0 := by
 have h25 : s25 (s103 nm kd p m) = 0 := by
  have hle := ql7 (m := m) (nm := nm) (kd := kd) h;unfold s25 s93;rw [decide_eq_false (by omega), cond_false, q21, List.nil_append];refine qyi fun x hx => ?_;obtain ⟨s, hs, rfl⟩ := List.mem_map.1 hx;have hmo := ql6 (nm := nm) (kd := kd) h hm0 hm1 s hs;rw [qhe] at hs;obtain ⟨d, hd, rfl⟩ := List.mem_map.1 hs;unfold s94;refine qyi fun x hx => ?_;simp only [List.mem_cons, List.not_mem_nil, or_false] at hx
  rcases hx with rfl | rfl | rfl
  ·exact h0
  ·exact qi6 hmo.1 hmo.2
  ·exact h1
 unfold s122;rw [qdk, h25, hl]; rfl
theorem qyn {nm kd : ByteArray} {m d : Int} (w : Nat) (hd : 0 ≤ d ∧ d ≤ 99999) (hm0 : 100 ≤ m) (hm1 : m ≤ 1300) : dayS w (slD nm kd m d) = decide (wd d = (w : Int)) := by
 have e : (slD nm kd m d).Moment / 1440 = d := by
  show (1440 * d + m) / 1440 = d
  omega
 unfold dayS;rw [e, qym hd, qqq hd]
theorem qhf {nm kd : ByteArray} {m : Int} (st : Int → Int) (w : Nat) (hm0 : 100 ≤ m) (hm1 : m ≤ 1300) : ∀ (D : List Int) (x y : Int), (∀ d ∈ D, 0 ≤ d ∧ d ≤ 99999) → 0 ≤ x → x + D.length ≤ 1000 → 0 ≤ y → y + D.length ≤ 1000 →
  cntS (dayS w) ((D.map (slD nm kd m)).zip (D.map st)) ⟨x, y⟩ = ⟨x + (D.countP (fun d => decide (wd d = (w : Int)) && isF (st d)) : Nat), y + (D.countP (fun d => decide (wd d = (w : Int)) && isD (st d)) : Nat)⟩
 | [], x, y, _, _, _, _, _ => by simp [cntS]
 | d :: D, x, y, hr, h1, h2, h3, h4 => by
  rw [List.length_cons] at h2 h4;have hr' : ∀ d ∈ D, 0 ≤ d ∧ d ≤ 99999 := fun e he => hr e (List.mem_cons_of_mem _ he);rw [List.map_cons, List.map_cons, List.zip_cons_cons, cntS, qyn w (hr d List.mem_cons_self) hm0 hm1, List.countP_cons, List.countP_cons]
  by_cases hw : wd d = (w : Int)
  ·rw [decide_eq_true hw, cond_true, qqw ⟨h1, by omega⟩ ⟨h3, by omega⟩, qhf st w hm0 hm1 D _ _ hr' (by cases isF (st d) <;> simp <;> omega) (by cases isF (st d) <;> simp <;> omega) (by cases isD (st d) <;> simp <;> omega) (by cases isD (st d) <;> simp <;> omega)]
   congr 1
   ·cases isF (st d) <;> simp <;> omega
   ·cases isD (st d) <;> simp <;> omega
  ·rw [decide_eq_false hw, cond_false, qhf st w hm0 hm1 D _ _ hr' h1 (by omega) h3 (by omega)]
   simp
theorem qdl {m : Int} : ∀ {n : Nat} {f d : Int}, d ∈ dayL m n f → inM m d = true
 | 0, f, d, h => by cases h
 | n + 1, f, d, h => by
  rw [dayL] at h
  split at h
  ·rename_i hf
   rcases List.mem_cons.1 h with rfl | h
   ·exact hf
   ·exact qdl h
  ·exact qdl h
theorem qmb {m q : Int} (h : ∀ d, inM q d = true → inM m d = true) : ∀ (n : Nat) (f : Int), dayL q n f = (dayL m n f).filter (inM q)
 | 0, f => rfl
 | n + 1, f => by
  rw [dayL, dayL, qmb h n (f + 1)]
  by_cases h1 : inM q f = true
  ·rw [if_pos h1, if_pos (h f h1), List.filter_cons, if_pos h1]
  ·rw [if_neg h1]
   split
   ·rw [List.filter_cons, if_neg h1]
   ·rfl
theorem qcz (m d : Int) : inM m d = bitB m (wd d).toNat := by
 have := qc8 d;unfold inM bitB;rw [show ((wd d).toNat : Int) = (d + 5) % 7 by unfold wd at *; omega]
theorem qhg (A B : Int → Bool) (k : Nat) : ∀ D : List Int, D.countP (fun d => (A d && decide (wd d < ((k + 1 : Nat) : Int))) && B d) = D.countP (fun d => (A d && decide (wd d < (k : Int))) && B d) + D.countP (fun d => (A d && decide (wd d = (k : Int))) && B d)
 | [] => rfl
 | d :: D => by
  rw [List.countP_cons, List.countP_cons, List.countP_cons, qhg A B k D]
  rcases Int.lt_trichotomy (wd d) (k : Int) with h | h | h
  ·rw [decide_eq_true (show wd d < ((k + 1 : Nat) : Int) by omega), decide_eq_true h, decide_eq_false (show ¬ wd d = (k : Int) by omega)]
   cases A d <;> cases B d <;> simp <;> omega
  ·rw [decide_eq_true (show wd d < ((k + 1 : Nat) : Int) by omega), decide_eq_true h, decide_eq_false (show ¬ wd d < (k : Int) by omega)]
   cases A d <;> cases B d <;> simp <;> omega
  ·rw [decide_eq_false (show ¬ wd d < ((k + 1 : Nat) : Int) by omega), decide_eq_false (show ¬ wd d = (k : Int) by omega), decide_eq_false (show ¬ wd d < (k : Int) by omega)]
   cases A d <;> cases B d <;> simp
theorem qrb (y : Int) (B : Int → Bool) (k : Nat) (D : List Int) : D.countP (fun d => (inM y d && decide (wd d = (k : Int))) && B d) = if bitB y k = true then D.countP (fun d => decide (wd d = (k : Int)) && B d) else 0 := by
 split
 ·rename_i h
  refine List.countP_congr fun d _ => ?_
  by_cases hw : wd d = (k : Int)
  ·rw [qcz, show (wd d).toNat = k by omega, h]; simp
  ·rw [decide_eq_false hw]; simp
 ·rename_i h
  rw [List.countP_eq_zero];intro d _
  by_cases hw : wd d = (k : Int)
  ·rw [qcz, show (wd d).toNat = k by omega]
   simp [h]
  ·rw [decide_eq_false hw]; simp
theorem qtj {y : Int} {F U : Int → Bool} {D : List Int} (h : ∀ j < 7, bitB y j = true → 80 * D.countP (fun d => decide (wd d = (j : Int)) && U d) ≤ 100 * D.countP (fun d => decide (wd d = (j : Int)) && F d)) : ∀ k : Nat, k ≤ 7 →
  80 * D.countP (fun d => (inM y d && decide (wd d < (k : Int))) && U d) ≤ 100 * D.countP (fun d => (inM y d && decide (wd d < (k : Int))) && F d) := by
 intro k
 induction k with
 | zero =>
  intro _;rw [List.countP_eq_zero.2]
  ·omega
  ·intro d _;have := qc8 d;have e : decide (wd d < ((0 : Nat) : Int)) = false := decide_eq_false (by omega);simp only [e, Bool.and_false, Bool.false_and]; simp
 | succ k ih =>
  intro hk;have ih := ih (by omega);rw [qhg, qhg, qrb, qrb]
  by_cases hb : bitB y k = true
  ·have := h k (by omega) hb;rw [if_pos hb, if_pos hb]; omega
  ·rw [if_neg hb, if_neg hb]; omega
theorem qrc (y : Int) (B : Int → Bool) (D : List Int) : (D.filter (inM y)).countP B = D.countP (fun d => (inM y d && decide (wd d < ((7 : Nat) : Int))) && B d) := by
 rw [List.countP_filter];refine List.countP_congr fun d _ => ?_;have := qc8 d;rw [decide_eq_true (show wd d < ((7 : Nat) : Int) by omega)]
 cases B d <;> cases inM y d <;> simp
theorem qyo {y : Int} {U : Int → Bool} {D : List Int} {j : Nat} (hj : bitB y j = true) (h : 0 < D.countP (fun d => decide (wd d = (j : Int)) && U d)) : 0 < (D.filter (inM y)).countP U := by
 rw [List.countP_pos_iff] at h ⊢;obtain ⟨d, hd, h⟩ := h;rw [Bool.and_eq_true, decide_eq_true_eq] at h;refine ⟨d, List.mem_filter.2 ⟨hd, ?_⟩, h.2⟩;rw [qcz, show (wd d).toNat = j by omega]; exact hj
theorem qtk {nm kd : ByteArray} {p : S45} {m : Int} (l : List S104) (h0 : s122 s2012 (s103 nm kd p m) l = 0) (hp : RedP p) (hm0 : 100 ≤ m) (hm1 : m ≤ 1300) : ∃ y : Nat, s72 s2012 (s103 nm kd p m) l = some ((y : Int), 0) ∧ y < 128 ∧
  ∀ j < 7, bitB (y : Int) j = true → 0 < (dayP p).countP (fun d => decide (wd d = (j : Int)) && isD (stW2 nm kd m l d)) ∧
   80 * (dayP p).countP (fun d => decide (wd d = (j : Int)) && isD (stW2 nm kd m l d)) ≤ 100 * (dayP p).countP (fun d => decide (wd d = (j : Int)) && isF (stW2 nm kd m l d)) := by
 have hpo := period_ok p hp.1
 have hr : ∀ d ∈ dayP p, 0 ≤ d ∧ d ≤ 99999 := fun d hd => by
  have := vu _ _ _ d hd
  omega
 have hlen : (dayP p).length ≤ 41 := qg5 hp _;unfold s72;rw [h0, decide_eq_false (by decide), cond_false, qfr l hp.1 hm0 hm1];simp only [bindO];obtain ⟨x', g1, g2, g3⟩ := qra s2012 (s103 nm kd p m) ((dayP p).map (stW2 nm kd m l)) 0 (List.replicate 7 (S55.mk 0 0)) (by rw [qhe]; simp) rfl;obtain ⟨y, k1, k2, k3⟩ := qew s2012 x' 0 0 (by omega) (by decide);refine ⟨y, by rw [g1]; exact congrArg (fun z => some (z, (0 : Int))) k1, k2, fun j hj hb => ?_⟩
 rcases (k3 j hj).1 hb with h | ⟨i, z, hz, hi, hk⟩
 ·have := qha j hj;unfold bitB at h;rw [show (((0 : Nat) : Int)) = 0 from rfl, this] at h; cases h
 ·have : i = j := by omega
  subst this;have h1 := g3 i (S55.mk 0 0) (by rw [List.getElem?_replicate, if_pos (by omega)]);rw [hz, List.drop_zero, qhe, qhf _ i hm0 hm1 (dayP p) 0 0 hr (by omega) (by omega) (by omega) (by omega)] at h1;rw [Option.some.inj h1] at hk;have c1 := List.countP_le_length (p := fun d => decide (wd d = (i : Int)) && isF (stW2 nm kd m l d)) (l := dayP p);have c2 := List.countP_le_length (p := fun d => decide (wd d = (i : Int)) && isD (stW2 nm kd m l d)) (l := dayP p);generalize (dayP p).countP (fun d => decide (wd d = (i : Int)) && isF (stW2 nm kd m l d)) = u at *;generalize (dayP p).countP (fun d => decide (wd d = (i : Int)) && isD (stW2 nm kd m l d)) = v at *;unfold s106 at hk;replace hk : (decide (0 < 0 + (v : Int)) && decide (IntKind.i64.wrap (80 * (0 + (v : Int))) ≤ IntKind.i64.wrap (100 * (0 + (u : Int))))) = true := hk;rw [wrap_i64 (n := 80 * (0 + (v : Int))) ⟨by omega, by omega⟩, wrap_i64 (n := 100 * (0 + (u : Int))) ⟨by omega, by omega⟩, Bool.and_eq_true, decide_eq_true_eq, decide_eq_true_eq] at hk
  omega
end Go.Sim
