/-
  What is proved: lemmas and contracts of functions on the way to the law topChockBack (part 8).
-/
import Derived.Test.YtfmnmoiaemejjaaGreatVrA7
import Derived.Test.YtfmnmoiaemejjaaGreatVrA3
import Derived.Test.YtfmnmoiaemejjaaGreatVrA5
set_option linter.unusedSectionVars false
set_option linter.unusedSimpArgs false
set_option linter.unusedVariables false
set_option linter.unnecessarySimpa false
set_option linter.deprecated false
set_option maxRecDepth 10000
namespace Go.Sim
open Go.Proofs
def s157 (a0 : S45) (a1 : Int) : Bool :=
 ((decide (a0.fFrom ≤ a1)) && (decide (a1 ≤ a0.fTo))) && (s192 a0.Days (s180 a1))
theorem c157 {g : GL} (a0 : S45) (a1 : Int)    : Con (EG g) 36 [G.agg (S45.c a0), G.int a1] (G.bool (s157 a0 a1)) := by
 generalize hR : s157 a0 a1 = R;unfold s157 at hR;refine qm Tryz.func36 U U fun w0 M0 => ?_;refine qb<|qa [.p, .p]<|su (zi U U) U<|sa U U<|qd<|qb<|zr [.p, .p, .p, .p, .p, .p, .p, .p, .p, .p, .p, .p, .p, .p, .p, .p, .p, .p] (by kernel_rfl)<|sm U U<|su (qc U qa3 U) U<|su (qf U ty3 U) U<|su (xo U U U) U<|sm U U<|sg U U (fun h => qj U U) U<|sg U U (fun h => qc U qa4 U) U<|sg U U (fun h => qf U ty3 (gd h U)) U<|sg U U (fun h => vj U (gd h U) (gd h U)) U<|su (zt U U U U) U<|sm U U<|sg U U (fun h => qc U qlu U) U<|sg U U (fun h => qf U ty3 (gd h U)) U<|sg U U (fun h => qj U U) U<|sg U U (fun h => qg U K180 U (c180 a1) (qe (gd h U) qk)) U<|sg U U (fun h => qg U K192 U (c192 a0.Days (s180 a1) (q38 _)) (qe (gd h U) (qe (gd h U) qk))) U<|su (zt U U U U) U<|sa U U<|qd<|qo ?_;subst hR;exact za U (rv_g U)
def qh1 (rec1 : (List Int) → Int → List Int) (x2 : Int) (x4 : List Int) : List Int :=
 rec1 x4 (x2 + 1)
def qax (a0 : S45) : Nat → (List Int) → Int → List Int
 | 0, x1, x2 => x1
 | k3 + 1, x1, x2 => (bif (s157 a0 x2) then qh1 (fun z0_ z1_ => qax a0 k3 z0_ z1_) x2 (x1 ++ [x2]) else qh1 (fun z0_ z1_ => qax a0 k3 z0_ z1_) x2 x1)
def s104 (a0 : S45) : List Int :=
 qax a0 (((a0.fTo + 1) - a0.fFrom).toNat) [] a0.fFrom
theorem c104 {g : GL} (a0 : S45)  (hp0 : 0 ≤ a0.fFrom) (hp1 : a0.fTo ≤ 1000000)  : Con (EG g) 8 [G.agg (S45.c a0)] (G.sl 1 (List.map cInt (s104 a0))) := by
 generalize hR : s104 a0 = R;unfold s104 at hR;refine qm Tryz.func8 U U fun w0 M0 => ?_;refine qb<|qa [.p, .w]<|su (zi U U) U<|sw (xa 2 3 1 U U U) U<|qd<|qb<|qa [.w]<|sw (xa 3 3 1 U U U) U<|qd<|qb<|qb<|qa [.p, .p, .p]<|su (qc U qa3 U) U<|su (qf U ty3 U) U<|sa U U<|qd<|qp<|zf (γ := Nat × (List Int) × Int) (fun g => ([(1, .g (G.ref (S45.c a0))), (3, .osl 3 1 0 (List.length g.2.1)), (4, .g (G.int g.2.2))], [(3, .arr 3 1 (List.map cInt g.2.1))])) (fun g => g.1 = ((a0.fTo + 1) - g.2.2).toNat ∧ a0.fFrom ≤ g.2.2 ∧ g.2.1.length ≤ (g.2.2 - a0.fFrom).toNat ∧ qax a0 g.1 g.2.1 g.2.2 = R) (fun g => g.1) ⟨U, (((a0.fTo + 1) - a0.fFrom).toNat, [], a0.fFrom), ⟨U, U, U, O⟩, ⟨U, O⟩, U, ⟨U, iD, iD, (by exact hR)⟩, O⟩ ?_
 ·rintro ⟨k3, x1, x2⟩ ⟨hk1, iv1_0, iv1_1, hR⟩;replace hk1 : k3 = ((a0.fTo + 1) - x2).toNat := hk1;replace hR : qax a0 k3 x1 x2 = R := hR;replace iv1_0 : a0.fFrom ≤ x2 := iv1_0;replace iv1_1 : x1.length ≤ (x2 - a0.fFrom).toNat := iv1_1;refine qb<|qb<|qa [.p, .p, .p, .p]<|sm U U<|su (qc U qa4 U) U<|su (qf U ty3 U) U<|su (vj U U U) U<|qd ?_;refine ql _ U (fun h1 => ?_) (fun h1 => ?_)
  ·replace h1 : (decide (x2 ≤ a0.fTo)) = true := h1;replace h1 := decT h1;obtain ⟨k3, rfl⟩ : ∃ m, k3 = m + 1 := ⟨k3 - 1, by omega⟩;rw [qax] at hR;(try dsimp only at hR);refine qn ?_;refine ko (γ := (List Int)) (fun g => ([(1, .g (G.ref (S45.c a0))), (3, .osl 3 1 0 (List.length g)), (4, .g (G.int x2))], [(3, .arr 3 1 (List.map cInt g))])) (fun g => g.length ≤ (x2 + 1 - a0.fFrom).toNat ∧ qh1 (fun z0_ z1_ => qax a0 k3 z0_ z1_) x2 g = R) ?_ ?_
   ·refine qp<|qb<|qa [.p, .p, .p]<|su (qr U ty46 U U U) U<|sm U U<|su (qg U K157 U (c157 a0 x2) (qe U (qe U qk))) U<|qd ?_;refine ql _ U (fun h3 => ?_) (fun h3 => ?_)
    ·replace h3 : ((s157 a0 x2)) = true := h3;replace hR := zk hR h3;(try simp only [bB] at h3);refine qa [.p, .p, .p, .k, .p]<|su (zg U U) U<|sm U U ?_;refine su (qt U Tryz.underlying38 ty3 z3 U (qx U jp) U (by simp []) (by decide)) U ?_;refine st_k U U (xb (f := cInt) (out := x1) (new := [x2]) U za2 U U (qa6 U (qa5 (by decide) (by simp []))) (qkq U) (by simp; omega)) U ?_;refine su (ja U U) U<|qd ?_;exact ⟨U, x1 ++ [x2], ⟨U, U, U, O⟩, ⟨U, O⟩, U, ⟨iB, hR⟩, O⟩
    ·replace h3 : ((s157 a0 x2)) = false := h3;replace hR := zl hR h3;(try simp only [bB] at h3);refine qn ?_;exact ⟨U, x1, ⟨U, U, U, O⟩, ⟨U, O⟩, U, ⟨iB, hR⟩, O⟩
   ·rintro x4 ⟨jv1_0, hR⟩;replace jv1_0 : x4.length ≤ (x2 + 1 - a0.fFrom).toNat := jv1_0;replace hR : qh1 (fun z0_ z1_ => qax a0 k3 z0_ z1_) x2 x4 = R := hR;unfold qh1 at hR;refine qa [.p, .p, .p]<|sm U U<|su (zn U U U iG) U<|sa U U<|qd ?_;exact ⟨U, (k3, x4, x2 + 1), ⟨U, U, U, O⟩, ⟨U, O⟩, U, ⟨iB, iB, iB, hR⟩, by simp⟩
  ·replace h1 : (decide (x2 ≤ a0.fTo)) = false := h1;replace h1 := decF h1
   obtain rfl : k3 = 0 := by omega
   rw [qax] at hR;refine zw<|qb<|qa [.p, .p]<|su (zg U U) U<|su (ja U U) U<|qd<|qo ?_;subst hR;exact za U (qc8 U U)
theorem qil : ∀ (l : List Int) (k : Nat), qcu l k = 0 ↔ ∀ x ∈ l, x = 0
 | [], k => by simp [qcu]
 | y :: t, k => by
  rw [qcu]
  by_cases h : y = 0
  ·rw [decide_eq_false (by simpa using h), cond_false, qil t]; simp [h]
  ·rw [decide_eq_true h, cond_true]; simp [h]
theorem qp4 (l : List Int) : s152 l = 0 ↔ ∀ x ∈ l, x = 0 := qil l 0
theorem qg0 : ∀ (l : List Int) (k : Nat), qcc l k = 0 ↔ ∀ x ∈ l, x = 0
 | [], k => by simp [qcc]
 | y :: t, k => by
  rw [qcc]
  by_cases h : y = 0
  ·rw [decide_eq_false (by simpa using h), cond_false, qg0 t]; simp [h]
  ·rw [decide_eq_true h, cond_true]; simp [h]
theorem quf (l : List Int) : qw5 l = 0 ↔ ∀ x ∈ l, x = 0 := qg0 l 0
theorem qk4 : ∀ (l : List Int) (k : Nat), qg1 l k = 0 ↔ ∀ x ∈ l, x = 0
 | [], k => by simp [qg1]
 | y :: t, k => by
  rw [qg1]
  by_cases h : y = 0
  ·rw [decide_eq_false (by simpa using h), cond_false, qk4 t]; simp [h]
  ·rw [decide_eq_true h, cond_true]; simp [h]
theorem qgz (l : List Int) : s89 l = 0 ↔ ∀ x ∈ l, x = 0 := qk4 l 0
theorem qav {a b c : Int} : s90 a b c = 0 ↔ b ≤ a ∧ a ≤ c := by
 unfold s90
 by_cases h1 : a < b <;> by_cases h2 : c < a <;> simp [h1, h2] <;> omega
theorem qe7 {a b c : Int} : qh2 a b c = 0 ↔ b ≤ a ∧ a ≤ c := by
 unfold qh2 qh3
 by_cases h1 : a < b <;> by_cases h2 : c < a <;> simp [h1, h2] <;> omega
theorem qh4 {a b c : Int} : s155 a b c = 0 ↔ b ≤ a ∧ a ≤ c := by
 unfold s155 s154
 by_cases h1 : a < b <;> by_cases h2 : c < a <;> simp [h1, h2] <;> omega
theorem q17 {p : S45} (h : s40 p = 0) : s102 p = 0 := by
 unfold s40 at h;rw [cond_eq_ite] at h
 split at h
 ·simp at h
 rename_i h1
 simp only [Bool.or_eq_true, decide_eq_true_eq, not_or, Decidable.not_not, ne_eq] at h1;rw [cond_eq_ite] at h
 split at h
 ·simp at h
 rename_i h2
 rw [cond_eq_ite] at h
 split at h
 ·simp at h
 rename_i h3
 have q1 : 0 ≤ p.fFrom ∧ p.fFrom ≤ 99999 := qav.1 h1.1;have q2 : 0 ≤ p.fTo ∧ p.fTo ≤ 99999 := qav.1 h1.2;have q3 := qav.1 h
 have z1 : s152 [s153 p.fFrom, s153 p.fTo] = 0 := (qp4 _).2 (by
  intro x hx;simp only [List.mem_cons, List.not_mem_nil, or_false] at hx
  rcases hx with rfl | rfl
  ·exact qh4.2 q1
  ·exact qh4.2 q2)
 unfold s102;rw [z1];refine (qp4 _).2 ?_;intro x hx;simp only [List.mem_cons, List.not_mem_nil, or_false] at hx
 rcases hx with rfl | rfl | rfl
 ·unfold s154; rw [decide_eq_false (by simpa using h2)]; rfl
 ·unfold s154; rw [decide_eq_false (by simpa using h3)]; rfl
 ·exact qh4.2 q3
theorem q18 {s : ByteArray} (h : qhv s = true) : qom s = 0 := by
 unfold qhv at h; unfold qom qh3;rw [qdy]
 by_cases h1 : s = (⟨#[]⟩ : ByteArray)
 ·simp [h1]
 ·simp only [h1, decide_false, Bool.false_or] at h
  simp [h]
structure RqOk (q : S115) : Prop where
 n : s147 q.Name = true
 c : s147 q.Carrier = true
 p : s147 q.Partner = true
 t : qhv q.Terminal = true
 l : qhv q.Link = true
 k : q.Kind = (⟨#[65]⟩ : ByteArray) ∨ q.Kind = (⟨#[68]⟩ : ByteArray)
 lk : ¬ q.Link = q.Name
 per : s102 q.Period = 0
 m : 0 ≤ q.Minute ∧ q.Minute ≤ 1439
 s : 0 ≤ q.Seats ∧ q.Seats ≤ 999
 z : 1 ≤ q.Size ∧ q.Size ≤ 9
 no : 0 ≤ q.Noise ∧ q.Noise ≤ 99
theorem q7d {q : S115} (h : qon q = 0) : RqOk q := by
 unfold qon at h;rw [cond_eq_ite] at h
 split at h
 ·cases h
 rename_i h1
 rw [cond_eq_ite] at h
 split at h
 ·cases h
 rename_i h2
 rw [cond_eq_ite] at h
 split at h
 ·cases h
 rename_i h3
 rw [cond_eq_ite] at h
 split at h
 ·rename_i h4; simp at h4; exact absurd h h4
 rename_i h4
 simp only [Bool.or_eq_true, Bool.not_eq_true', not_or, Bool.not_eq_false] at h1;obtain ⟨⟨⟨⟨a1, a2⟩, a3⟩, a4⟩, a5⟩ := h1;have h5 := (qgz _).1 h;refine ⟨by rw [qdy]; exact a1, by rw [qdy]; exact a2, by rw [qdy]; exact a3, a4, a5, ?_, by simpa using h3, q17 (by simpa using h4), ?_, ?_, ?_, ?_⟩
 ·by_cases hA : q.Kind = (⟨#[65]⟩ : ByteArray)
  ·exact .inl hA
  ·by_cases hD : q.Kind = (⟨#[68]⟩ : ByteArray)
   ·exact .inr hD
   ·simp [hA, hD] at h2
 ·exact qav.1 (h5 _ (by simp))
 ·exact qav.1 (h5 (s90 q.Seats 0 999) (by simp))
 ·exact qav.1 (h5 (s90 q.Size 1 9) (by simp))
 ·exact qav.1 (h5 (s90 q.Noise 0 99) (by simp))
theorem rq_g {q : S115} (h : (decide (qon q = 0) == true) = true) : 0 ≤ q.Period.fFrom ∧ q.Period.fTo ≤ 1000000 := by
 have := j7 _ (q7d (by simpa using h)).per
 omega
set_option maxRecDepth 100000 in
theorem q0h : ∀ m : Fin 128, ∀ w : Fin 7, s192 (m.1 : Int) (w.1 : Int) = decide (andI (shrI (m.1 : Int) (w.1 : Int)) 1 = 1) := by decide +kernel
theorem q4n {m d : Int} (h1 : 1 ≤ m) (h2 : m ≤ 127) (h3 : 0 ≤ d) (h4 : d ≤ 1000000) : s192 m (s180 d) = inM m d := by
 have hw : s180 d = (d + 5) % 7 := by
  unfold s180;rw [wrap_i64 (by unfold I64; omega), Int.tmod_eq_emod_of_nonneg (by omega)]
 rw [hw];have := q0h ⟨m.toNat, by omega⟩ ⟨((d + 5) % 7).toNat, by omega⟩;simp only at this;rw [Int.toNat_of_nonneg (by omega), Int.toNat_of_nonneg (by omega)] at this;exact this
theorem qp5 (p : S45) (h1 : 1 ≤ p.Days) (h2 : p.Days ≤ 127) (h3 : 0 ≤ p.fFrom) (h4 : p.fTo ≤ 99999) : ∀ (n : Nat) (x : List Int) (d : Int), p.fFrom ≤ d → n = (p.fTo + 1 - d).toNat → qax p n x d = x ++ dayL p.Days n d
 | 0, x, d, _, _ => by simp [qax, dayL]
 | n + 1, x, d, hd, hn => by
  rw [qax, dayL]
  have hs : s157 p d = inM p.Days d := by
   unfold s157;rw [q4n h1 h2 (by omega) (by omega), decide_eq_true (by omega), decide_eq_true (by omega)]
   simp
  rw [hs];unfold qh1;have ih := fun x => qp5 p h1 h2 h3 h4 n x (d + 1) (by omega) (by omega);show (bif inM p.Days d then qax p n (x ++ [d]) (d + 1) else qax p n x (d + 1)) = _;rw [ih, ih]
  cases inM p.Days d <;> simp
theorem qhe (p : S45) (h : s102 p = 0) : s104 p = dayL p.Days (p.fTo + 1 - p.fFrom).toNat p.fFrom := by
 obtain ⟨q1, q2, q3, q4, q5, q6⟩ := j7 p h;unfold s104;rw [qp5 p q5 q6 q1 q3 _ _ _ (Int.le_refl _) rfl]; rfl
theorem qaf (m : Int) : ∀ (n : Nat) (f : Int), ∀ d ∈ dayL m n f, f ≤ d ∧ d < f + n
 | 0, f, d, h => by simp [dayL] at h
 | n + 1, f, d, h => by
  unfold dayL at h
  split at h
  ·rcases List.mem_cons.1 h with rfl | h
   ·omega
   ·have := qaf m n _ d h; omega
  ·have := qaf m n _ d h; omega
theorem q0i {p : S45} (h : s102 p = 0) : (s104 p).length ≤ 401 := by
 rw [qhe p h];obtain ⟨q1, q2, q3, q4, q5, q6⟩ := j7 p h;have := qgx p.Days (p.fTo + 1 - p.fFrom).toNat p.fFrom
 omega
def cF (k : Int) (I : List (Int × Int)) : Int := ((I.countP fun q => decide (q.1 = k) : Nat) : Int)
def cT (k : Int) (I : List (Int × Int)) : Int := ((I.countP fun q => decide (q.2 = k) : Nat) : Int)
structure Ed (e : List Int) (I : List (Int × Int)) : Prop where
 len : e.length = 1441
 at_ : ∀ k : Nat, k < 1441 → e[k]? = some (cF k I - cT k I)
 rng : ∀ q ∈ I, 0 ≤ q.1 ∧ q.1 < q.2 ∧ q.2 ≤ 1440
theorem q7m : Ed (List.replicate 1441 0) [] := ⟨by rw [List.length_replicate], fun k hk => by rw [List.getElem?_replicate, if_pos hk]; rfl, fun q h => by cases h⟩
theorem q4o (k : Int) (I : List (Int × Int)) : 0 ≤ cF k I ∧ cF k I ≤ I.length := ⟨Int.natCast_nonneg _, by unfold cF; exact Int.ofNat_le.2 List.countP_le_length⟩
theorem q4p (k : Int) (I : List (Int × Int)) : 0 ≤ cT k I ∧ cT k I ≤ I.length := ⟨Int.natCast_nonneg _, by unfold cT; exact Int.ofNat_le.2 List.countP_le_length⟩
theorem q4q (k : Int) (I : List (Int × Int)) (f t : Int) : cF k (I ++ [(f, t)]) = cF k I + (if f = k then 1 else 0) := by
 unfold cF; rw [List.countP_append]; by_cases h : f = k <;> simp [h]
theorem q4r (k : Int) (I : List (Int × Int)) (f t : Int) : cT k (I ++ [(f, t)]) = cT k I + (if t = k then 1 else 0) := by
 unfold cT; rw [List.countP_append]; by_cases h : t = k <;> simp [h]
theorem qw6 {e : List Int} {I : List (Int × Int)} (h : Ed e I) {f : Int} (h0 : 0 ≤ f) (h1 : f ≤ 1440) : ixO e f = some (cF f I - cT f I) := by
 unfold ixO;rw [decide_eq_true h0, cond_true, h.at_ f.toNat (by omega), Int.toNat_of_nonneg h0]
theorem q4s {e : List Int} {I : List (Int × Int)} (h : Ed e I) (hI : I.length ≤ 1000000000000) {f t : Int} (h0 : 0 ≤ f) (h1 : f < t) (h2 : t ≤ 1440) :
  ∃ y, ixO e f = some y ∧ ∃ y', ixO (List.set e f.toNat (IntKind.i64.wrap (y + 1))) t = some y' ∧ Ed (List.set (List.set e f.toNat (IntKind.i64.wrap (y + 1))) t.toNat (IntKind.i64.wrap (y' - 1))) (I ++ [(f, t)]) := by
 have a1 := q4o f I; have a2 := q4p f I; have a3 := q4o t I; have a4 := q4p t I
 have hI' : (I.length : Int) ≤ 1000000000000 := by omega
 refine ⟨_, qw6 h h0 (by omega), cF t I - cT t I, ?_, ?_⟩
 ·have := qw6 h (show 0 ≤ t by omega) h2;unfold ixO at this ⊢;rw [decide_eq_true (show 0 ≤ t by omega), cond_true] at this ⊢;rw [List.getElem?_set_ne (by omega)]; exact this
 ·rw [wrap_i64 (by unfold I64; omega), wrap_i64 (by unfold I64; omega)];refine ⟨by rw [List.length_set, List.length_set]; exact h.len, fun k hk => ?_, fun q hq => ?_⟩
  ·have h3 := h.at_ k hk;rw [q4q, q4r];rw [List.getElem?_set, List.getElem?_set, List.length_set, h.len]
   by_cases c1 : t.toNat = k
   ·have e1 : t = (k : Int) := by omega
    rw [if_pos c1, if_pos (by omega), if_pos e1, if_neg (by omega), e1];exact congrArg some (by omega)
   ·rw [if_neg c1]
    have e1 : ¬ t = (k : Int) := by omega
    rw [if_neg e1]
    by_cases c2 : f.toNat = k
    ·have e2 : f = (k : Int) := by omega
     rw [if_pos c2, if_pos (by omega), if_pos e2, e2];exact congrArg some (by omega)
    ·rw [if_neg c2, if_neg (by omega), h3];exact congrArg some (by omega)
  ·rcases List.mem_append.1 hq with hq | hq
   ·exact h.rng q hq
   ·simp only [List.mem_singleton] at hq; subst hq; exact ⟨h0, h1, h2⟩
def aF (i : Int) (I : List (Int × Int)) : Int := ((I.countP fun q => decide (q.1 < i) : Nat) : Int)
def aT (i : Int) (I : List (Int × Int)) : Int := ((I.countP fun q => decide (q.2 < i) : Nat) : Int)
def inI (i : Int) (I : List (Int × Int)) : Bool := I.any fun q => decide (q.1 ≤ i) && decide (i < q.2)
theorem qw7 (i : Int) : ∀ I : List (Int × Int), aF (i + 1) I = aF i I + cF i I
 | [] => rfl
 | q :: I => by
  have ih := qw7 i I;unfold aF cF at *;rw [List.countP_cons, List.countP_cons, List.countP_cons]
  by_cases h1 : q.1 < i
  ·rw [if_pos (by simp; omega), if_pos (by simpa using h1), if_neg (by simp; omega)]; omega
  ·by_cases h2 : q.1 = i
   ·rw [if_pos (by simp; omega), if_neg (by simpa using h1), if_pos (by simpa using h2)]; omega
   ·rw [if_neg (by simp; omega), if_neg (by simpa using h1), if_neg (by simpa using h2)]; omega
theorem qw8 (i : Int) : ∀ I : List (Int × Int), aT (i + 1) I = aT i I + cT i I
 | [] => rfl
 | q :: I => by
  have ih := qw8 i I;unfold aT cT at *;rw [List.countP_cons, List.countP_cons, List.countP_cons]
  by_cases h1 : q.2 < i
  ·rw [if_pos (by simp; omega), if_pos (by simpa using h1), if_neg (by simp; omega)]; omega
  ·by_cases h2 : q.2 = i
   ·rw [if_pos (by simp; omega), if_neg (by simpa using h1), if_pos (by simpa using h2)]; omega
   ·rw [if_neg (by simp; omega), if_neg (by simpa using h1), if_neg (by simpa using h2)]; omega
theorem qw9 (i : Int) : ∀ {I : List (Int × Int)}, (∀ q ∈ I, q.1 < q.2) → 0 ≤ aF (i + 1) I - aT (i + 1) I ∧ (decide (0 < aF (i + 1) I - aT (i + 1) I) = inI i I)
 | [], _ => ⟨Int.le_refl _, rfl⟩
 | q :: I, h => by
  obtain ⟨ih1, ih2⟩ := qw9 i (I := I) fun x hx => h x (List.mem_cons_of_mem _ hx);have hq := h q List.mem_cons_self;unfold aF aT inI at *;rw [List.countP_cons, List.countP_cons, List.any_cons, ← ih2]
  by_cases h1 : q.1 ≤ i
  ·by_cases h2 : i < q.2
   ·rw [if_pos (by simp; omega), if_neg (by simp; omega), decide_eq_true h1, decide_eq_true h2];exact ⟨by omega, by rw [decide_eq_true (by omega)]; rfl⟩
   ·rw [if_pos (by simp; omega), if_pos (by simp; omega), decide_eq_true h1, decide_eq_false h2];refine ⟨by omega, ?_⟩;rw [Bool.and_false, Bool.false_or];exact decide_eq_decide.2 (by omega)
  ·rw [if_neg (by simp; omega), if_neg (by simp; omega), decide_eq_false h1];refine ⟨by omega, ?_⟩;rw [Bool.false_and, Bool.false_or];exact decide_eq_decide.2 (by omega)
theorem zca (i : Int) (I : List (Int × Int)) : 0 ≤ aF i I ∧ aF i I ≤ I.length := ⟨Int.natCast_nonneg _, by unfold aF; exact Int.ofNat_le.2 List.countP_le_length⟩
theorem zcb (i : Int) (I : List (Int × Int)) : 0 ≤ aT i I ∧ aT i I ≤ I.length := ⟨Int.natCast_nonneg _, by unfold aT; exact Int.ofNat_le.2 List.countP_le_length⟩
theorem q19 {e : List Int} {I : List (Int × Int)} (h : Ed e I) (hI : I.length ≤ 1000000000000) : ∀ (k i : Nat) (F : List Bool), i + k = 1440 → F.length = 1440 → (∀ m : Nat, m < i → F[m]? = some (inI m I)) →
  ∃ F', qat e k (aF i I - aT i I) i F = some F' ∧ F'.length = 1440 ∧ ∀ m : Nat, m < 1440 → F'[m]? = some (inI m I)
 | 0, i, F, h0, h1, h2 => ⟨F, rfl, h1, fun m hm => h2 m (by omega)⟩
 | k + 1, i, F, h0, h1, h2 => by
  rw [qat, qw6 h (by omega) (by omega)]
  have hF : ixO F (i : Int) = some F[i] := by
   unfold ixO; rw [decide_eq_true (by omega), cond_true, Int.toNat_natCast, List.getElem?_eq_getElem (by omega)]
  rw [hF];simp only [zc];have a1 := zca (i : Int) I; have a2 := zcb (i : Int) I; have a3 := q4o (i : Int) I; have a4 := q4p (i : Int) I
  have hI' : (I.length : Int) ≤ 1000000000000 := by omega
  rw [wrap_i64 (by unfold I64; omega)];have e1 := qw7 (i : Int) I;have e2 := qw8 (i : Int) I
  have e3 : aF (i : Int) I - aT (i : Int) I + (cF (i : Int) I - cT (i : Int) I) = aF ((i : Int) + 1) I - aT ((i : Int) + 1) I := by omega
  rw [e3, (qw9 (i : Int) fun q hq => (h.rng q hq).2.1).2]
  have := q19 h hI k (i + 1) (F.set i (inI i I)) (by omega) (by rw [List.length_set]; exact h1) (fun m hm => by
   rw [List.getElem?_set]
   by_cases c : i = m
   ·subst c; rw [if_pos rfl, if_pos (by omega)]
   ·rw [if_neg c]; exact h2 m (by omega))
  rw [Int.toNat_natCast];exact this
def frm (d b : Int) : Int := max 0 (b - 1440 * d)
def til (l : S2062) (d b : Int) : Int := min 1440 (b + l.Length - 1440 * d)
def ivB (ms : List S1079) (l : S2062) (d b : Int) : List (Int × Int) := if cntI (ofL l ms) b l.Length < l.Most then [] else if frm d b < til l d b then [(frm d b, til l d b)] else []
def ivX (ms : List S1079) (l : S2062) (d x : Int) : List (Int × Int) := (begL l x).flatMap (ivB ms l d)
def ivD (ms : List S1079) (l : S2062) (d : Int) : List (Int × Int) := ivX ms l d (d - 1) ++ ivX ms l d d
def ivL (ms : List S1079) (a2 : S115) (l : S2062) : List (Int × Int) := if qag l a2.Kind a2.Terminal = true then (s69 a2.Period).1.flatMap (ivD ms l) else []
def ivs (ms : List S1079) (a2 : S115) (ls : List S2062) : List (Int × Int) := ls.flatMap (ivL ms a2)
theorem q7n {ms : List S1079} {l : S2062} (hl : LimOk l) {d b : Int} (hd0 : 0 ≤ d) (hd1 : d ≤ 1000000) (hb0 : 1440 * (d - 1) ≤ b) (hb1 : b ≤ 1440 * d + 1439) {e : List Int} {I : List (Int × Int)} (h : Ed e I) (hI : I.length ≤ 1000000000000)
  (rec5 : Int → Int → Int → List Int → Option (List Bool)) (x43 x44 x45 : Int) : ∃ e', qbh rec5 l d e b (cntI (ofL l ms) b l.Length) x43 x44 x45 = rec5 x43 x44 x45 e' ∧ Ed e' (I ++ ivB ms l d b) := by
 have h0 := hl.l0; have h1 := hl.l1;unfold qbh ivB frm til;rw [wrap_i64 (n := 1440 * d) (by unfold I64; omega), wrap_i64 (n := b - 1440 * d) (by unfold I64; omega), wrap_i64 (n := b + l.Length) (by unfold I64; omega), wrap_i64 (n := b + l.Length - 1440 * d) (by unfold I64; omega)];rw [cond_eq_ite]
 by_cases c1 : cntI (ofL l ms) b l.Length < l.Most
 ·rw [if_pos (decide_eq_true c1), if_pos c1]; exact ⟨e, rfl, by rwa [List.append_nil]⟩
 ·rw [if_neg (by simpa using c1), if_neg c1, cond_eq_ite]
  by_cases c2 : max 0 (b - 1440 * d) < min 1440 (b + l.Length - 1440 * d)
  ·rw [if_pos (decide_eq_true c2), if_pos c2];obtain ⟨y, q1, y', q2, q3⟩ := q4s h hI (Int.le_max_left 0 (b - 1440 * d)) c2 (Int.min_le_left 1440 (b + l.Length - 1440 * d));rw [q1]; simp only [zc];rw [q2];exact ⟨_, U, q3⟩
  ·rw [if_neg (by simpa using c2), if_neg c2]; exact ⟨e, rfl, by rwa [List.append_nil]⟩
structure Cch (ms : List S1079) (l : S2062) (x35 x36 x37 : Int) : Prop where
 z : x35 = 0
 c : x36 = -1 ∨ x37 = cntI (ofL l ms) x36 l.Length
theorem qxa (ms : List S1079) (l : S2062) (d b : Int) : (ivB ms l d b).length ≤ 1 := by
 unfold ivB
 split
 ·simp
 ·split <;> simp
theorem q2a {ms : List S1079} {l : S2062} (hl : LimOk l) {d : Int} (hd0 : 0 ≤ d) (hd1 : d ≤ 1000000) (rec4 : Int → Int → Int → Int → List Int → Option (List Bool)) (x26 : Int) : ∀ (t : List Int), (∀ b ∈ t, 0 ≤ b ∧ 1440 * (d - 1) ≤ b ∧ b ≤ 1440 * d + 1439) →
  ∀ (x35 x36 x37 : Int) (e : List Int) (I : List (Int × Int)), Cch ms l x35 x36 x37 → Ed e I → I.length + t.length ≤ 1000000000000 →
  ∃ y35 y36 y37 e', vo rec4 ms l d x26 t x35 x36 x37 e = rec4 (x26 + 1) y35 y36 y37 e' ∧ Cch ms l y35 y36 y37 ∧ Ed e' (I ++ t.flatMap (ivB ms l d))
 | [], _, x35, x36, x37, e, I, hc, he, _ => ⟨_, _, _, _, rfl, hc, by simpa using he⟩
 | b :: t, ht, x35, x36, x37, e, I, hc, he, hI => by
  obtain ⟨hb, hb0, hb1⟩ := ht b List.mem_cons_self;rw [List.length_cons] at hI;have hlen := qxa ms l d b
  have key : ∀ (q35 q36 q37 : Int), Cch ms l q35 q36 q37 → ∃ y35 y36 y37 e', qbh (fun z0_ z1_ z2_ z3_ => vo rec4 ms l d x26 t z0_ z1_ z2_ z3_) l d e b (cntI (ofL l ms) b l.Length) q35 q36 q37 = rec4 (x26 + 1) y35 y36 y37 e' ∧ Cch ms l y35 y36 y37 ∧ Ed e' (I ++ (b :: t).flatMap (ivB ms l d)) := by
   intro q35 q36 q37 hq;obtain ⟨e', g1, g2⟩ := q7n (ms := ms) hl hd0 hd1 hb0 hb1 he (by omega) (fun z0_ z1_ z2_ z3_ => vo rec4 ms l d x26 t z0_ z1_ z2_ z3_) q35 q36 q37;obtain ⟨y35, y36, y37, e2, g3, g4, g5⟩ := q2a hl hd0 hd1 rec4 x26 t (fun b hb => ht b (List.mem_cons_of_mem _ hb)) q35 q36 q37 e' (I ++ ivB ms l d b) hq g2 (by rw [List.length_append]; omega);exact ⟨y35, y36, y37, e2, g1.trans g3, g4, by rw [List.flatMap_cons, ← List.append_assoc]; exact g5⟩
  rw [vo, cond_eq_ite]
  by_cases c : x36 = b
  ·subst c
   have e1 : qit [decide (x35 = 0), decide (x36 = x36), decide (x37 = x37)] = true := by rw [hc.z]; simp [qit]
   rw [e1];have e2 : x37 = cntI (ofL l ms) x36 l.Length := hc.c.resolve_left (by omega);have := key x35 x36 x37 hc;rw [if_neg (by simp)];rw [← e2] at this;exact this
  ·have e1 : qit [decide (x35 = 0), decide (x36 = b), decide (x37 = x37)] = false := by simp [qit, c]
   rw [e1, if_pos (by simp)];exact key 0 b _ ⟨U, .inr U⟩
theorem qjw {l : S2062} (hl : LimOk l) (d : Int) : (begL l d).length ≤ 1440 := by
 unfold begL
 cases ((decide (d < l.Period.fFrom)) || (decide (l.Period.fTo < d))) || (!(qpr l d)) with
 | true => exact Nat.zero_le _
 | false =>
  rw [cond_false, List.length_map, List.length_range];have h1 := q6t hl; have h2 := (q3v hl).2.1; have h3 := hl.t0; have h4 := hl.t1; have h5 := hl.s0;have : l.fTo / l.Step ≤ l.fTo := Int.ediv_le_self _ (by omega)
  omega
theorem qk5 {α β : Type} {f : α → List β} {n : Nat} : ∀ {l : List α}, (∀ x ∈ l, (f x).length ≤ n) → (l.flatMap f).length ≤ l.length * n
 | [], _ => by simp
 | x :: l, h => by
  have h1 := h x List.mem_cons_self;have h2 := qk5 (l := l) fun y hy => h y (List.mem_cons_of_mem _ hy);rw [List.flatMap_cons, List.length_append, List.length_cons, Nat.succ_mul]; omega
theorem qre {ms : List S1079} {l : S2062} (hl : LimOk l) (d x : Int) : (ivX ms l d x).length ≤ 1440 := by
 have h1 := qk5 (f := ivB ms l d) (n := 1) (l := begL l x) fun b _ => qxa ms l d b;have h2 := qjw hl x;unfold ivX; omega
theorem qxb {ms : List S1079} {l : S2062} (hl : LimOk l) (d : Int) : (ivD ms l d).length ≤ 2880 := by
 have h1 := qre (ms := ms) hl d (d - 1); have h2 := qre (ms := ms) hl d d;unfold ivD; rw [List.length_append]; omega
theorem q4t {ms : List S1079} {a2 : S115} (hp : s102 a2.Period = 0) {l : S2062} (hl : LimOk l) : (ivL ms a2 l).length ≤ 1154880 := by
 unfold ivL
 split
 ·have h1 := qk5 (f := ivD ms l) (n := 2880) (l := (s69 a2.Period).1) fun d _ => qxb hl d;have h2 := qog hp
  omega
 ·simp
theorem q7o {ms : List S1079} {l : S2062} (hl : LimOk l) {d : Int} (hd0 : 0 ≤ d) (hd1 : d ≤ 1000000) (x : Int) (hx : x = d - 1 ∨ x = d) (rec4 : Int → Int → Int → Int → List Int → Option (List Bool)) (x26 x35 x36 x37 : Int) (e : List Int) (I : List (Int × Int)) (hc : Cch ms l x35 x36 x37) (he : Ed e I) (hI : I.length ≤ 900000000000) :
  ∃ y35 y36 y37 e', vo rec4 ms l d x26 (begL l x) x35 x36 x37 e = rec4 (x26 + 1) y35 y36 y37 e' ∧ Cch ms l y35 y36 y37 ∧ Ed e' (I ++ ivX ms l d x) := by
 have hn := qjw hl x
 exact q2a hl hd0 hd1 rec4 x26 (begL l x) (fun b hb => by
  have := qn9 hl hb;have := hl.p0
  omega) x35 x36 x37 e I hc he (by omega)
theorem q7p {ms : List S1079} {l : S2062} (hl : LimOk l) {d : Int} (hd0 : 0 ≤ d) (hd1 : d ≤ 1000000) (rec3 : Nat → Int → Int → Int → List Int → Option (List Bool)) (k23 : Nat) (x35 x36 x37 : Int) (e : List Int) (I : List (Int × Int)) (hc : Cch ms l x35 x36 x37) (he : Ed e I) (hI : I.length ≤ 800000000000) :
  ∃ y35 y36 y37 e', ky rec3 ms l k23 d (((2 : Int) - 0).toNat) 0 x35 x36 x37 e = rec3 (k23 + 1) y35 y36 y37 e' ∧ Cch ms l y35 y36 y37 ∧ Ed e' (I ++ ivD ms l d) := by
 rw [show ((2 : Int) - 0).toNat = 0 + 1 + 1 from rfl, ky, wrap_i64 (by unfold I64; omega)];rw [show ixO [d - 1, d] 0 = some (d - 1) from rfl];simp only [zc];obtain ⟨u35, u36, u37, e1, g1, g2, g3⟩ := q7o (ms := ms) hl hd0 hd1 (d - 1) (.inl rfl) (fun z0_ z1_ z2_ z3_ z4_ => ky rec3 ms l k23 d (0 + 1) z0_ z1_ z2_ z3_ z4_) 0 x35 x36 x37 e I hc he (by omega);rw [g1, ky, wrap_i64 (by unfold I64; omega)];rw [show ixO [d - 1, d] (0 + 1) = some d from rfl];simp only [zc];have hx := qre (ms := ms) hl d (d - 1);obtain ⟨y35, y36, y37, e2, g4, g5, g6⟩ := q7o (ms := ms) hl hd0 hd1 d (.inr rfl) (fun z0_ z1_ z2_ z3_ z4_ => ky rec3 ms l k23 d 0 z0_ z1_ z2_ z3_ z4_) (0 + 1) u35 u36 u37 e1 (I ++ ivX ms l d (d - 1)) g2 g3 (by rw [List.length_append]; omega);rw [g4, ky];exact ⟨y35, y36, y37, e2, U, g5, by unfold ivD; rw [← List.append_assoc]; exact g6⟩
theorem q2b {ms : List S1079} {l : S2062} (hl : LimOk l) (rec1 : Nat → List Int → Option (List Bool)) (k4 : Nat) : ∀ (t : List Int), (∀ d ∈ t, 0 ≤ d ∧ d ≤ 1000000) → ∀ (k23 : Nat) (x35 x36 x37 : Int) (e : List Int) (I : List (Int × Int)), Cch ms l x35 x36 x37 → Ed e I → I.length + t.length * 2880 ≤ 700000000000 →
  ∃ e', ve rec1 ms k4 l t k23 x35 x36 x37 e = rec1 (k4 + 1) e' ∧ Ed e' (I ++ t.flatMap (ivD ms l))
 | [], _, k23, x35, x36, x37, e, I, hc, he, _ => ⟨e, rfl, by simpa using he⟩
 | d :: t, ht, k23, x35, x36, x37, e, I, hc, he, hI => by
  obtain ⟨h0, h1⟩ := ht d List.mem_cons_self;rw [List.length_cons, Nat.succ_mul] at hI;rw [ve];obtain ⟨y35, y36, y37, e1, g1, g2, g3⟩ := q7p (ms := ms) hl h0 h1 (fun k_ z0_ z1_ z2_ z3_ => ve rec1 ms k4 l t k_ z0_ z1_ z2_ z3_) k23 x35 x36 x37 e I hc he (by omega);have hx := qxb (ms := ms) hl d;obtain ⟨e2, g4, g5⟩ := q2b hl rec1 k4 t (fun x hx => ht x (List.mem_cons_of_mem _ hx)) (k23 + 1) y35 y36 y37 e1 (I ++ ivD ms l d) g2 g3 (by rw [List.length_append]; omega);exact ⟨e2, g1.trans g4, by rw [List.flatMap_cons, ← List.append_assoc]; exact g5⟩
theorem qev {p : S45} (hp : s102 p = 0) : ∀ d ∈ (s69 p).1, 0 ≤ d ∧ d ≤ 99999 := by
 intro d hd;rw [qc7 hp] at hd;have h1 := qaf _ _ _ d hd;obtain ⟨q1, q2, q3, q4, q5, q6⟩ := j7 p hp
 omega
theorem qxc {ms : List S1079} {a2 : S115} (hp : s102 a2.Period = 0) : ∀ (t : List S2062), (∀ l ∈ t, LimOk l) → ∀ (k4 : Nat) (e : List Int) (I : List (Int × Int)), Ed e I → I.length + t.length * 1154880 ≤ 600000000000 →
  ∃ F, jz ms a2 t k4 e = some F ∧ F.length = 1440 ∧ ∀ m : Nat, m < 1440 → F[m]? = some (inI m (I ++ ivs ms a2 t))
 | [], _, k4, e, I, he, hI => by
  rw [jz];rw [show ((1440 : Int) - 0).toNat = 1440 from rfl];generalize hN : (1440 : Nat) = N
  have q1 : I.length ≤ 1000000000000 := by rw [List.length_nil, Nat.zero_mul] at hI; omega
  have q2 : (List.replicate N false).length = 1440 := List.length_replicate.trans hN.symm
  have q3 : 0 + N = 1440 := by omega
  have q4 : ∀ m : Nat, m < 0 → (List.replicate N false)[m]? = some (inI m I) := fun m hm => absurd hm (Nat.not_lt_zero m);obtain ⟨F, g1, g2, g3⟩ := q19 he q1 N 0 (List.replicate N false) q3 q2 q4
  have e0 : aF ((0 : Nat) : Int) I - aT ((0 : Nat) : Int) I = 0 := by
   have h1 : aF ((0 : Nat) : Int) I = 0 := by
    unfold aF
    have : I.countP (fun q => decide (q.1 < ((0 : Nat) : Int))) = 0 := List.countP_eq_zero.2 fun q hq => by have := (he.rng q hq).1; simp; omega
    rw [this]; rfl
   have h2 : aT ((0 : Nat) : Int) I = 0 := by
    unfold aT
    have : I.countP (fun q => decide (q.2 < ((0 : Nat) : Int))) = 0 := List.countP_eq_zero.2 fun q hq => by have := he.rng q hq; simp; omega
    rw [this]; rfl
   rw [h1, h2]; rfl
  rw [e0] at g1;refine ⟨F, g1, g2.trans hN, fun m hm => ?_⟩;have := g3 m (by omega)
  simpa [ivs] using this
 | l :: t, ht, k4, e, I, he, hI => by
  have hl := ht l List.mem_cons_self;have ht' := fun x hx => ht x (List.mem_cons_of_mem _ hx)
  have hI2 : I.length + t.length * 1154880 + 1154880 ≤ 600000000000 := by rw [List.length_cons] at hI; omega
  clear hI;rw [jz, cond_eq_ite];have hx := q4t (ms := ms) hp hl
  cases hc : qag l a2.Kind a2.Terminal with
  | false =>
   rw [if_pos (by simp), qez];obtain ⟨F, g1, g2, g3⟩ := qxc hp t ht' (k4 + 1) e I he (by omega);refine ⟨F, g1, g2, ?_⟩;unfold ivs at g3 ⊢;rw [List.flatMap_cons];unfold ivL at g3 ⊢;rw [hc, if_neg (by simp), List.nil_append]; exact g3
  | true =>
   rw [if_neg (by simp)];have hdl := qog hp;obtain ⟨e1, g1, g2⟩ := q2b (ms := ms) hl (fun k_ z0_ => jz ms a2 t k_ z0_) k4 (s69 a2.Period).1 (fun d hd => by have := qev hp d hd; omega) 0 0 (-1) 0 e I ⟨rfl, .inl rfl⟩ he (by omega)
   have eL : ivL ms a2 l = (s69 a2.Period).1.flatMap (ivD ms l) := by unfold ivL; rw [hc, if_pos rfl]
   rw [← eL] at g2;obtain ⟨F, g3, g4, g5⟩ := qxc hp t ht' (k4 + 1) e1 (I ++ ivL ms a2 l) g2 (by rw [List.length_append]; omega);refine ⟨F, ?_, g4, ?_⟩
   ·rw [g1]; exact g3
   ·unfold ivs at g5 ⊢;rw [List.flatMap_cons, ← List.append_assoc]; exact g5
theorem q4u {a0 : List S2062} {a1 : List S1079} {a2 : S115} (h1 : a0.length ≤ 1000) (h2 : ∀ l ∈ a0, LimOk l) (hp : s102 a2.Period = 0) : ∃ F, qt6 a0 a1 a2 = some F ∧ F.length = 1440 ∧ ∀ m : Nat, m < 1440 → F[m]? = some (inI m (ivs a1 a2 a0)) := by
 unfold qt6;obtain ⟨F, g1, g2, g3⟩ := qxc (ms := a1) hp a0 h2 0 (List.replicate 1441 0) [] q7m (by simp; omega);exact ⟨F, g1, g2, by simpa using g3⟩
theorem q4v (ms : List S1079) (m : S1079) (i : Nat) {l : S2062} (hl : LimOk l) : (arW ms m i l 2).length ≤ 2880 := by
 have h1 := qjw hl (m.Moment / 1440 - 1);have h2 := qjw hl (m.Moment / 1440);have e : arW ms m i l 2 = (begL l (m.Moment / 1440 - 1)).filterMap (qkv i l (ofL l ms) m) ++ ((begL l (m.Moment / 1440)).filterMap (qkv i l (ofL l ms) m) ++ []) := rfl;have h3 := List.length_filterMap_le (qkv i l (ofL l ms) m) (begL l (m.Moment / 1440 - 1));have h4 := List.length_filterMap_le (qkv i l (ofL l ms) m) (begL l (m.Moment / 1440));rw [e];simp only [List.length_append, List.length_nil]
 omega
theorem qrf (ms : List S1079) (m : S1079) : ∀ (ls : List S2062) (i : Nat), (∀ l ∈ ls, LimOk l) → (arL ms m ls i).length ≤ 2880 * ls.length
 | [], _, _ => Nat.le_refl _
 | l :: t, i, h => by
  have h1 := qrf ms m t (i + 1) fun x hx => h x (List.mem_cons_of_mem _ hx);have h2 := q4v ms m i (h l List.mem_cons_self);rw [arL, List.length_append, List.length_cons]
  have h3 : (bif qag l m.Kind m.Terminal then arW ms m i l 2 else []).length ≤ 2880 := by
   cases qag l m.Kind m.Terminal with
   | true => exact h2
   | false => exact Nat.zero_le _
  omega
theorem q4w {ms : List S1079} {m : S1079} {ls : List S2062} {i : Nat} (h : ls.length ≤ 1000) (hl : ∀ l ∈ ls, LimOk l) : (arL ms m ls i).length ≤ 100000000 := by
 have := qrf ms m ls i hl
 omega
theorem q0j {ms : List S1079} {m : S1079} {ls : List S2062} {i : Nat} (h : ls.length ≤ 32) (hl : ∀ l ∈ ls, LimOk l) : (arL ms m ls i).length ≤ 1000000 := by
 have := qrf ms m ls i hl
 omega
def qay (rec1 : Int → (List S1079) → Option (List S1079)) (a1 : Int) (a3 : S1079 → S1079 → Option Int) (x1 : Int) : Nat → Int → (List S1079) → Option (List S1079)
 | 0, _, _ => none
 | k8 + 1, x5, x6 => zc (bif decide (a1 < x5) then ixO x6 x5 else some default) fun y9 => zc (bif decide (a1 < x5) then ixO x6 (x5 - 1) else some default) fun y10 => zc (bif decide (a1 < x5) then a3 y9 y10 else some default) fun r11 => (bif (decide (a1 < x5)) && (decide (r11 < 0)) then zc (ixO x6 (x5 - 1)) fun y12 => zc (ixO x6 x5) fun y13 => zc (ixO x6 x5) fun y14 => zc (ixO (List.set x6 (Int.toNat x5) y12) (x5 - 1)) fun y15 => qay rec1 a1 a3 x1 k8 (x5 - 1) (List.set (List.set x6 (Int.toNat x5) y12) (Int.toNat (x5 - 1)) y13) else rec1 (x1 + 1) x6)
def xg (a1 : Int) (a3 : S1079 → S1079 → Option Int) : Nat → Int → (List S1079) → Option (List S1079)
 | 0, x1, x2 => some x2
 | k4 + 1, x1, x2 => qay (fun z0_ z1_ => xg a1 a3 k4 z0_ z1_) a1 a3 x1 (((x1 - a1).toNat) + 1) x1 x2
def qp6 (a0 : List S1079) (a1 : Int) (a2 : Int) (a3 : S1079 → S1079 → Option Int) : Option (List S1079) :=
 xg a1 a3 ((a2 - (a1 + 1)).toNat) (a1 + 1) a0
theorem q7q {g : GL} (a0 : List S1079) (a1 : Int) (a2 : Int) (a3 : S1079 → S1079 → Option Int) {R : List S1079} {N0 : Nat} (hN0 : List.length a0 = N0) {ca3 : G} {ia3 : FuncId} {ka3 : List G} (ha3 : FnIs ca3 ia3 ka3) (Ka3 : ze Tryz.prog ia3) (Ha3 : ∀ (x0 : S1079) (x1 : S1079) (r : Int), a3 x0 x1 = some r → Con (EG g) ia3 ([G.agg (S1079.c x0), G.agg (S1079.c x1)] ++ ka3) (G.int r)) (hA : 0 ≤ a1) (hA2 : a1 ≤ 1000000) (hB : a2 ≤ 1000000) (hR : qp6 a0 a1 a2 a3 = some R) : ConB (EG g) 195 [.osl 0 7 0 N0, .g (G.int a1), .g (G.int a2), .g (ca3)] [(0, .arr 53 7 (List.map S1079.c a0))] (G.tup []) [(0, .arr 53 7 (List.map S1079.c R))] := by
 unfold qp6 at hR;refine qa9 Tryz.func195 U U U fun w0 M0 x => ?_;refine qfs (f := S1079.c) (l := a0) 0 U fun hla0 => ?_;refine qb<|qa [.p, .p, .p]<|sm U U<|su (zn U U U iF) U<|sa U U<|qd<|qp<|zf (γ := Nat × Int × (List S1079)) (fun g => ([(0, .osl 0 7 0 (N0)), (1, .g (G.int a1)), (2, .g (G.int a2)), (3, .g (ca3)), (8, .g (G.int g.2.1))], [(0, .arr 53 7 (List.map S1079.c g.2.2))])) (fun g => g.1 = (a2 - g.2.1).toNat ∧ (a1 + 1) ≤ g.2.1 ∧ List.length g.2.2 = N0 ∧ xg a1 a3 g.1 g.2.1 g.2.2 = some R) (fun g => g.1) ⟨U, ((a2 - (a1 + 1)).toNat, a1 + 1, a0), jA, ⟨U, O⟩, U, ⟨U, iD, hN0, (by exact hR)⟩, O⟩ ?_
 ·rintro ⟨k4, x1, x2⟩ ⟨hk1, iv1_0, ln3, hR⟩;replace hk1 : k4 = (a2 - x1).toNat := hk1;replace hR : xg a1 a3 k4 x1 x2 = some R := hR;replace iv1_0 : (a1 + 1) ≤ x1 := iv1_0;replace ln3 : List.length x2 = N0 := ln3;refine qb<|qb<|qa [.p, .p, .p]<|sm U U<|sm U U<|su (zd U U U) U<|qd ?_;refine ql _ U (fun h1 => ?_) (fun h1 => ?_)
  ·replace h1 : (decide (x1 < a2)) = true := h1;replace h1 := decT h1;obtain ⟨k4, rfl⟩ : ∃ m, k4 = m + 1 := ⟨k4 - 1, by omega⟩;rw [xg] at hR;(try dsimp only at hR);refine qn<|qb<|qp<|qb<|qa [.p, .p]<|sm U U<|sa U U<|qd<|qp<|zf (γ := Nat × Int × (List S1079)) (fun g => ([(0, .osl 0 7 0 (N0)), (1, .g (G.int a1)), (2, .g (G.int a2)), (3, .g (ca3)), (8, .g (G.int x1)), (9, .g (G.int g.2.1))], [(0, .arr 53 7 (List.map S1079.c g.2.2))])) (fun g => (g.2.1 - a1).toNat < g.1 ∧ a1 ≤ g.2.1 ∧ g.2.1 ≤ 1000000 ∧ List.length g.2.2 = N0 ∧ qay (fun z0_ z1_ => xg a1 a3 k4 z0_ z1_) a1 a3 x1 g.1 g.2.1 g.2.2 = some R) (fun g => g.1) ⟨U, (((x1 - a1).toNat) + 1, x1, x2), jA, ⟨U, O⟩, U, ⟨Nat.lt_succ_self _, iD, iD, ln3, (by exact hR)⟩, O⟩ ?_
   ·rintro ⟨k8, x5, x6⟩ ⟨hk2, iv2_0, iv2_1, ln7, hR⟩;replace hk2 : (x5 - a1).toNat < k8 := hk2;replace hR : qay (fun z0_ z1_ => xg a1 a3 k4 z0_ z1_) a1 a3 x1 k8 x5 x6 = some R := hR;replace iv2_0 : a1 ≤ x5 := iv2_0;replace iv2_1 : x5 ≤ 1000000 := iv2_1;replace ln7 : List.length x6 = N0 := ln7;obtain ⟨k8, rfl⟩ : ∃ m, k8 = m + 1 := ⟨k8 - 1, by omega⟩;rw [qay] at hR;(try dsimp only at hR);refine qb<|qb ?_;obtain ⟨y9, by9, hR⟩ := qh hR;obtain ⟨y10, by10, hR⟩ := qh hR;obtain ⟨r11, br11, hR⟩ := qh hR;refine zr [.p, .p, .p, .p, .p, .p, .p, .p, .r, .p, .p, .p, .p, .r, .p, .p, .p] (by kernel_rfl)<|sm U U<|sm U U<|su (zy U U U) U<|sm U U<|sg U U (fun h => qj U U) U<|sg U U (fun h => zg U U) U<|sg U U (fun h => qj U U) U<|sg U U (fun h => ku U Tryz.underlying48 z7 (gd h U) (gd h U) (jj (xm by9 h)) (Nat.lt_of_lt_of_eq (jt (zh (xm by9 h))) ln7)) U<|qff U U U (jf _ _) (fun h => xf (f := S1079.c) (l := x6) (a := y9) U z7 (gd h U) U (zh (xm by9 h))) U<|sg U U (fun h => zg U U) U<|sg U U (fun h => qj U U) U<|sg U U (fun h => kz U (gd h U) U iF) U<|sg U U (fun h => ku U Tryz.underlying48 z7 (gd h U) (gd h U) (jj (xm by10 h)) (Nat.lt_of_lt_of_eq (jt (zh (xm by10 h))) ln7)) U<|qff U U U (jf _ _) (fun h => xf (f := S1079.c) (l := x6) (a := y10) U z7 (gd h U) U (zh (xm by10 h))) U<|sg U U (fun h => xi U ha3 Ka3 (gd h U) (Con.lend (Ha3 y9 y10 _ (xm br11 h))) (qe (gd h U) (qe (gd h U) qk))) U<|sg U U (fun h => zd U (gd h U) U) U<|su (zt U U U U) U<|qd ?_;refine ql _ U (fun h3 => ?_) (fun h3 => ?_)
    ·replace h3 : ((decide (a1 < x5)) && (decide (r11 < 0))) = true := h3;replace hR := zk hR h3;(try simp only [bB] at h3);refine qn<|qb<|qp ?_;obtain ⟨y12, by12, hR⟩ := qh hR;obtain ⟨y13, by13, hR⟩ := qh hR;obtain ⟨y14, by14, hR⟩ := qh hR;obtain ⟨y15, by15, hR⟩ := qh hR;refine zr [.p, .p, .p, .p, .p, .p, .p, .p, .p, .r, .p, .p, .p, .r, .p, .w, .p, .w] (by kernel_rfl)<|su (zg U U) U<|sm U U<|su (zg U U) U<|sm U U<|su (kz U U U iF) U<|su (zg U U) U<|sm U U<|su (kz U U U iF) U<|su (ku U Tryz.underlying48 z7 U U (jj by12) (Nat.lt_of_lt_of_eq (jt (zh by12)) ln7)) U<|sr (xf (f := S1079.c) (l := x6) (a := y12) U z7 U U (zh by12)) U<|su (zg U U) U<|sm U U<|su (ku U Tryz.underlying48 z7 U U (jj by13) (Nat.lt_of_lt_of_eq (jt (zh by13)) ln7)) U<|sr (xf (f := S1079.c) (l := x6) (a := y13) U z7 U U (zh by13)) U<|su (ku U Tryz.underlying48 z7 U U (jj by14) (Nat.lt_of_lt_of_eq (jt (zh by14)) ln7)) U<|je U U (qaq (f := S1079.c) (l := x6) (a' := y12) U z7 U U U (Nat.lt_of_lt_of_eq (Nat.lt_of_lt_of_eq (jt (zh by14)) ln7) (Eq.symm ln7)) U (fun _ => U))<|su (ku U Tryz.underlying48 z7 U U (jj by15) (Nat.lt_of_lt_of_eq (jt (zh by15)) ((List.length_set ..).trans ln7))) U<|je U U (qaq (f := S1079.c) (l := List.set x6 (Int.toNat x5) y12) (a' := y13) U z7 U U U (Nat.lt_of_lt_of_eq (Nat.lt_of_lt_of_eq (jt (zh by15)) ((List.length_set ..).trans ln7)) (Eq.symm ((List.length_set ..).trans ln7))) U (fun _ => U))<|qd<|qa [.p, .p, .p]<|sm U U<|su (kz U U U iF) U<|sa U U<|qd ?_;exact ⟨U, (k8, x5 - 1, List.set (List.set x6 (Int.toNat x5) y12) (Int.toNat (x5 - 1)) y13), ⟨(by simp only [List.length_set]; rfl), U, U, U, U, U, O⟩, ⟨U, O⟩, U, ⟨iB, iB, iB, ((List.length_set ..).trans ((List.length_set ..).trans ln7)), hR⟩, by simp⟩
    ·replace h3 : ((decide (a1 < x5)) && (decide (r11 < 0))) = false := h3;replace hR := zl hR h3;(try simp only [bB] at h3);refine zw<|qa [.p, .p, .p]<|sm U U<|su (zn U U U iG) U<|sa U U<|qd ?_;exact ⟨U, (k4, x1 + 1, x6), jA, ⟨U, O⟩, U, ⟨iB, iB, ln7, hR⟩, by simp⟩
  ·replace h1 : (decide (x1 < a2)) = false := h1;replace h1 := decF h1
   obtain rfl : k4 = 0 := by omega
   rw [xg] at hR;refine zw ?_;obtain rfl := Option.some.inj hR;show ResOk _ _ _ _ ∧ MemL _ _;exact ⟨res0 U, ⟨U, O⟩⟩
def w5 (a1 : Int) (a2 : Int) : Nat → Int → (List S1079) → Option (List S1079)
 | 0, x1, x2 => some x2
 | k5 + 1, x1, x2 => zc (ixO x2 (a2 + x1)) fun y6 => zc (ixO x2 (a1 + x1)) fun y7 => zc (ixO x2 (a1 + x1)) fun y8 => zc (ixO (List.set x2 (Int.toNat (a1 + x1)) y6) (a2 + x1)) fun y9 => w5 a1 a2 k5 (x1 + 1) (List.set (List.set x2 (Int.toNat (a1 + x1)) y6) (Int.toNat (a2 + x1)) y7)
def qp7 (a0 : List S1079) (a1 : Int) (a2 : Int) (a3 : Int) (a4 : S1079 → S1079 → Option Int) : Option (List S1079) :=
 w5 a1 a2 ((a3 - 0).toNat) 0 a0
theorem q4x {g : GL} (a0 : List S1079) (a1 : Int) (a2 : Int) (a3 : Int) (a4 : S1079 → S1079 → Option Int) {R : List S1079} {N0 : Nat} (hN0 : List.length a0 = N0) {ca4 : G} {ia4 : FuncId} {ka4 : List G} (ha4 : FnIs ca4 ia4 ka4) (Ka4 : ze Tryz.prog ia4) (Ha4 : ∀ (x0 : S1079) (x1 : S1079) (r : Int), a4 x0 x1 = some r → Con (EG g) ia4 ([G.agg (S1079.c x0), G.agg (S1079.c x1)] ++ ka4) (G.int r)) (hA : 0 ≤ a1) (hA2 : a1 ≤ 60000) (hB : 0 ≤ a2) (hB2 : a2 ≤ 60000) (hN : a3 ≤ 60000) (hR : qp7 a0 a1 a2 a3 a4 = some R) : ConB (EG g) 198 [.osl 0 7 0 N0, .g (G.int a1), .g (G.int a2), .g (G.int a3), .g (ca4)] [(0, .arr 53 7 (List.map S1079.c a0))] (G.tup []) [(0, .arr 53 7 (List.map S1079.c R))] := by
 unfold qp7 at hR;refine qa9 Tryz.func198 U U U fun w0 M0 x => ?_;refine qfs (f := S1079.c) (l := a0) 0 U fun hla0 => ?_;refine qb<|qa [.p]<|sa U U<|qd<|qp<|zf (γ := Nat × Int × (List S1079)) (fun g => ([(0, .osl 0 7 0 (N0)), (1, .g (G.int a1)), (2, .g (G.int a2)), (3, .g (G.int a3)), (10, .g (G.int g.2.1))], [(0, .arr 53 7 (List.map S1079.c g.2.2))])) (fun g => g.1 = (a3 - g.2.1).toNat ∧ 0 ≤ g.2.1 ∧ List.length g.2.2 = N0 ∧ w5 a1 a2 g.1 g.2.1 g.2.2 = some R) (fun g => g.1) ⟨U, ((a3 - 0).toNat, 0, a0), jA, ⟨U, O⟩, U, ⟨U, iD, hN0, (by exact hR)⟩, O⟩ ?_
 ·rintro ⟨k5, x1, x2⟩ ⟨hk1, iv1_0, ln3, hR⟩;replace hk1 : k5 = (a3 - x1).toNat := hk1;replace hR : w5 a1 a2 k5 x1 x2 = some R := hR;replace iv1_0 : 0 ≤ x1 := iv1_0;replace ln3 : List.length x2 = N0 := ln3;refine qb<|qb<|qa [.p, .p, .p]<|sm U U<|sm U U<|su (zd U U U) U<|qd ?_;refine ql _ U (fun h1 => ?_) (fun h1 => ?_)
  ·replace h1 : (decide (x1 < a3)) = true := h1;replace h1 := decT h1;obtain ⟨k5, rfl⟩ : ∃ m, k5 = m + 1 := ⟨k5 - 1, by omega⟩;rw [w5] at hR;(try dsimp only at hR);refine qn<|qb<|qp ?_;obtain ⟨y6, by6, hR⟩ := qh hR;obtain ⟨y7, by7, hR⟩ := qh hR;obtain ⟨y8, by8, hR⟩ := qh hR;obtain ⟨y9, by9, hR⟩ := qh hR;refine zr [.p, .p, .p, .p, .p, .p, .p, .p, .p, .p, .p, .p, .p, .r, .p, .p, .p, .p, .p, .r, .p, .w, .p, .w] (by kernel_rfl)<|su (zg U U) U<|sm U U<|sm U U<|su (zn U U U iF) U<|su (zg U U) U<|sm U U<|sm U U<|su (zn U U U iF) U<|su (zg U U) U<|sm U U<|sm U U<|su (zn U U U iF) U<|su (ku U Tryz.underlying48 z7 U U (jj by6) (Nat.lt_of_lt_of_eq (jt (zh by6)) ln3)) U<|sr (xf (f := S1079.c) (l := x2) (a := y6) U z7 U U (zh by6)) U<|su (zg U U) U<|sm U U<|sm U U<|su (zn U U U iF) U<|su (ku U Tryz.underlying48 z7 U U (jj by7) (Nat.lt_of_lt_of_eq (jt (zh by7)) ln3)) U<|sr (xf (f := S1079.c) (l := x2) (a := y7) U z7 U U (zh by7)) U<|su (ku U Tryz.underlying48 z7 U U (jj by8) (Nat.lt_of_lt_of_eq (jt (zh by8)) ln3)) U<|je U U (qaq (f := S1079.c) (l := x2) (a' := y6) U z7 U U U (Nat.lt_of_lt_of_eq (Nat.lt_of_lt_of_eq (jt (zh by8)) ln3) (Eq.symm ln3)) U (fun _ => U))<|su (ku U Tryz.underlying48 z7 U U (jj by9) (Nat.lt_of_lt_of_eq (jt (zh by9)) ((List.length_set ..).trans ln3))) U<|je U U (qaq (f := S1079.c) (l := List.set x2 (Int.toNat (a1 + x1)) y6) (a' := y7) U z7 U U U (Nat.lt_of_lt_of_eq (Nat.lt_of_lt_of_eq (jt (zh by9)) ((List.length_set ..).trans ln3)) (Eq.symm ((List.length_set ..).trans ln3))) U (fun _ => U))<|qd<|qa [.p, .p, .p]<|sm U U<|su (zn U U U iF) U<|sa U U<|qd ?_;exact ⟨U, (k5, x1 + 1, List.set (List.set x2 (Int.toNat (a1 + x1)) y6) (Int.toNat (a2 + x1)) y7), ⟨(by simp only [List.length_set]; rfl), U, U, U, U, O⟩, ⟨U, O⟩, U, ⟨iB, iB, ((List.length_set ..).trans ((List.length_set ..).trans ln3)), hR⟩, by simp⟩
  ·replace h1 : (decide (x1 < a3)) = false := h1;replace h1 := decF h1
   obtain rfl : k5 = 0 := by omega
   rw [w5] at hR;refine zw ?_;obtain rfl := Option.some.inj hR;show ResOk _ _ _ _ ∧ MemL _ _;exact ⟨res0 U, ⟨U, O⟩⟩
theorem qmi (rec1 : Int → List S1079 → Option (List S1079)) (hrec : ∀ x l r, rec1 x l = some r → r.length = l.length) (a1 : Int) (a3 : S1079 → S1079 → Option Int) (x1 : Int) : ∀ (k : Nat) (x : Int) (l r : List S1079), qay rec1 a1 a3 x1 k x l = some r → r.length = l.length
 | 0, _, _, _, h => by rw [qay] at h; cases h
 | k + 1, x, l, r, h => by
  rw [qay] at h;obtain ⟨y1, _, h⟩ := qh h;obtain ⟨y2, _, h⟩ := qh h;obtain ⟨y3, _, h⟩ := qh h
  cases hc : (decide (a1 < x) && decide (y3 < 0)) with
  | true =>
   have h := zk h hc;obtain ⟨y4, _, h⟩ := qh h;obtain ⟨y5, _, h⟩ := qh h;obtain ⟨y6, _, h⟩ := qh h;obtain ⟨y7, _, h⟩ := qh h;have := qmi rec1 hrec a1 a3 x1 k _ _ _ h
   simpa using this
  | false => exact hrec _ _ _ (zl h hc)
theorem qmj (a1 : Int) (a3 : S1079 → S1079 → Option Int) : ∀ (k : Nat) (x : Int) (l r : List S1079), xg a1 a3 k x l = some r → r.length = l.length
 | 0, _, _, _, h => by rw [xg] at h; cases h; rfl
 | k + 1, x, l, r, h => by
  rw [xg] at h;exact qmi _ (fun x l r h => qmj a1 a3 k x l r h) a1 a3 x _ _ _ _ h
theorem qoo {a0 : List S1079} {a1 a2 : Int} {a3 : S1079 → S1079 → Option Int} {R : List S1079} (h : qp6 a0 a1 a2 a3 = some R) : R.length = a0.length := qmj _ _ _ _ _ _ h
theorem qmk (a1 a2 : Int) : ∀ (k : Nat) (x : Int) (l r : List S1079), w5 a1 a2 k x l = some r → r.length = l.length
 | 0, _, _, _, h => by rw [w5] at h; cases h; rfl
 | k + 1, x, l, r, h => by
  rw [w5] at h;obtain ⟨y1, _, h⟩ := qh h;obtain ⟨y2, _, h⟩ := qh h;obtain ⟨y3, _, h⟩ := qh h;obtain ⟨y4, _, h⟩ := qh h;have := qmk a1 a2 k _ _ _ h
  simpa using this
theorem qk6 {a0 : List S1079} {a1 a2 a3 : Int} {a4 : S1079 → S1079 → Option Int} {R : List S1079} (h : qp7 a0 a1 a2 a3 a4 = some R) : R.length = a0.length := qmk _ _ _ _ _ _ h
def qaz (a2 : Int) (a4 : S1079 → S1079 → Option Int) : Nat → Int → Int → (List S1079) → Option (List S1079)
 | 0, _, _, _ => none
 | k5 + 1, x1, x2, x3 => (bif decide (x1 ≠ x2) then (bif decide (x2 < x1) then zc (qp7 x3 (a2 - x1) a2 x2 a4) fun r6 => qaz a2 a4 k5 (x1 - x2) x2 r6 else zc (qp7 x3 (a2 - x1) ((a2 + x2) - x1) x1 a4) fun r7 => qaz a2 a4 k5 x1 (x2 - x1) r7) else zc (qp7 x3 (a2 - x1) a2 x1 a4) fun r8 => some r8)
def qp8 (a0 : List S1079) (a1 : Int) (a2 : Int) (a3 : Int) (a4 : S1079 → S1079 → Option Int) : Option (List S1079) :=
 qaz a2 a4 ((((a2 - a1) + (a3 - a2)).toNat) + 1) (a2 - a1) (a3 - a2) a0
theorem zcc {g : GL} (a0 : List S1079) (a1 : Int) (a2 : Int) (a3 : Int) (a4 : S1079 → S1079 → Option Int) {R : List S1079} {N0 : Nat} (hN0 : List.length a0 = N0) {ca4 : G} {ia4 : FuncId} {ka4 : List G} (ha4 : FnIs ca4 ia4 ka4) (Ka4 : ze Tryz.prog ia4) (Ha4 : ∀ (x0 : S1079) (x1 : S1079) (r : Int), a4 x0 x1 = some r → Con (EG g) ia4 ([G.agg (S1079.c x0), G.agg (S1079.c x1)] ++ ka4) (G.int r)) (hA : 0 ≤ a1) (hM : a1 < a2) (hN : a2 < a3) (hB : a3 ≤ 30000) (hR : qp8 a0 a1 a2 a3 a4 = some R) : ConB (EG g) 197 [.osl 0 7 0 N0, .g (G.int a1), .g (G.int a2), .g (G.int a3), .g (ca4)] [(0, .arr 53 7 (List.map S1079.c a0))] (G.tup []) [(0, .arr 53 7 (List.map S1079.c R))] := by
 unfold qp8 at hR;refine qa9 Tryz.func197 U U U fun w0 M0 x => ?_;refine qfs (f := S1079.c) (l := a0) 0 U fun hla0 => ?_;refine qb<|qa [.p, .p, .p, .p]<|sm U U<|sm U U<|su (kz U U U iF) U<|sa U U<|qd<|qb<|qa [.p, .p, .p, .p]<|sm U U<|sm U U<|su (kz U U U iF) U<|sa U U<|qd<|qb<|qp<|zf (γ := Nat × Int × Int × (List S1079)) (fun g => ([(0, .osl 0 7 0 (N0)), (2, .g (G.int a2)), (4, .g (ca4)), (10, .g (G.int g.2.1)), (11, .g (G.int g.2.2.1))], [(0, .arr 53 7 (List.map S1079.c g.2.2.2))])) (fun g => (g.2.1 + g.2.2.1).toNat < g.1 ∧ 0 < g.2.1 ∧ 0 < g.2.2.1 ∧ g.2.1 ≤ a2 ∧ g.2.2.1 ≤ 30000 ∧ List.length g.2.2.2 = N0 ∧ qaz a2 a4 g.1 g.2.1 g.2.2.1 g.2.2.2 = some R) (fun g => g.1) ⟨U, ((((a2 - a1) + (a3 - a2)).toNat) + 1, a2 - a1, a3 - a2, a0), jA, ⟨U, O⟩, U, ⟨Nat.lt_succ_self _, iD, iD, iD, iD, hN0, (by exact hR)⟩, O⟩ ?_
 ·rintro ⟨k5, x1, x2, x3⟩ ⟨hk1, iv1_0, iv1_1, iv1_2, iv1_3, ln4, hR⟩;replace hk1 : (x1 + x2).toNat < k5 := hk1;replace hR : qaz a2 a4 k5 x1 x2 x3 = some R := hR;replace iv1_0 : 0 < x1 := iv1_0;replace iv1_1 : 0 < x2 := iv1_1;replace iv1_2 : x1 ≤ a2 := iv1_2;replace iv1_3 : x2 ≤ 30000 := iv1_3;replace ln4 : List.length x3 = N0 := ln4;obtain ⟨k5, rfl⟩ : ∃ m, k5 = m + 1 := ⟨k5 - 1, by omega⟩;rw [qaz] at hR;(try dsimp only at hR);refine qb<|qb<|qa [.p, .p, .p]<|sm U U<|sm U U<|su (zx U U U) U<|qd ?_;refine ql _ U (fun h1 => ?_) (fun h1 => ?_)
  ·replace h1 : (decide (x1 ≠ x2)) = true := h1;replace hR := zk hR h1;(try simp only [bB] at h1);refine qn<|qp<|qb<|qa [.p, .p, .p]<|sm U U<|sm U U<|su (zy U U U) U<|qd ?_;refine ql _ U (fun h2 => ?_) (fun h2 => ?_)
   ·replace h2 : (decide (x2 < x1)) = true := h2;replace hR := zk hR h2;(try simp only [bB] at h2);refine qb ?_;obtain ⟨r6, br6, hR⟩ := qh hR;refine qa [.p, .p, .p, .p, .p, .p, .p, .w]<|su (zg rfl rfl) rfl<|sm rfl rfl<|sm rfl rfl<|su (kz rfl rfl rfl iF) rfl<|sm rfl rfl<|sm rfl rfl<|sm rfl rfl<|sw (vw 0 0 rfl q2t rfl (ConB.lend (q4x x3 (a2 - x1) a2 x2 a4 ln4 ha4 Ka4 Ha4 (by first | assumption | omega | (simp [qi]; done) | (simp [qi]; omega)) (by first | assumption | omega | (simp [qi]; done) | (simp [qi]; omega)) (by first | assumption | omega | (simp [qi]; done) | (simp [qi]; omega)) (by first | assumption | omega | (simp [qi]; done) | (simp [qi]; omega)) (by first | assumption | omega | (simp [qi]; done) | (simp [qi]; omega)) br6)) (z6 rfl rfl (z6 rfl rfl (z6 rfl rfl (z6 rfl rfl (z6 rfl rfl qdn))))) rfl rfl rfl) rfl<|qd<|qa [.p, .p, .p, .p]<|sm rfl rfl<|sm rfl rfl<|su (kz rfl rfl rfl iF) rfl<|sa rfl rfl<|qd ?_;exact ⟨U, (k5, x1 - x2, x2, r6), jA, ⟨U, O⟩, U, ⟨iB, iB, iB, iB, iB, ((qk6 br6).trans ln4), hR⟩, by simp⟩
   ·replace h2 : (decide (x2 < x1)) = false := h2;replace hR := zl hR h2;(try simp only [bB] at h2);refine qb ?_;obtain ⟨r7, br7, hR⟩ := qh hR;refine qa [.p, .p, .p, .p, .p, .p, .p, .p, .p, .p, .p, .w]<|su (zg rfl rfl) rfl<|sm rfl rfl<|sm rfl rfl<|su (kz rfl rfl rfl iF) rfl<|sm rfl rfl<|sm rfl rfl<|su (zn rfl rfl rfl iF) rfl<|sm rfl rfl<|su (kz rfl rfl rfl iF) rfl<|sm rfl rfl<|sm rfl rfl<|sw (vw 0 0 rfl q2t rfl (ConB.lend (q4x x3 (a2 - x1) ((a2 + x2) - x1) x1 a4 ln4 ha4 Ka4 Ha4 (by first | assumption | omega | (simp [qi]; done) | (simp [qi]; omega)) (by first | assumption | omega | (simp [qi]; done) | (simp [qi]; omega)) (by first | assumption | omega | (simp [qi]; done) | (simp [qi]; omega)) (by first | assumption | omega | (simp [qi]; done) | (simp [qi]; omega)) (by first | assumption | omega | (simp [qi]; done) | (simp [qi]; omega)) br7)) (z6 rfl rfl (z6 rfl rfl (z6 rfl rfl (z6 rfl rfl (z6 rfl rfl qdn))))) rfl rfl rfl) rfl<|qd<|qa [.p, .p, .p, .p]<|sm rfl rfl<|sm rfl rfl<|su (kz rfl rfl rfl iF) rfl<|sa rfl rfl<|qd ?_;exact ⟨U, (k5, x1, x2 - x1, r7), jA, ⟨U, O⟩, U, ⟨iB, iB, iB, iB, iB, ((qk6 br7).trans ln4), hR⟩, by simp⟩
  ·replace h1 : (decide (x1 ≠ x2)) = false := h1;replace hR := zl hR h1;(try simp only [bB] at h1);refine zw ?_;obtain ⟨r8, br8, hR⟩ := qh hR;refine qa [.p, .p, .p, .p, .p, .p, .p, .w]<|su (zg rfl rfl) rfl<|sm rfl rfl<|sm rfl rfl<|su (kz rfl rfl rfl iF) rfl<|sm rfl rfl<|sm rfl rfl<|sm rfl rfl<|sw (vw 0 0 rfl q2t rfl (ConB.lend (q4x x3 (a2 - x1) a2 x1 a4 ln4 ha4 Ka4 Ha4 (by first | assumption | omega | (simp [qi]; done) | (simp [qi]; omega)) (by first | assumption | omega | (simp [qi]; done) | (simp [qi]; omega)) (by first | assumption | omega | (simp [qi]; done) | (simp [qi]; omega)) (by first | assumption | omega | (simp [qi]; done) | (simp [qi]; omega)) (by first | assumption | omega | (simp [qi]; done) | (simp [qi]; omega)) br8)) (z6 rfl rfl (z6 rfl rfl (z6 rfl rfl (z6 rfl rfl (z6 rfl rfl qdn))))) rfl rfl rfl) rfl<|qd ?_;obtain rfl := Option.some.inj hR;show ResOk _ _ _ _ ∧ MemL _ _;exact ⟨res0 U, ⟨U, O⟩⟩
theorem qh5 (a2 : Int) (a4 : S1079 → S1079 → Option Int) : ∀ (k : Nat) (x1 x2 : Int) (l r : List S1079), qaz a2 a4 k x1 x2 l = some r → r.length = l.length
 | 0, _, _, _, _, h => by rw [qaz] at h; cases h
 | k + 1, x1, x2, l, r, h => by
  rw [qaz] at h
  cases hc : decide (x1 ≠ x2) with
  | true =>
   have h := zk h hc
   cases hd : decide (x2 < x1) with
   | true =>
    obtain ⟨y1, h1, h⟩ := qh (zk h hd);exact (qh5 a2 a4 k _ _ _ _ h).trans (qk6 h1)
   | false =>
    obtain ⟨y1, h1, h⟩ := qh (zl h hd);exact (qh5 a2 a4 k _ _ _ _ h).trans (qk6 h1)
  | false =>
   obtain ⟨y1, h1, h⟩ := qh (zl h hc)
   cases h
   exact qk6 h1
theorem qxd {a0 : List S1079} {a1 a2 a3 : Int} {a4 : S1079 → S1079 → Option Int} {R : List S1079} (h : qp8 a0 a1 a2 a3 a4 = some R) : R.length = a0.length := qh5 _ _ _ _ _ _ _ h
def w6 (x1 : Int) : Nat → Int → (List S1079) → Option (List S1079)
 | 0, _, _ => none
 | k10 + 1, x7, x8 => (bif decide (x7 < x1 - 1) then zc (ixO x8 (x7 + 1)) fun y11 => zc (ixO x8 x7) fun y12 => zc (ixO x8 x7) fun y13 => zc (ixO (List.set x8 (Int.toNat x7) y11) (x7 + 1)) fun y14 => w6 x1 k10 (x7 + 1) (List.set (List.set x8 (Int.toNat x7) y11) (Int.toNat (x7 + 1)) y12) else some x8)
def wh (a0 : List S1079) (a1 : Int) (a4 : S1079 → S1079 → Option Int) : Nat → Int → Int → Option (List S1079)
 | 0, _, _ => none
 | k3 + 1, x1, x2 => (bif decide (x1 < x2) then zc (ixO a0 ((x1 + x2) / 2)) fun y4 => zc (ixO a0 a1) fun y5 => zc (a4 y4 y5) fun r6 => (bif decide (r6 < 0) then wh a0 a1 a4 k3 (((x1 + x2) / 2) + 1) x2 else wh a0 a1 a4 k3 x1 ((x1 + x2) / 2)) else w6 x1 (((x1 - a1).toNat) + 1) a1 a0)
def w7 (x15 : Int) : Nat → Int → (List S1079) → Option (List S1079)
 | 0, _, _ => none
 | k24 + 1, x21, x22 => (bif decide (x15 < x21) then zc (ixO x22 (x21 - 1)) fun y25 => zc (ixO x22 x21) fun y26 => zc (ixO x22 x21) fun y27 => zc (ixO (List.set x22 (Int.toNat x21) y25) (x21 - 1)) fun y28 => w7 x15 k24 (x21 - 1) (List.set (List.set x22 (Int.toNat x21) y25) (Int.toNat (x21 - 1)) y26) else some x22)
def wi (a0 : List S1079) (a2 : Int) (a4 : S1079 → S1079 → Option Int) : Nat → Int → Int → Option (List S1079)
 | 0, _, _ => none
 | k17 + 1, x15, x16 => (bif decide (x15 < x16) then zc (ixO a0 a2) fun y18 => zc (ixO a0 ((x15 + x16) / 2)) fun y19 => zc (a4 y18 y19) fun r20 => (bif !(decide (r20 < 0)) then wi a0 a2 a4 k17 (((x15 + x16) / 2) + 1) x16 else wi a0 a2 a4 k17 x15 ((x15 + x16) / 2)) else w7 x15 (((a2 - x15).toNat) + 1) a2 a0)
def qbj (self : (List S1079) → Int → Int → Int → (S1079 → S1079 → Option Int) → Option (List S1079)) (a1 : Int) (a2 : Int) (a3 : Int) (a4 : S1079 → S1079 → Option Int) (x31 : Int) (x39 : List S1079) : Option (List S1079) :=
 (bif (decide ((a1 + a3) / 2 < (((a1 + a3) / 2) + a2) - x31)) && (decide ((((a1 + a3) / 2) + a2) - x31 < a3)) then zc (self x39 ((a1 + a3) / 2) ((((a1 + a3) / 2) + a2) - x31) a3 a4) fun r41 => some r41 else some x39)
def xx (self : (List S1079) → Int → Int → Int → (S1079 → S1079 → Option Int) → Option (List S1079)) (a1 : Int) (a2 : Int) (a3 : Int) (a4 : S1079 → S1079 → Option Int) (x31 : Int) (x37 : List S1079) : Option (List S1079) :=
 (bif (decide (a1 < x31)) && (decide (x31 < (a1 + a3) / 2)) then zc (self x37 a1 x31 ((a1 + a3) / 2) a4) fun r42 => qbj self a1 a2 a3 a4 x31 r42 else qbj self a1 a2 a3 a4 x31 x37)
def wj (self : (List S1079) → Int → Int → Int → (S1079 → S1079 → Option Int) → Option (List S1079)) (a0 : List S1079) (a1 : Int) (a2 : Int) (a3 : Int) (a4 : S1079 → S1079 → Option Int) : Nat → Int → Int → Option (List S1079)
 | 0, _, _ => none
 | k33 + 1, x31, x32 => (bif decide (x31 < x32) then zc (ixO a0 (((((a1 + a3) / 2) + a2) - 1) - ((x31 + x32) / 2))) fun y34 => zc (ixO a0 ((x31 + x32) / 2)) fun y35 => zc (a4 y34 y35) fun r36 => (bif !(decide (r36 < 0)) then wj self a0 a1 a2 a3 a4 k33 (((x31 + x32) / 2) + 1) x32 else wj self a0 a1 a2 a3 a4 k33 x31 ((x31 + x32) / 2)) else (bif (decide (x31 < a2)) && (decide (a2 < (((a1 + a3) / 2) + a2) - x31)) then zc (qp8 a0 x31 a2 ((((a1 + a3) / 2) + a2) - x31) a4) fun r43 => xx self a1 a2 a3 a4 x31 r43 else xx self a1 a2 a3 a4 x31 a0))
def qdz (self : (List S1079) → Int → Int → Int → (S1079 → S1079 → Option Int) → Option (List S1079)) (a0 : List S1079) (a1 : Int) (a2 : Int) (a3 : Int) (a4 : S1079 → S1079 → Option Int) (x29 : Int) (x30 : Int) : Option (List S1079) :=
 wj self a0 a1 a2 a3 a4 (((x30 - x29).toNat) + 1) x29 x30
def qba : Nat → (List S1079) → Int → Int → Int → (S1079 → S1079 → Option Int) → Option (List S1079)
 | 0, _, _, _, _, _ => none
 | kf_ + 1, a0, a1, a2, a3, a4 => (bif decide (a2 - a1 = 1) then wh a0 a1 a4 (((a3 - a2).toNat) + 1) a2 a3 else (bif decide (a3 - a2 = 1) then wi a0 a2 a4 (((a2 - a1).toNat) + 1) a1 a2 else (bif decide ((a1 + a3) / 2 < a2) then qdz (fun z0_ z1_ z2_ z3_ z4_ => qba kf_ z0_ z1_ z2_ z3_ z4_) a0 a1 a2 a3 a4 ((((a1 + a3) / 2) + a2) - a3) ((a1 + a3) / 2) else qdz (fun z0_ z1_ z2_ z3_ z4_ => qba kf_ z0_ z1_ z2_ z3_ z4_) a0 a1 a2 a3 a4 a1 a2)))
theorem qml (x1 : Int) : ∀ (k : Nat) (x : Int) (l r : List S1079), w6 x1 k x l = some r → r.length = l.length
 | 0, _, _, _, h => by rw [w6] at h; cases h
 | k + 1, x, l, r, h => by
  rw [w6] at h
  cases hc : decide (x < x1 - 1) with
  | true =>
   have h := zk h hc;obtain ⟨y1, _, h⟩ := qh h;obtain ⟨y2, _, h⟩ := qh h;obtain ⟨y3, _, h⟩ := qh h;obtain ⟨y4, _, h⟩ := qh h;have := qml x1 k _ _ _ h
   simpa using this
  | false => have h := zl h hc; cases h; rfl
theorem qh6 (a0 : List S1079) (a1 : Int) (a4 : S1079 → S1079 → Option Int) : ∀ (k : Nat) (x y : Int) (r : List S1079), wh a0 a1 a4 k x y = some r → r.length = a0.length
 | 0, _, _, _, h => by rw [wh] at h; cases h
 | k + 1, x, y, r, h => by
  rw [wh] at h
  cases hc : decide (x < y) with
  | true =>
   have h := zk h hc;obtain ⟨y1, _, h⟩ := qh h;obtain ⟨y2, _, h⟩ := qh h;obtain ⟨y3, _, h⟩ := qh h
   cases hd : (decide (y3 < 0)) with
   | true => exact qh6 a0 a1 a4 k _ _ _ (zk h hd)
   | false => exact qh6 a0 a1 a4 k _ _ _ (zl h hd)
  | false => exact qml _ _ _ _ _ (zl h hc)
theorem qmm (x1 : Int) : ∀ (k : Nat) (x : Int) (l r : List S1079), w7 x1 k x l = some r → r.length = l.length
 | 0, _, _, _, h => by rw [w7] at h; cases h
 | k + 1, x, l, r, h => by
  rw [w7] at h
  cases hc : decide (x1 < x) with
  | true =>
   have h := zk h hc;obtain ⟨y1, _, h⟩ := qh h;obtain ⟨y2, _, h⟩ := qh h;obtain ⟨y3, _, h⟩ := qh h;obtain ⟨y4, _, h⟩ := qh h;have := qmm x1 k _ _ _ h
   simpa using this
  | false => have h := zl h hc; cases h; rfl
theorem qh7 (a0 : List S1079) (a2 : Int) (a4 : S1079 → S1079 → Option Int) : ∀ (k : Nat) (x y : Int) (r : List S1079), wi a0 a2 a4 k x y = some r → r.length = a0.length
 | 0, _, _, _, h => by rw [wi] at h; cases h
 | k + 1, x, y, r, h => by
  rw [wi] at h
  cases hc : decide (x < y) with
  | true =>
   have h := zk h hc;obtain ⟨y1, _, h⟩ := qh h;obtain ⟨y2, _, h⟩ := qh h;obtain ⟨y3, _, h⟩ := qh h
   cases hd : !(decide (y3 < 0)) with
   | true => exact qh7 a0 a2 a4 k _ _ _ (zk h hd)
   | false => exact qh7 a0 a2 a4 k _ _ _ (zl h hd)
  | false => exact qmm _ _ _ _ _ (zl h hc)
section
variable {self : (List S1079) → Int → Int → Int → (S1079 → S1079 → Option Int) → Option (List S1079)} (hself : ∀ l a b c f r, self l a b c f = some r → r.length = l.length)
include hself
theorem qmn (a1 a2 a3 : Int) (a4 : S1079 → S1079 → Option Int) (x : Int) (l r : List S1079) (h : qbj self a1 a2 a3 a4 x l = some r) : r.length = l.length := by
 unfold qbj at h;generalize hc : ((decide ((a1 + a3) / 2 < (((a1 + a3) / 2) + a2) - x)) && (decide ((((a1 + a3) / 2) + a2) - x < a3))) = c at h
 cases c with
 | true => obtain ⟨y1, h1, h⟩ := qh (zk h rfl); cases h; exact hself _ _ _ _ _ _ h1
 | false => have h := zl h rfl; cases h; rfl
theorem qmo (a1 a2 a3 : Int) (a4 : S1079 → S1079 → Option Int) (x : Int) (l r : List S1079) (h : xx self a1 a2 a3 a4 x l = some r) : r.length = l.length := by
 unfold xx at h;generalize hc : ((decide (a1 < x)) && (decide (x < (a1 + a3) / 2))) = c at h
 cases c with
 | true => obtain ⟨y1, h1, h⟩ := qh (zk h rfl); exact (qmn hself _ _ _ _ _ _ _ h).trans (hself _ _ _ _ _ _ h1)
 | false => exact qmn hself _ _ _ _ _ _ _ (zl h rfl)
theorem qe8 (a0 : List S1079) (a1 a2 a3 : Int) (a4 : S1079 → S1079 → Option Int) : ∀ (k : Nat) (x y : Int) (r : List S1079), wj self a0 a1 a2 a3 a4 k x y = some r → r.length = a0.length
 | 0, _, _, _, h => by rw [wj] at h; cases h
 | k + 1, x, y, r, h => by
  rw [wj] at h
  cases hc : decide (x < y) with
  | true =>
   have h := zk h hc;obtain ⟨y1, _, h⟩ := qh h;obtain ⟨y2, _, h⟩ := qh h;obtain ⟨y3, _, h⟩ := qh h
   cases hd : !(decide (y3 < 0)) with
   | true => exact qe8 a0 a1 a2 a3 a4 k _ _ _ (zk h hd)
   | false => exact qe8 a0 a1 a2 a3 a4 k _ _ _ (zl h hd)
  | false =>
   have h := zl h hc;generalize hd : ((decide (x < a2)) && (decide (a2 < (((a1 + a3) / 2) + a2) - x))) = d at h
   cases d with
   | true => obtain ⟨y1, h1, h⟩ := qh (zk h rfl); exact (qmo hself _ _ _ _ _ _ _ h).trans (qxd h1)
   | false => exact qmo hself _ _ _ _ _ _ _ (zl h rfl)
end
theorem qk7 : ∀ (k : Nat) (a0 : List S1079) (a1 a2 a3 : Int) (a4 : S1079 → S1079 → Option Int) (R : List S1079), qba k a0 a1 a2 a3 a4 = some R → R.length = a0.length
 | 0, _, _, _, _, _, _, h => by rw [qba] at h; cases h
 | k + 1, a0, a1, a2, a3, a4, R, h => by
  rw [qba] at h
  cases hc : decide (a2 - a1 = 1) with
  | true => exact qh6 _ _ _ _ _ _ _ (zk h hc)
  | false =>
   have h := zl h hc
   cases hd : decide (a3 - a2 = 1) with
   | true => exact qh7 _ _ _ _ _ _ _ (zk h hd)
   | false =>
    have h := zl h hd
    cases he : decide ((a1 + a3) / 2 < a2) with
    | true => exact qe8 (fun l a b c f r h => qk7 k l a b c f r h) _ _ _ _ _ _ _ _ _ (zk h he)
    | false => exact qe8 (fun l a b c f r h => qk7 k l a b c f r h) _ _ _ _ _ _ _ _ _ (zl h he)
theorem qk8 {k : Nat} {a0 : List S1079} {a1 a2 a3 : Int} {a4 : S1079 → S1079 → Option Int} {R : List S1079} (h : qba k a0 a1 a2 a3 a4 = some R) : R.length = a0.length := qk7 _ _ _ _ _ _ _ h
theorem q7r {g : GL} (kf_ : Nat) : ∀ (a0 : List S1079) (a1 : Int) (a2 : Int) (a3 : Int) (a4 : S1079 → S1079 → Option Int) {R : List S1079} {N0 : Nat} (hN0 : List.length a0 = N0) {ca4 : G} {ia4 : FuncId} {ka4 : List G} (ha4 : FnIs ca4 ia4 ka4) (Ka4 : ze Tryz.prog ia4) (Ha4 : ∀ (x0 : S1079) (x1 : S1079) (r : Int), a4 x0 x1 = some r → Con (EG g) ia4 ([G.agg (S1079.c x0), G.agg (S1079.c x1)] ++ ka4) (G.int r)) (hA : 0 ≤ a1) (hM : a1 < a2) (hN : a2 < a3) (hB : a3 ≤ 30000) (hR : qba kf_ a0 a1 a2 a3 a4 = some R), ConB (EG g) 196 [.osl 0 7 0 N0, .g (G.int a1), .g (G.int a2), .g (G.int a3), .g (ca4)] [(0, .arr 53 7 (List.map S1079.c a0))] (G.tup []) [(0, .arr 53 7 (List.map S1079.c R))] := by
 induction kf_ with
 | zero => intro a0 a1 a2 a3 a4 R N0 hN0 ca4 ia4 ka4 ha4 Ka4 Ha4 hA hM hN hB hR; rw [qba] at hR; cases hR
 | succ kf_ ih =>
 intro a0 a1 a2 a3 a4 R N0 hN0 ca4 ia4 ka4 ha4 Ka4 Ha4 hA hM hN hB hR;rw [qba] at hR;(try dsimp only at hR);refine qa9 Tryz.func196 U U U fun w0 M0 x => ?_;refine qfs (f := S1079.c) (l := a0) 0 U fun hla0 => ?_;refine qb<|qb<|qa [.p, .p, .p, .p]<|sm U U<|sm U U<|su (kz U U U iF) U<|su (jn U U U) U<|qd ?_;refine ql _ U (fun h1 => ?_) (fun h1 => ?_)
 ·replace h1 : (decide (a2 - a1 = 1)) = true := h1;replace hR := zk hR h1;(try simp only [bB] at h1);refine qb<|qa [.p, .p]<|sm U U<|sa U U<|qd<|qb<|qa [.p, .p]<|sm U U<|sa U U<|qd<|qb<|qp<|zf (γ := Nat × Int × Int) (fun g => ([(0, .osl 0 7 0 (N0)), (1, .g (G.int a1)), (4, .g (ca4)), (10, .g (G.int g.2.1)), (11, .g (G.int g.2.2))], [(0, .arr 53 7 (List.map S1079.c a0))])) (fun g => (g.2.2 - g.2.1).toNat < g.1 ∧ 0 ≤ g.2.1 ∧ g.2.1 ≤ g.2.2 ∧ g.2.2 ≤ 30000 ∧ wh a0 a1 a4 g.1 g.2.1 g.2.2 = some R) (fun g => g.1) ⟨U, (((a3 - a2).toNat) + 1, a2, a3), jA, ⟨U, O⟩, U, ⟨Nat.lt_succ_self _, iD, iD, iD, (by exact hR)⟩, O⟩ ?_
  ·rintro ⟨k3, x1, x2⟩ ⟨hk1, iv1_0, iv1_1, iv1_2, hR⟩;replace hk1 : (x2 - x1).toNat < k3 := hk1;replace hR : wh a0 a1 a4 k3 x1 x2 = some R := hR;replace iv1_0 : 0 ≤ x1 := iv1_0;replace iv1_1 : x1 ≤ x2 := iv1_1;replace iv1_2 : x2 ≤ 30000 := iv1_2;obtain ⟨k3, rfl⟩ : ∃ m, k3 = m + 1 := ⟨k3 - 1, by omega⟩;rw [wh] at hR;(try dsimp only at hR);refine qb<|qb<|qa [.p, .p, .p]<|sm U U<|sm U U<|su (zd U U U) U<|qd ?_;refine ql _ U (fun h2 => ?_) (fun h2 => ?_)
   ·replace h2 : (decide (x1 < x2)) = true := h2;replace hR := zk hR h2;(try simp only [bB] at h2);refine qn<|qp<|qb<|qa [.p, .p, .p, .p, .p, .p, .p]<|sm U U<|sm U U<|su (zn U U U iF) U<|su (qej U Tryz.underlying3 Tryz.underlying233 U (by (try dsimp only); omega) (by (try dsimp only); omega)) U<|su (qg2 U U U (by (try dsimp only); omega)) U<|su (qek U Tryz.underlying233 Tryz.underlying3 U iF) U<|sa U U<|qd<|qb ?_;obtain ⟨y4, by4, hR⟩ := qh hR;obtain ⟨y5, by5, hR⟩ := qh hR;obtain ⟨r6, br6, hR⟩ := qh hR;refine zr [.p, .p, .p, .p, .r, .p, .p, .p, .r, .p, .p] (by kernel_rfl)<|sm U U<|su (zg U U) U<|sm U U<|su (ku U Tryz.underlying48 z7 U U (jj by4) (Nat.lt_of_lt_of_eq (jt (zh by4)) hN0)) U<|sr (xf (f := S1079.c) (l := a0) (a := y4) U z7 U U (zh by4)) U<|su (zg U U) U<|sm U U<|su (ku U Tryz.underlying48 z7 U U (jj by5) (Nat.lt_of_lt_of_eq (jt (zh by5)) hN0)) U<|sr (xf (f := S1079.c) (l := a0) (a := y5) U z7 U U (zh by5)) U<|su (xi U ha4 Ka4 U (Con.lend (Ha4 y4 y5 _ br6)) (qe U (qe U qk))) U<|su (zd U U U) U<|qd ?_;refine ql _ U (fun h3 => ?_) (fun h3 => ?_)
    ·replace h3 : (decide (r6 < 0)) = true := h3;replace hR := zk hR h3;(try simp only [bB] at h3);refine qa [.p, .p, .p]<|sm U U<|su (zn U U U iF) U<|sa U U<|qd ?_;exact ⟨U, (k3, ((x1 + x2) / 2) + 1, x2), jA, ⟨U, O⟩, U, ⟨iB, iB, iB, iB, hR⟩, by simp⟩
    ·replace h3 : (decide (r6 < 0)) = false := h3;replace hR := zl hR h3;(try simp only [bB] at h3);refine qa [.p, .p]<|sm U U<|sa U U<|qd ?_;exact ⟨U, (k3, x1, (x1 + x2) / 2), jA, ⟨U, O⟩, U, ⟨iB, iB, iB, iB, hR⟩, by simp⟩
   ·replace h2 : (decide (x1 < x2)) = false := h2;replace hR := zl hR h2;(try simp only [bB] at h2);refine zw<|qb<|qb<|qa [.p, .p]<|sm U U<|sa U U<|qd<|qp<|zf (γ := Nat × Int × (List S1079)) (fun g => ([(0, .osl 0 7 0 (N0)), (10, .g (G.int x1)), (13, .g (G.int g.2.1))], [(0, .arr 53 7 (List.map S1079.c g.2.2))])) (fun g => (x1 - g.2.1).toNat < g.1 ∧ 0 ≤ g.2.1 ∧ g.2.1 ≤ 60000 ∧ List.length g.2.2 = N0 ∧ w6 x1 g.1 g.2.1 g.2.2 = some R) (fun g => g.1) ⟨U, (((x1 - a1).toNat) + 1, a1, a0), ⟨U, U, U, O⟩, ⟨U, O⟩, U, ⟨Nat.lt_succ_self _, iD, iD, hN0, (by exact hR)⟩, O⟩ ?_
    ·rintro ⟨k10, x7, x8⟩ ⟨hk2, iv2_0, iv2_1, ln9, hR⟩;replace hk2 : (x1 - x7).toNat < k10 := hk2;replace hR : w6 x1 k10 x7 x8 = some R := hR;replace iv2_0 : 0 ≤ x7 := iv2_0;replace iv2_1 : x7 ≤ 60000 := iv2_1;replace ln9 : List.length x8 = N0 := ln9;obtain ⟨k10, rfl⟩ : ∃ m, k10 = m + 1 := ⟨k10 - 1, by omega⟩;rw [w6] at hR;(try dsimp only at hR);refine qb<|qb<|qa [.p, .p, .p, .p]<|sm U U<|sm U U<|su (kz U U U iF) U<|su (zd U U U) U<|qd ?_;refine ql _ U (fun h4 => ?_) (fun h4 => ?_)
     ·replace h4 : (decide (x7 < x1 - 1)) = true := h4;replace hR := zk hR h4;(try simp only [bB] at h4);refine qn<|qb<|qp ?_;obtain ⟨y11, by11, hR⟩ := qh hR;obtain ⟨y12, by12, hR⟩ := qh hR;obtain ⟨y13, by13, hR⟩ := qh hR;obtain ⟨y14, by14, hR⟩ := qh hR;refine zr [.p, .p, .p, .p, .p, .p, .p, .p, .p, .r, .p, .p, .p, .r, .p, .w, .p, .w] (by kernel_rfl)<|su (zg U U) U<|sm U U<|su (zg U U) U<|sm U U<|su (zn U U U iF) U<|su (zg U U) U<|sm U U<|su (zn U U U iF) U<|su (ku U Tryz.underlying48 z7 U U (jj by11) (Nat.lt_of_lt_of_eq (jt (zh by11)) ln9)) U<|sr (xf (f := S1079.c) (l := x8) (a := y11) U z7 U U (zh by11)) U<|su (zg U U) U<|sm U U<|su (ku U Tryz.underlying48 z7 U U (jj by12) (Nat.lt_of_lt_of_eq (jt (zh by12)) ln9)) U<|sr (xf (f := S1079.c) (l := x8) (a := y12) U z7 U U (zh by12)) U<|su (ku U Tryz.underlying48 z7 U U (jj by13) (Nat.lt_of_lt_of_eq (jt (zh by13)) ln9)) U<|je U U (qaq (f := S1079.c) (l := x8) (a' := y11) U z7 U U U (Nat.lt_of_lt_of_eq (Nat.lt_of_lt_of_eq (jt (zh by13)) ln9) (Eq.symm ln9)) U (fun _ => U))<|su (ku U Tryz.underlying48 z7 U U (jj by14) (Nat.lt_of_lt_of_eq (jt (zh by14)) ((List.length_set ..).trans ln9))) U<|je U U (qaq (f := S1079.c) (l := List.set x8 (Int.toNat x7) y11) (a' := y12) U z7 U U U (Nat.lt_of_lt_of_eq (Nat.lt_of_lt_of_eq (jt (zh by14)) ((List.length_set ..).trans ln9)) (Eq.symm ((List.length_set ..).trans ln9))) U (fun _ => U))<|qd<|qa [.p, .p, .p]<|sm U U<|su (zn U U U iF) U<|sa U U<|qd ?_;exact ⟨U, (k10, x7 + 1, List.set (List.set x8 (Int.toNat x7) y11) (Int.toNat (x7 + 1)) y12), ⟨(by simp only [List.length_set]; rfl), U, U, O⟩, ⟨U, O⟩, U, ⟨iB, iB, iB, ((List.length_set ..).trans ((List.length_set ..).trans ln9)), hR⟩, by simp⟩
     ·replace hR := zl hR h4;refine zw<|qo ?_;obtain rfl := Option.some.inj hR;show ResOk _ _ _ _ ∧ MemL _ _;exact ⟨res0 U, ⟨U, O⟩⟩
 ·replace h1 : (decide (a2 - a1 = 1)) = false := h1;replace hR := zl hR h1;(try simp only [bB] at h1);refine qn<|qb<|qb<|qa [.p, .p, .p, .p]<|sm U U<|sm U U<|su (kz U U U iF) U<|su (jn U U U) U<|qd ?_;refine ql _ U (fun h5 => ?_) (fun h5 => ?_)
  ·replace h5 : (decide (a3 - a2 = 1)) = true := h5;replace hR := zk hR h5;(try simp only [bB] at h5);refine qb<|qa [.p, .p]<|sm U U<|sa U U<|qd<|qb<|qa [.p, .p]<|sm U U<|sa U U<|qd<|qb<|qp<|zf (γ := Nat × Int × Int) (fun g => ([(0, .osl 0 7 0 (N0)), (2, .g (G.int a2)), (4, .g (ca4)), (14, .g (G.int g.2.1)), (15, .g (G.int g.2.2))], [(0, .arr 53 7 (List.map S1079.c a0))])) (fun g => (g.2.2 - g.2.1).toNat < g.1 ∧ 0 ≤ g.2.1 ∧ g.2.1 ≤ g.2.2 ∧ g.2.2 ≤ 30000 ∧ wi a0 a2 a4 g.1 g.2.1 g.2.2 = some R) (fun g => g.1) ⟨U, (((a2 - a1).toNat) + 1, a1, a2), jA, ⟨U, O⟩, U, ⟨Nat.lt_succ_self _, iD, iD, iD, (by exact hR)⟩, O⟩ ?_
   ·rintro ⟨k17, x15, x16⟩ ⟨hk3, iv3_0, iv3_1, iv3_2, hR⟩;replace hk3 : (x16 - x15).toNat < k17 := hk3;replace hR : wi a0 a2 a4 k17 x15 x16 = some R := hR;replace iv3_0 : 0 ≤ x15 := iv3_0;replace iv3_1 : x15 ≤ x16 := iv3_1;replace iv3_2 : x16 ≤ 30000 := iv3_2;obtain ⟨k17, rfl⟩ : ∃ m, k17 = m + 1 := ⟨k17 - 1, by omega⟩;rw [wi] at hR;(try dsimp only at hR);refine qb<|qb<|qa [.p, .p, .p]<|sm U U<|sm U U<|su (zd U U U) U<|qd ?_;refine ql _ U (fun h6 => ?_) (fun h6 => ?_)
    ·replace h6 : (decide (x15 < x16)) = true := h6;replace hR := zk hR h6;(try simp only [bB] at h6);refine qn<|qp<|qb<|qa [.p, .p, .p, .p, .p, .p, .p]<|sm U U<|sm U U<|su (zn U U U iF) U<|su (qej U Tryz.underlying3 Tryz.underlying233 U (by (try dsimp only); omega) (by (try dsimp only); omega)) U<|su (qg2 U U U (by (try dsimp only); omega)) U<|su (qek U Tryz.underlying233 Tryz.underlying3 U iF) U<|sa U U<|qd<|qb ?_;obtain ⟨y18, by18, hR⟩ := qh hR;obtain ⟨y19, by19, hR⟩ := qh hR;obtain ⟨r20, br20, hR⟩ := qh hR;refine zr [.p, .p, .p, .p, .r, .p, .p, .p, .r, .p, .p, .p] (by kernel_rfl)<|sm U U<|su (zg U U) U<|sm U U<|su (ku U Tryz.underlying48 z7 U U (jj by18) (Nat.lt_of_lt_of_eq (jt (zh by18)) hN0)) U<|sr (xf (f := S1079.c) (l := a0) (a := y18) U z7 U U (zh by18)) U<|su (zg U U) U<|sm U U<|su (ku U Tryz.underlying48 z7 U U (jj by19) (Nat.lt_of_lt_of_eq (jt (zh by19)) hN0)) U<|sr (xf (f := S1079.c) (l := a0) (a := y19) U z7 U U (zh by19)) U<|su (xi U ha4 Ka4 U (Con.lend (Ha4 y18 y19 _ br20)) (qe U (qe U qk))) U<|su (zd U U U) U<|su (jo U U) U<|qd ?_;refine ql _ U (fun h7 => ?_) (fun h7 => ?_)
     ·replace h7 : (!(decide (r20 < 0))) = true := h7;replace hR := zk hR h7;(try simp only [bB] at h7);refine qa [.p, .p, .p]<|sm U U<|su (zn U U U iF) U<|sa U U<|qd ?_;exact ⟨U, (k17, ((x15 + x16) / 2) + 1, x16), jA, ⟨U, O⟩, U, ⟨iB, iB, iB, iB, hR⟩, by simp⟩
     ·replace h7 : (!(decide (r20 < 0))) = false := h7;replace hR := zl hR h7;(try simp only [bB] at h7);refine qa [.p, .p]<|sm U U<|sa U U<|qd ?_;exact ⟨U, (k17, x15, (x15 + x16) / 2), jA, ⟨U, O⟩, U, ⟨iB, iB, iB, iB, hR⟩, by simp⟩
    ·replace h6 : (decide (x15 < x16)) = false := h6;replace hR := zl hR h6;(try simp only [bB] at h6);refine zw<|qb<|qb<|qa [.p, .p]<|sm U U<|sa U U<|qd<|qp<|zf (γ := Nat × Int × (List S1079)) (fun g => ([(0, .osl 0 7 0 (N0)), (14, .g (G.int x15)), (17, .g (G.int g.2.1))], [(0, .arr 53 7 (List.map S1079.c g.2.2))])) (fun g => (g.2.1 - x15).toNat < g.1 ∧ 0 ≤ g.2.1 ∧ g.2.1 ≤ 60000 ∧ List.length g.2.2 = N0 ∧ w7 x15 g.1 g.2.1 g.2.2 = some R) (fun g => g.1) ⟨U, (((a2 - x15).toNat) + 1, a2, a0), ⟨U, U, U, O⟩, ⟨U, O⟩, U, ⟨Nat.lt_succ_self _, iD, iD, hN0, (by exact hR)⟩, O⟩ ?_
     ·rintro ⟨k24, x21, x22⟩ ⟨hk4, iv4_0, iv4_1, ln23, hR⟩;replace hk4 : (x21 - x15).toNat < k24 := hk4;replace hR : w7 x15 k24 x21 x22 = some R := hR;replace iv4_0 : 0 ≤ x21 := iv4_0;replace iv4_1 : x21 ≤ 60000 := iv4_1;replace ln23 : List.length x22 = N0 := ln23;obtain ⟨k24, rfl⟩ : ∃ m, k24 = m + 1 := ⟨k24 - 1, by omega⟩;rw [w7] at hR;(try dsimp only at hR);refine qb<|qb<|qa [.p, .p, .p]<|sm U U<|sm U U<|su (zy U U U) U<|qd ?_;refine ql _ U (fun h8 => ?_) (fun h8 => ?_)
      ·replace h8 : (decide (x15 < x21)) = true := h8;replace hR := zk hR h8;(try simp only [bB] at h8);refine qn<|qb<|qp ?_;obtain ⟨y25, by25, hR⟩ := qh hR;obtain ⟨y26, by26, hR⟩ := qh hR;obtain ⟨y27, by27, hR⟩ := qh hR;obtain ⟨y28, by28, hR⟩ := qh hR;refine zr [.p, .p, .p, .p, .p, .p, .p, .p, .p, .r, .p, .p, .p, .r, .p, .w, .p, .w] (by kernel_rfl)<|su (zg U U) U<|sm U U<|su (zg U U) U<|sm U U<|su (kz U U U iF) U<|su (zg U U) U<|sm U U<|su (kz U U U iF) U<|su (ku U Tryz.underlying48 z7 U U (jj by25) (Nat.lt_of_lt_of_eq (jt (zh by25)) ln23)) U<|sr (xf (f := S1079.c) (l := x22) (a := y25) U z7 U U (zh by25)) U<|su (zg U U) U<|sm U U<|su (ku U Tryz.underlying48 z7 U U (jj by26) (Nat.lt_of_lt_of_eq (jt (zh by26)) ln23)) U<|sr (xf (f := S1079.c) (l := x22) (a := y26) U z7 U U (zh by26)) U<|su (ku U Tryz.underlying48 z7 U U (jj by27) (Nat.lt_of_lt_of_eq (jt (zh by27)) ln23)) U<|je U U (qaq (f := S1079.c) (l := x22) (a' := y25) U z7 U U U (Nat.lt_of_lt_of_eq (Nat.lt_of_lt_of_eq (jt (zh by27)) ln23) (Eq.symm ln23)) U (fun _ => U))<|su (ku U Tryz.underlying48 z7 U U (jj by28) (Nat.lt_of_lt_of_eq (jt (zh by28)) ((List.length_set ..).trans ln23))) U<|je U U (qaq (f := S1079.c) (l := List.set x22 (Int.toNat x21) y25) (a' := y26) U z7 U U U (Nat.lt_of_lt_of_eq (Nat.lt_of_lt_of_eq (jt (zh by28)) ((List.length_set ..).trans ln23)) (Eq.symm ((List.length_set ..).trans ln23))) U (fun _ => U))<|qd<|qa [.p, .p, .p]<|sm U U<|su (kz U U U iF) U<|sa U U<|qd ?_;exact ⟨U, (k24, x21 - 1, List.set (List.set x22 (Int.toNat x21) y25) (Int.toNat (x21 - 1)) y26), ⟨(by simp only [List.length_set]; rfl), U, U, O⟩, ⟨U, O⟩, U, ⟨iB, iB, iB, ((List.length_set ..).trans ((List.length_set ..).trans ln23)), hR⟩, by simp⟩
      ·replace hR := zl hR h8;refine zw<|qo ?_;obtain rfl := Option.some.inj hR;show ResOk _ _ _ _ ∧ MemL _ _;exact ⟨res0 U, ⟨U, O⟩⟩
  ·replace h5 : (decide (a3 - a2 = 1)) = false := h5;replace hR := zl hR h5;(try simp only [bB] at h5);refine qn<|qb<|qa [.p, .p, .p, .p, .p, .p, .p]<|sm U U<|sm U U<|su (zn U U U iF) U<|su (qej U Tryz.underlying3 Tryz.underlying233 U (by (try dsimp only); omega) (by (try dsimp only); omega)) U<|su (qg2 U U U (by (try dsimp only); omega)) U<|su (qek U Tryz.underlying233 Tryz.underlying3 U iF) U<|sa U U<|qd<|qb<|qa [.p, .p, .p, .p]<|sm U U<|sm U U<|su (zn U U U iF) U<|sa U U<|qd<|qb<|qa [.p, .p]<|sa U U<|sa U U<|qd ?_;refine ko (γ := Int × Int) (fun g => ([(0, .osl 0 7 0 (N0)), (1, .g (G.int a1)), (2, .g (G.int a2)), (3, .g (G.int a3)), (4, .g (ca4)), (18, .g (G.int ((a1 + a3) / 2))), (19, .g (G.int (((a1 + a3) / 2) + a2))), (20, .g (G.int g.1)), (21, .g (G.int g.2))], [(0, .arr 53 7 (List.map S1079.c a0))])) (fun g => (((a1 + a3) / 2) + a2) - a3 ≤ g.1 ∧ a1 ≤ g.1 ∧ g.1 ≤ 30000 ∧ 0 ≤ g.2 ∧ g.2 ≤ 30000 ∧ qdz (fun z0_ z1_ z2_ z3_ z4_ => qba kf_ z0_ z1_ z2_ z3_ z4_) a0 a1 a2 a3 a4 g.1 g.2 = some R) ?_ ?_
   ·refine qb<|qa [.p, .p, .p]<|sm U U<|sm U U<|su (zy U U U) U<|qd ?_;refine ql _ U (fun h14 => ?_) (fun h14 => ?_)
    ·replace h14 : (decide ((a1 + a3) / 2 < a2)) = true := h14;replace hR := zk hR h14;(try simp only [bB] at h14);refine qb<|qa [.p, .p, .p, .p]<|sm U U<|sm U U<|su (kz U U U iF) U<|sa U U<|qd<|qa [.p, .p]<|sm U U<|sa U U<|qd ?_;exact ⟨U, ((((a1 + a3) / 2) + a2) - a3, (a1 + a3) / 2), jA, ⟨U, O⟩, U, ⟨iB, iB, iB, iB, iB, hR⟩, O⟩
    ·replace h14 : (decide ((a1 + a3) / 2 < a2)) = false := h14;replace hR := zl hR h14;(try simp only [bB] at h14);refine qb<|qa [.p, .p]<|sm U U<|sa U U<|qd<|qa [.p, .p]<|sm U U<|sa U U<|qd ?_;exact ⟨U, (a1, a2), jA, ⟨U, O⟩, U, ⟨iB, iB, iB, iB, iB, hR⟩, O⟩
   ·rintro ⟨x29, x30⟩ ⟨jv3_0, jv3_1, jv3_2, jv3_3, jv3_4, hR⟩;replace jv3_0 : (((a1 + a3) / 2) + a2) - a3 ≤ x29 := jv3_0;replace jv3_1 : a1 ≤ x29 := jv3_1;replace jv3_2 : x29 ≤ 30000 := jv3_2;replace jv3_3 : 0 ≤ x30 := jv3_3;replace jv3_4 : x30 ≤ 30000 := jv3_4;replace hR : qdz (fun z0_ z1_ z2_ z3_ z4_ => qba kf_ z0_ z1_ z2_ z3_ z4_) a0 a1 a2 a3 a4 x29 x30 = some R := hR;unfold qdz at hR;refine qb<|qa [.p, .p, .p]<|sm U U<|su (kz U U U iF) U<|sa U U<|qd<|qb<|qp<|zf (γ := Nat × Int × Int) (fun g => ([(0, .osl 0 7 0 (N0)), (1, .g (G.int a1)), (2, .g (G.int a2)), (3, .g (G.int a3)), (4, .g (ca4)), (18, .g (G.int ((a1 + a3) / 2))), (19, .g (G.int (((a1 + a3) / 2) + a2))), (20, .g (G.int g.2.1)), (21, .g (G.int g.2.2)), (22, .g (G.int ((((a1 + a3) / 2) + a2) - 1)))], [(0, .arr 53 7 (List.map S1079.c a0))])) (fun g => (g.2.2 - g.2.1).toNat < g.1 ∧ (((a1 + a3) / 2) + a2) - a3 ≤ g.2.1 ∧ a1 ≤ g.2.1 ∧ g.2.1 ≤ 30000 ∧ g.2.2 ≤ 30000 ∧ 0 ≤ g.2.2 ∧ wj (fun z0_ z1_ z2_ z3_ z4_ => qba kf_ z0_ z1_ z2_ z3_ z4_) a0 a1 a2 a3 a4 g.1 g.2.1 g.2.2 = some R) (fun g => g.1) ⟨U, (((x30 - x29).toNat) + 1, x29, x30), jA, ⟨U, O⟩, U, ⟨Nat.lt_succ_self _, iD, iD, iD, iD, iD, (by exact hR)⟩, O⟩ ?_
    ·rintro ⟨k33, x31, x32⟩ ⟨hk5, iv5_0, iv5_1, iv5_2, iv5_3, iv5_4, hR⟩;replace hk5 : (x32 - x31).toNat < k33 := hk5;replace hR : wj (fun z0_ z1_ z2_ z3_ z4_ => qba kf_ z0_ z1_ z2_ z3_ z4_) a0 a1 a2 a3 a4 k33 x31 x32 = some R := hR;replace iv5_0 : (((a1 + a3) / 2) + a2) - a3 ≤ x31 := iv5_0;replace iv5_1 : a1 ≤ x31 := iv5_1;replace iv5_2 : x31 ≤ 30000 := iv5_2;replace iv5_3 : x32 ≤ 30000 := iv5_3;replace iv5_4 : 0 ≤ x32 := iv5_4;obtain ⟨k33, rfl⟩ : ∃ m, k33 = m + 1 := ⟨k33 - 1, by omega⟩;rw [wj] at hR;(try dsimp only at hR);refine qb<|qb<|qa [.p, .p, .p]<|sm U U<|sm U U<|su (zd U U U) U<|qd ?_;refine ql _ U (fun h9 => ?_) (fun h9 => ?_)
     ·replace h9 : (decide (x31 < x32)) = true := h9;replace hR := zk hR h9;(try simp only [bB] at h9);refine qn<|qp<|qb<|qa [.p, .p, .p, .p, .p, .p, .p]<|sm U U<|sm U U<|su (zn U U U iF) U<|su (qej U Tryz.underlying3 Tryz.underlying233 U (by (try dsimp only); omega) (by (try dsimp only); omega)) U<|su (qg2 U U U (by (try dsimp only); omega)) U<|su (qek U Tryz.underlying233 Tryz.underlying3 U iF) U<|sa U U<|qd<|qb ?_;obtain ⟨y34, by34, hR⟩ := qh hR;obtain ⟨y35, by35, hR⟩ := qh hR;obtain ⟨r36, br36, hR⟩ := qh hR;refine zr [.p, .p, .p, .p, .p, .p, .r, .p, .p, .p, .r, .p, .p, .p] (by kernel_rfl)<|sm U U<|su (zg U U) U<|sm U U<|sm U U<|su (kz U U U iF) U<|su (ku U Tryz.underlying48 z7 U U (jj by34) (Nat.lt_of_lt_of_eq (jt (zh by34)) hN0)) U<|sr (xf (f := S1079.c) (l := a0) (a := y34) U z7 U U (zh by34)) U<|su (zg U U) U<|sm U U<|su (ku U Tryz.underlying48 z7 U U (jj by35) (Nat.lt_of_lt_of_eq (jt (zh by35)) hN0)) U<|sr (xf (f := S1079.c) (l := a0) (a := y35) U z7 U U (zh by35)) U<|su (xi U ha4 Ka4 U (Con.lend (Ha4 y34 y35 _ br36)) (qe U (qe U qk))) U<|su (zd U U U) U<|su (jo U U) U<|qd ?_;refine ql _ U (fun h10 => ?_) (fun h10 => ?_)
      ·replace h10 : (!(decide (r36 < 0))) = true := h10;replace hR := zk hR h10;(try simp only [bB] at h10);refine qa [.p, .p, .p]<|sm U U<|su (zn U U U iF) U<|sa U U<|qd ?_;exact ⟨U, (k33, ((x31 + x32) / 2) + 1, x32), jA, ⟨U, O⟩, U, ⟨iB, iB, iB, iB, iB, iB, hR⟩, by simp⟩
      ·replace h10 : (!(decide (r36 < 0))) = false := h10;replace hR := zl hR h10;(try simp only [bB] at h10);refine qa [.p, .p]<|sm U U<|sa U U<|qd ?_;exact ⟨U, (k33, x31, (x31 + x32) / 2), jA, ⟨U, O⟩, U, ⟨iB, iB, iB, iB, iB, iB, hR⟩, by simp⟩
     ·replace h9 : (decide (x31 < x32)) = false := h9;replace hR := zl hR h9;(try simp only [bB] at h9);refine zw<|qb<|qa [.p, .p, .p, .p]<|sm U U<|sm U U<|su (kz U U U iF) U<|sa U U<|qd ?_;refine ko (γ := (List S1079)) (fun g => ([(0, .osl 0 7 0 (N0)), (1, .g (G.int a1)), (3, .g (G.int a3)), (4, .g (ca4)), (18, .g (G.int ((a1 + a3) / 2))), (20, .g (G.int x31)), (24, .g (G.int ((((a1 + a3) / 2) + a2) - x31)))], [(0, .arr 53 7 (List.map S1079.c g))])) (fun g => List.length g = N0 ∧ xx (fun z0_ z1_ z2_ z3_ z4_ => qba kf_ z0_ z1_ z2_ z3_ z4_) a1 a2 a3 a4 x31 g = some R) ?_ ?_
      ·refine qb<|qa [.p, .p, .p, .p, .p, .p, .p, .p]<|sm U U<|sm U U<|su (zd U U U) U<|sm U U<|sg U U (fun h => qj U U) U<|sg U U (fun h => qj U U) U<|sg U U (fun h => zd U (gd h U) (gd h U)) U<|su (zt U U U U) U<|qd ?_;refine ql _ U (fun h13 => ?_) (fun h13 => ?_)
       ·replace h13 : ((decide (x31 < a2)) && (decide (a2 < (((a1 + a3) / 2) + a2) - x31))) = true := h13;replace hR := zk hR h13;(try simp only [bB] at h13);obtain ⟨r43, br43, hR⟩ := qh hR;refine qa [.p, .p, .p, .p, .p, .w]<|su (zg rfl rfl) rfl<|sm rfl rfl<|sm rfl rfl<|sm rfl rfl<|sm rfl rfl<|sw (vw 0 0 rfl q81 rfl (ConB.lend (zcc a0 x31 a2 ((((a1 + a3) / 2) + a2) - x31) a4 hN0 ha4 Ka4 Ha4 (by first | assumption | omega | (simp [qi]; done) | (simp [qi]; omega)) (by first | assumption | omega | (simp [qi]; done) | (simp [qi]; omega)) (by first | assumption | omega | (simp [qi]; done) | (simp [qi]; omega)) (by first | assumption | omega | (simp [qi]; done) | (simp [qi]; omega)) br43)) (z6 rfl rfl (z6 rfl rfl (z6 rfl rfl (z6 rfl rfl (z6 rfl rfl qdn))))) rfl rfl rfl) rfl<|qd ?_;exact ⟨U, r43, jA, ⟨U, O⟩, U, ⟨((qxd br43).trans hN0), hR⟩, O⟩
       ·replace hR := zl hR h13;refine qn ?_;exact ⟨U, a0, jA, ⟨U, O⟩, U, ⟨hN0, hR⟩, O⟩
      ·rintro x37 ⟨ln38, hR⟩;replace ln38 : List.length x37 = N0 := ln38;replace hR : xx (fun z0_ z1_ z2_ z3_ z4_ => qba kf_ z0_ z1_ z2_ z3_ z4_) a1 a2 a3 a4 x31 x37 = some R := hR;unfold xx at hR;refine ko (γ := (List S1079)) (fun g => ([(0, .osl 0 7 0 (N0)), (3, .g (G.int a3)), (4, .g (ca4)), (18, .g (G.int ((a1 + a3) / 2))), (24, .g (G.int ((((a1 + a3) / 2) + a2) - x31)))], [(0, .arr 53 7 (List.map S1079.c g))])) (fun g => List.length g = N0 ∧ qbj (fun z0_ z1_ z2_ z3_ z4_ => qba kf_ z0_ z1_ z2_ z3_ z4_) a1 a2 a3 a4 x31 g = some R) ?_ ?_
       ·refine qb<|qa [.p, .p, .p, .p, .p, .p, .p, .p]<|sm U U<|sm U U<|su (zd U U U) U<|sm U U<|sg U U (fun h => qj U U) U<|sg U U (fun h => qj U U) U<|sg U U (fun h => zd U (gd h U) (gd h U)) U<|su (zt U U U U) U<|qd ?_;refine ql _ U (fun h12 => ?_) (fun h12 => ?_)
        ·replace h12 : ((decide (a1 < x31)) && (decide (x31 < (a1 + a3) / 2))) = true := h12;replace hR := zk hR h12;(try simp only [bB] at h12);obtain ⟨r42, br42, hR⟩ := qh hR;refine qa [.p, .p, .p, .p, .p, .w]<|su (zg rfl rfl) rfl<|sm rfl rfl<|sm rfl rfl<|sm rfl rfl<|sm rfl rfl<|sw (vw 0 0 rfl qyj rfl (ConB.lend (ih x37 a1 x31 ((a1 + a3) / 2) a4 ln38 ha4 Ka4 Ha4 (by first | assumption | omega) (by first | assumption | omega) (by first | assumption | omega) (by first | assumption | omega) br42)) (z6 rfl rfl (z6 rfl rfl (z6 rfl rfl (z6 rfl rfl (z6 rfl rfl qdn))))) rfl rfl rfl) rfl<|qd ?_;exact ⟨U, r42, jA, ⟨U, O⟩, U, ⟨((qk8 br42).trans ln38), hR⟩, O⟩
        ·replace hR := zl hR h12;refine qn ?_;exact ⟨U, x37, jA, ⟨U, O⟩, U, ⟨ln38, hR⟩, O⟩
       ·rintro x39 ⟨ln40, hR⟩;replace ln40 : List.length x39 = N0 := ln40;replace hR : qbj (fun z0_ z1_ z2_ z3_ z4_ => qba kf_ z0_ z1_ z2_ z3_ z4_) a1 a2 a3 a4 x31 x39 = some R := hR;unfold qbj at hR;refine qb<|qa [.p, .p, .p, .p, .p, .p, .p, .p]<|sm U U<|sm U U<|su (zd U U U) U<|sm U U<|sg U U (fun h => qj U U) U<|sg U U (fun h => qj U U) U<|sg U U (fun h => zd U (gd h U) (gd h U)) U<|su (zt U U U U) U<|qd ?_;refine ql _ U (fun h11 => ?_) (fun h11 => ?_)
        ·replace h11 : ((decide ((a1 + a3) / 2 < (((a1 + a3) / 2) + a2) - x31)) && (decide ((((a1 + a3) / 2) + a2) - x31 < a3))) = true := h11;replace hR := zk hR h11;(try simp only [bB] at h11);obtain ⟨r41, br41, hR⟩ := qh hR;refine qa [.p, .p, .p, .p, .p, .w]<|su (zg rfl rfl) rfl<|sm rfl rfl<|sm rfl rfl<|sm rfl rfl<|sm rfl rfl<|sw (vw 0 0 rfl qyj rfl (ConB.lend (ih x39 ((a1 + a3) / 2) ((((a1 + a3) / 2) + a2) - x31) a3 a4 ln40 ha4 Ka4 Ha4 (by first | assumption | omega) (by first | assumption | omega) (by first | assumption | omega) (by first | assumption | omega) br41)) (z6 rfl rfl (z6 rfl rfl (z6 rfl rfl (z6 rfl rfl (z6 rfl rfl qdn))))) rfl rfl rfl) rfl<|qd ?_;obtain rfl := Option.some.inj hR;show ResOk _ _ _ _ ∧ MemL _ _;exact ⟨res0 U, ⟨U, O⟩⟩
        ·replace hR := zl hR h11;refine qn ?_;obtain rfl := Option.some.inj hR;show ResOk _ _ _ _ ∧ MemL _ _;exact ⟨res0 U, ⟨U, O⟩⟩
def qdc (rec2 : Int → (List S1079) → Option (List S1079)) (x8 : Int) (x18 : List S1079) : Option (List S1079) :=
 rec2 (x8 * 2) x18
def wk (rec2 : Int → (List S1079) → Option (List S1079)) (a1 : Int) (a2 : S1079 → S1079 → Option Int) (x8 : Int) : Nat → Int → Int → (List S1079) → Option (List S1079)
 | 0, _, _, _ => none
 | k16 + 1, x12, x13, x14 => (bif decide (x13 ≤ a1) then zc (qba 30001 x14 x12 (x12 + x8) x13 a2) fun r17 => wk rec2 a1 a2 x8 k16 x13 (x13 + (2 * x8)) r17 else (bif decide (x12 + x8 < a1) then zc (qba 30001 x14 x12 (x12 + x8) a1 a2) fun r20 => qdc rec2 x8 r20 else qdc rec2 x8 x14))
def vg (a1 : Int) (a2 : S1079 → S1079 → Option Int) : Nat → Int → (List S1079) → Option (List S1079)
 | 0, _, _ => none
 | k11 + 1, x8, x9 => (bif decide (x8 < a1) then wk (fun z0_ z1_ => vg a1 a2 k11 z0_ z1_) a1 a2 x8 (((a1 + 2 * x8 - (2 * x8)).toNat) + 1) 0 (2 * x8) x9 else some x9)
def qa0 (a1 : Int) (a2 : S1079 → S1079 → Option Int) : Nat → Int → Int → (List S1079) → Option (List S1079)
 | 0, _, _, _ => none
 | k5 + 1, x1, x2, x3 => (bif decide (x2 ≤ a1) then zc (qp6 x3 x1 x2 a2) fun r6 => qa0 a1 a2 k5 x2 (x2 + 20) r6 else zc (qp6 x3 x1 a1 a2) fun r7 => vg a1 a2 (((a1 - 20).toNat) + 1) 20 r7)
def qxe (a0 : List S1079) (a1 : Int) (a2 : S1079 → S1079 → Option Int) : Option (List S1079) :=
 qa0 a1 a2 (((a1 + 20 - 20).toNat) + 1) 0 20 a0
theorem zcd {g : GL} (a0 : List S1079) (a1 : Int) (a2 : S1079 → S1079 → Option Int) {R : List S1079} {N0 : Nat} (hN0 : List.length a0 = N0) {ca2 : G} {ia2 : FuncId} {ka2 : List G} (ha2 : FnIs ca2 ia2 ka2) (Ka2 : ze Tryz.prog ia2) (Ha2 : ∀ (x0 : S1079) (x1 : S1079) (r : Int), a2 x0 x1 = some r → Con (EG g) ia2 ([G.agg (S1079.c x0), G.agg (S1079.c x1)] ++ ka2) (G.int r)) (hA : 0 ≤ a1) (hB : a1 ≤ 30000) (hR : qxe a0 a1 a2 = some R) : ConB (EG g) 181 [.osl 0 7 0 N0, .g (G.int a1), .g (ca2)] [(0, .arr 53 7 (List.map S1079.c a0))] (G.tup []) [(0, .arr 53 7 (List.map S1079.c R))] := by
 unfold qxe at hR;refine qa9 Tryz.func181 U U U fun w0 M0 x => ?_;refine qfs (f := S1079.c) (l := a0) 0 U fun hla0 => ?_;refine qb<|qa [.p]<|sa U U<|qd<|qb<|qa [.p, .p, .p]<|sm U U<|sa U U<|sa U U<|qd<|qb<|qp<|zf (γ := Nat × Int × Int × (List S1079)) (fun g => ([(0, .osl 0 7 0 (N0)), (1, .g (G.int a1)), (2, .g (ca2)), (6, .g (G.int 20)), (7, .g (G.int g.2.1)), (8, .g (G.int g.2.2.1))], [(0, .arr 53 7 (List.map S1079.c g.2.2.2))])) (fun g => (a1 + 20 - g.2.2.1).toNat < g.1 ∧ 0 ≤ g.2.1 ∧ g.2.2.1 = g.2.1 + 20 ∧ g.2.1 ≤ 60000 ∧ List.length g.2.2.2 = N0 ∧ qa0 a1 a2 g.1 g.2.1 g.2.2.1 g.2.2.2 = some R) (fun g => g.1) ⟨U, (((a1 + 20 - 20).toNat) + 1, 0, 20, a0), jA, ⟨U, O⟩, U, ⟨Nat.lt_succ_self _, iD, iD, iD, hN0, (by exact hR)⟩, O⟩ ?_
 ·rintro ⟨k5, x1, x2, x3⟩ ⟨hk1, iv1_0, iv1_1, iv1_2, ln4, hR⟩;replace hk1 : (a1 + 20 - x2).toNat < k5 := hk1;replace hR : qa0 a1 a2 k5 x1 x2 x3 = some R := hR;replace iv1_0 : 0 ≤ x1 := iv1_0;replace iv1_1 : x2 = x1 + 20 := iv1_1;replace iv1_2 : x1 ≤ 60000 := iv1_2;replace ln4 : List.length x3 = N0 := ln4;obtain ⟨k5, rfl⟩ : ∃ m, k5 = m + 1 := ⟨k5 - 1, by omega⟩;rw [qa0] at hR;(try dsimp only at hR);refine qb<|qb<|qa [.p, .p, .p]<|sm U U<|sm U U<|su (vj U U U) U<|qd ?_;refine ql _ U (fun h1 => ?_) (fun h1 => ?_)
  ·replace h1 : (decide (x2 ≤ a1)) = true := h1;replace hR := zk hR h1;(try simp only [bB] at h1);refine qn<|qp<|qb ?_;obtain ⟨r6, br6, hR⟩ := qh hR;refine qa [.p, .p, .p, .p, .w]<|su (zg rfl rfl) rfl<|sm rfl rfl<|sm rfl rfl<|sm rfl rfl<|sw (vw 0 0 rfl q5n rfl (ConB.lend (q7q x3 x1 x2 a2 ln4 ha2 Ka2 Ha2 (by first | assumption | omega | (simp [qi]; done) | (simp [qi]; omega)) (by first | assumption | omega | (simp [qi]; done) | (simp [qi]; omega)) (by first | assumption | omega | (simp [qi]; done) | (simp [qi]; omega)) br6)) (z6 rfl rfl (z6 rfl rfl (z6 rfl rfl (z6 rfl rfl qdn)))) rfl rfl rfl) rfl<|qd<|qb<|qa [.p, .p]<|sm rfl rfl<|sa rfl rfl<|qd<|qa [.p, .p, .p, .p]<|sm rfl rfl<|sm rfl rfl<|su (zn rfl rfl rfl iF) rfl<|sa rfl rfl<|qd ?_;exact ⟨rfl, (k5, x2, x2 + 20, r6), jA, ⟨rfl, trivial⟩, rfl, ⟨(by first | omega | (dsimp only; done) | (dsimp only; omega)), (by first | omega | (dsimp only; done) | (dsimp only; omega)), (by first | omega | (dsimp only; done) | (dsimp only; omega)), (by first | omega | (dsimp only; done) | (dsimp only; omega)), ((qoo br6).trans ln4), hR⟩, by simp⟩
  ·replace h1 : (decide (x2 ≤ a1)) = false := h1;replace hR := zl hR h1;(try simp only [bB] at h1);refine zw<|qb ?_;obtain ⟨r7, br7, hR⟩ := qh hR;refine qa [.p, .p, .p, .p, .w]<|su (zg rfl rfl) rfl<|sm rfl rfl<|sm rfl rfl<|sm rfl rfl<|sw (vw 0 0 rfl q5n rfl (ConB.lend (q7q x3 x1 a1 a2 ln4 ha2 Ka2 Ha2 (by first | assumption | omega | (simp [qi]; done) | (simp [qi]; omega)) (by first | assumption | omega | (simp [qi]; done) | (simp [qi]; omega)) (by first | assumption | omega | (simp [qi]; done) | (simp [qi]; omega)) br7)) (z6 rfl rfl (z6 rfl rfl (z6 rfl rfl (z6 rfl rfl qdn)))) rfl rfl rfl) rfl<|qd<|qp<|zf (γ := Nat × Int × (List S1079)) (fun g => ([(0, .osl 0 7 0 (N0)), (1, .g (G.int a1)), (2, .g (ca2)), (6, .g (G.int g.2.1))], [(0, .arr 53 7 (List.map S1079.c g.2.2))])) (fun g => (a1 - g.2.1).toNat < g.1 ∧ 20 ≤ g.2.1 ∧ g.2.1 ≤ 60000 ∧ List.length g.2.2 = N0 ∧ vg a1 a2 g.1 g.2.1 g.2.2 = some R) (fun g => g.1) ⟨rfl, (((a1 - 20).toNat) + 1, 20, r7), jA, ⟨rfl, trivial⟩, rfl, ⟨Nat.lt_succ_self _, iD, iD, ((qoo br7).trans ln4), (by exact hR)⟩, trivial⟩ ?_
   ·rintro ⟨k11, x8, x9⟩ ⟨hk2, iv2_0, iv2_1, ln10, hR⟩;replace hk2 : (a1 - x8).toNat < k11 := hk2;replace hR : vg a1 a2 k11 x8 x9 = some R := hR;replace iv2_0 : 20 ≤ x8 := iv2_0;replace iv2_1 : x8 ≤ 60000 := iv2_1;replace ln10 : List.length x9 = N0 := ln10;obtain ⟨k11, rfl⟩ : ∃ m, k11 = m + 1 := ⟨k11 - 1, by omega⟩;rw [vg] at hR;(try dsimp only at hR);refine qb<|qb<|qa [.p, .p, .p]<|sm U U<|sm U U<|su (zd U U U) U<|qd ?_;refine ql _ U (fun h2 => ?_) (fun h2 => ?_)
    ·replace h2 : (decide (x8 < a1)) = true := h2;replace hR := zk hR h2;(try simp only [bB] at h2);refine qn<|qp<|qb<|qa [.p, .p, .p, .p]<|sm U U<|su (qqu U U U iF) U<|sa U U<|sa U U<|qd<|qb<|qp<|zf (γ := Nat × Int × Int × (List S1079)) (fun g => ([(0, .osl 0 7 0 (N0)), (1, .g (G.int a1)), (2, .g (ca2)), (6, .g (G.int x8)), (7, .g (G.int g.2.1)), (8, .g (G.int g.2.2.1))], [(0, .arr 53 7 (List.map S1079.c g.2.2.2))])) (fun g => (a1 + 2 * x8 - g.2.2.1).toNat < g.1 ∧ 0 ≤ g.2.1 ∧ g.2.2.1 = g.2.1 + 2 * x8 ∧ g.2.1 ≤ 150000 ∧ List.length g.2.2.2 = N0 ∧ wk (fun z0_ z1_ => vg a1 a2 k11 z0_ z1_) a1 a2 x8 g.1 g.2.1 g.2.2.1 g.2.2.2 = some R) (fun g => g.1) ⟨U, (((a1 + 2 * x8 - (2 * x8)).toNat) + 1, 0, 2 * x8, x9), jA, ⟨U, O⟩, U, ⟨Nat.lt_succ_self _, iD, iD, iD, ln10, (by exact hR)⟩, O⟩ ?_
     ·rintro ⟨k16, x12, x13, x14⟩ ⟨hk3, iv3_0, iv3_1, iv3_2, ln15, hR⟩;replace hk3 : (a1 + 2 * x8 - x13).toNat < k16 := hk3;replace hR : wk (fun z0_ z1_ => vg a1 a2 k11 z0_ z1_) a1 a2 x8 k16 x12 x13 x14 = some R := hR;replace iv3_0 : 0 ≤ x12 := iv3_0;replace iv3_1 : x13 = x12 + 2 * x8 := iv3_1;replace iv3_2 : x12 ≤ 150000 := iv3_2;replace ln15 : List.length x14 = N0 := ln15;obtain ⟨k16, rfl⟩ : ∃ m, k16 = m + 1 := ⟨k16 - 1, by omega⟩;rw [wk] at hR;(try dsimp only at hR);refine qb<|qb<|qa [.p, .p, .p]<|sm U U<|sm U U<|su (vj U U U) U<|qd ?_;refine ql _ U (fun h3 => ?_) (fun h3 => ?_)
      ·replace h3 : (decide (x13 ≤ a1)) = true := h3;replace hR := zk hR h3;(try simp only [bB] at h3);refine qn<|qp<|qb ?_;obtain ⟨r17, br17, hR⟩ := qh hR;refine qa [.p, .p, .p, .p, .p, .p, .p, .w]<|su (zg rfl rfl) rfl<|sm rfl rfl<|sm rfl rfl<|sm rfl rfl<|su (zn rfl rfl rfl iF) rfl<|sm rfl rfl<|sm rfl rfl<|sw (vw 0 0 rfl qyj rfl (ConB.lend (q7r 30001 x14 x12 (x12 + x8) x13 a2 ln15 ha2 Ka2 Ha2 (by first | assumption | omega | (simp [qi]; done) | (simp [qi]; omega)) (by first | assumption | omega | (simp [qi]; done) | (simp [qi]; omega)) (by first | assumption | omega | (simp [qi]; done) | (simp [qi]; omega)) (by first | assumption | omega | (simp [qi]; done) | (simp [qi]; omega)) br17)) (z6 rfl rfl (z6 rfl rfl (z6 rfl rfl (z6 rfl rfl (z6 rfl rfl qdn))))) rfl rfl rfl) rfl<|qd<|qb<|qa [.p, .p]<|sm rfl rfl<|sa rfl rfl<|qd<|qa [.p, .p, .p, .p, .p]<|sm rfl rfl<|sm rfl rfl<|su (qqu rfl rfl rfl iF) rfl<|su (zn rfl rfl rfl iF) rfl<|sa rfl rfl<|qd ?_;exact ⟨rfl, (k16, x13, x13 + (2 * x8), r17), jA, ⟨rfl, trivial⟩, rfl, ⟨(by first | omega | (dsimp only; done) | (dsimp only; omega)), (by first | omega | (dsimp only; done) | (dsimp only; omega)), (by first | omega | (dsimp only; done) | (dsimp only; omega)), (by first | omega | (dsimp only; done) | (dsimp only; omega)), ((qk8 br17).trans ln15), hR⟩, by simp⟩
      ·replace h3 : (decide (x13 ≤ a1)) = false := h3;replace hR := zl hR h3;(try simp only [bB] at h3);refine zw ?_;refine ko (γ := (List S1079)) (fun g => ([(0, .osl 0 7 0 (N0)), (1, .g (G.int a1)), (2, .g (ca2)), (6, .g (G.int x8))], [(0, .arr 53 7 (List.map S1079.c g))])) (fun g => List.length g = N0 ∧ qdc (fun z0_ z1_ => vg a1 a2 k11 z0_ z1_) x8 g = some R) ?_ ?_
       ·refine qb<|qa [.p, .p, .p, .p]<|sm U U<|sm U U<|su (zn U U U iF) U<|sa U U<|qd<|qb<|qa [.p, .p, .p]<|sm U U<|sm U U<|su (zd U U U) U<|qd ?_;refine ql _ U (fun h4 => ?_) (fun h4 => ?_)
        ·replace h4 : (decide (x12 + x8 < a1)) = true := h4;replace hR := zk hR h4;(try simp only [bB] at h4);obtain ⟨r20, br20, hR⟩ := qh hR;refine qa [.p, .p, .p, .p, .p, .w]<|su (zg rfl rfl) rfl<|sm rfl rfl<|sm rfl rfl<|sm rfl rfl<|sm rfl rfl<|sw (vw 0 0 rfl qyj rfl (ConB.lend (q7r 30001 x14 x12 (x12 + x8) a1 a2 ln15 ha2 Ka2 Ha2 (by first | assumption | omega | (simp [qi]; done) | (simp [qi]; omega)) (by first | assumption | omega | (simp [qi]; done) | (simp [qi]; omega)) (by first | assumption | omega | (simp [qi]; done) | (simp [qi]; omega)) (by first | assumption | omega | (simp [qi]; done) | (simp [qi]; omega)) br20)) (z6 rfl rfl (z6 rfl rfl (z6 rfl rfl (z6 rfl rfl (z6 rfl rfl qdn))))) rfl rfl rfl) rfl<|qd ?_;exact ⟨U, r20, jA, ⟨U, O⟩, U, ⟨((qk8 br20).trans ln15), hR⟩, O⟩
        ·replace hR := zl hR h4;refine qn ?_;exact ⟨U, x14, jA, ⟨U, O⟩, U, ⟨ln15, hR⟩, O⟩
       ·rintro x18 ⟨ln19, hR⟩;replace ln19 : List.length x18 = N0 := ln19;replace hR : qdc (fun z0_ z1_ => vg a1 a2 k11 z0_ z1_) x8 x18 = some R := hR;unfold qdc at hR;refine qa [.p, .p, .p]<|sm U U<|su (qqu U U U iF) U<|sa U U<|qd ?_;exact ⟨U, (k11, x8 * 2, x18), jA, ⟨U, O⟩, U, ⟨iB, iB, iB, ln19, hR⟩, by simp⟩
    ·replace hR := zl hR h2;refine zw ?_;obtain rfl := Option.some.inj hR;show ResOk _ _ _ _ ∧ MemL _ _;exact ⟨res0 U, ⟨U, O⟩⟩
theorem qmp (rec2 : Int → List S1079 → Option (List S1079)) (hrec : ∀ x l r, rec2 x l = some r → r.length = l.length) (a1 : Int) (a2 : S1079 → S1079 → Option Int) (x8 : Int) : ∀ (k : Nat) (x y : Int) (l r : List S1079), wk rec2 a1 a2 x8 k x y l = some r → r.length = l.length
 | 0, _, _, _, _, h => by rw [wk] at h; cases h
 | k + 1, x, y, l, r, h => by
  rw [wk] at h
  cases hc : decide (y ≤ a1) with
  | true => obtain ⟨y1, h1, h⟩ := qh (zk h hc); exact (qmp rec2 hrec a1 a2 x8 k _ _ _ _ h).trans (qk8 h1)
  | false =>
   have h := zl h hc
   cases hd : decide (x + x8 < a1) with
   | true => obtain ⟨y1, h1, h⟩ := qh (zk h hd); exact (hrec _ _ _ h).trans (qk8 h1)
   | false => exact hrec _ _ _ (zl h hd)
theorem qmq (a1 : Int) (a2 : S1079 → S1079 → Option Int) : ∀ (k : Nat) (x : Int) (l r : List S1079), vg a1 a2 k x l = some r → r.length = l.length
 | 0, _, _, _, h => by rw [vg] at h; cases h
 | k + 1, x, l, r, h => by
  rw [vg] at h
  cases hc : decide (x < a1) with
  | true => exact qmp _ (fun x l r h => qmq a1 a2 k x l r h) _ _ _ _ _ _ _ _ (zk h hc)
  | false => have h := zl h hc; cases h; rfl
theorem qmr (a1 : Int) (a2 : S1079 → S1079 → Option Int) : ∀ (k : Nat) (x y : Int) (l r : List S1079), qa0 a1 a2 k x y l = some r → r.length = l.length
 | 0, _, _, _, _, h => by rw [qa0] at h; cases h
 | k + 1, x, y, l, r, h => by
  rw [qa0] at h
  cases hc : decide (y ≤ a1) with
  | true => obtain ⟨y1, h1, h⟩ := qh (zk h hc); exact (qmr a1 a2 k _ _ _ _ h).trans (qoo h1)
  | false => obtain ⟨y1, h1, h⟩ := qh (zl h hc); exact (qmq _ _ _ _ _ _ h).trans (qoo h1)
theorem q4y {a0 : List S1079} {a1 : Int} {a2 : S1079 → S1079 → Option Int} {R : List S1079} (h : qxe a0 a1 a2 = some R) : R.length = a0.length := qmr _ _ _ _ _ _ _ h
def qrg (a0 : List S1079) (a1 : S1079 → S1079 → Option Int) : Option (List S1079) :=
 zc (qxe a0 (List.length a0 : Int) a1) fun r1 => some r1
theorem zce {g : GL} (a0 : List S1079) (a1 : S1079 → S1079 → Option Int) {R : List S1079} {N0 : Nat} (hN0 : List.length a0 = N0) {ca1 : G} {ia1 : FuncId} {ka1 : List G} (ha1 : FnIs ca1 ia1 ka1) (Ka1 : ze Tryz.prog ia1) (Ha1 : ∀ (x0 : S1079) (x1 : S1079) (r : Int), a1 x0 x1 = some r → Con (EG g) ia1 ([G.agg (S1079.c x0), G.agg (S1079.c x1)] ++ ka1) (G.int r)) (hB : (List.length a0 : Int) ≤ 30000) (hR : qrg a0 a1 = some R) : ConB (EG g) 149 [.osl 0 7 0 N0, .g (ca1)] [(0, .arr 53 7 (List.map S1079.c a0))] (G.tup []) [(0, .arr 53 7 (List.map S1079.c R))] := by
 unfold qrg at hR;refine qa9 Tryz.func149 U U U fun w0 M0 x => ?_;refine qfs (f := S1079.c) (l := a0) 0 U fun hla0 => ?_;obtain ⟨r1, br1, hR⟩ := qh hR;refine qa [.p, .p, .p, .p, .w]<|su (zg rfl rfl) rfl<|su (zg rfl rfl) rfl<|su (qvp hN0 rfl Tryz.underlying48 rfl) rfl<|sm rfl rfl<|sw (vw 0 0 rfl q8z rfl (ConB.lend (zcd a0 (List.length a0 : Int) a1 hN0 ha1 Ka1 Ha1 (by first | assumption | omega | (simp [qi]; done) | (simp [qi]; omega)) (by first | assumption | omega | (simp [qi]; done) | (simp [qi]; omega)) br1)) (z6 rfl rfl (z6 rfl rfl (z6 rfl rfl qdn))) rfl rfl rfl) rfl<|qd ?_;obtain rfl := Option.some.inj hR;show ResOk _ _ _ _ ∧ MemL _ _;exact ⟨res0 U, ⟨U, O⟩⟩
theorem q4z {a0 : List S1079} {a1 : S1079 → S1079 → Option Int} {R : List S1079} (h : qrg a0 a1 = some R) : R.length = a0.length := by
 unfold qrg at h;obtain ⟨y1, h1, h⟩ := qh h
 cases h
 exact q4y h1
theorem zcf {g : GL} (a0 : List S1079) (hb : a0.length ≤ 30000) : ConN (EG g) 148 [G.sl 7 (List.map S1079.c a0)] 53 7 (List.map S1079.c a0) := by
 refine qdp Tryz.func148 U U fun w0 M0 => ?_;refine qb<|qa [.p]<|sa U U<|qd<|qb<|qb<|qa [.p, .p]<|sm U U<|su (qkx (f := S1079.c) (l := a0) U Tryz.underlying48 U U) U<|qd ?_;refine qoc U (fun h => ?_) ?_
 ·refine qb<|qa [.p]<|sa U U<|qd<|qo ?_;exact qkm (E := EG g) U U (by rw [h]; rfl)
 ·refine qn<|qb<|qa [.w, .p, .k, .p] ?_;refine sw (qfu (xs := List.map S1079.c []) 5 U Tryz.underlying48 z7 qlj U jp U (by simp) (by decide) U) U ?_;refine sm U U ?_;refine st_k U U (xb (f := S1079.c) (out := []) (new := a0) U qm5 U U (qa6 U (qa5 (by decide) (by simp [S1079.c]))) (qkq U) (by simp; omega)) U ?_;refine su (ja U U) U<|qd<|qo ?_;exact qee (E := EG g) U U U (List.length_map ..)
def qlm (a0 : List S2062) (a1 : List S1079) (a2 : S1079) : Option (Int × Int) :=
 zc (qgw a0 a1) fun r1 => (bif decide ((vr [r1, (qbl a2)]) ≠ 0) then some (0, (vr [r1, (qbl a2)])) else zc (qzr a0 a1 a2) fun r2 => some (r2, 0))
theorem qy0 {g : GL} (a0 : List S2062) (a1 : List S1079) (a2 : S1079) {R : Int × Int}  (hb : a1.length ≤ 1000) (hR : qlm a0 a1 a2 = some R) : Con (EG g) 13 [G.sl 11 (List.map S2062.c a0), G.sl 7 (List.map S1079.c a1), G.agg (S1079.c a2)] (G.tup [G.int R.1, G.int R.2]) := by
 unfold qlm at hR;refine qm Tryz.func13 U U fun w0 M0 => ?_;refine zu (f := S2062.c) (l := a0) 0 U fun hla0 => ?_;refine zu (f := S1079.c) (l := a1) 1 U fun hla1 => ?_;refine qb<|qa [.p, .p, .p]<|su (zi U U) U<|sa U U<|sa U U<|qd<|qb<|qb ?_;obtain ⟨r1, br1, hR⟩ := qh hR;refine zr [.p, .p, .p, .p, .p, .p, .p, .p] (by kernel_rfl)<|sm U U<|sm U U<|su (qg U q2u U (q31 a0 a1 br1) (qe U (qe U qk))) U<|su (qr U z7 U U U) U<|su (qg U q2w U (q40 a2) (qe U qk)) U ?_;refine su (qt U Tryz.underlying170 ty37 z37 U (qx U (qx U jp)) U (by simp []) (by decide)) U ?_;refine su (qg U qjy U (qk0 [r1, (qbl a2)]) (qe U qk)) U<|sa U U<|qd<|qb<|qa [.p, .p]<|sm U U<|su (zx U U U) U<|qd ?_;refine ql _ U (fun h1 => ?_) (fun h1 => ?_)
 ·replace h1 : (decide ((vr [r1, (qbl a2)]) ≠ 0)) = true := h1;replace hR := zk hR h1;(try simp only [bB] at h1);refine qb<|qa [.p, .p, .p]<|sm U U<|sa U U<|sa U U<|qd<|qo ?_;obtain rfl := Option.some.inj hR;exact resN U ⟨rv_g U, rv_g U, O⟩ (by simp)
 ·replace h1 : (decide ((vr [r1, (qbl a2)]) ≠ 0)) = false := h1;replace hR := zl hR h1;(try simp only [bB] at h1);obtain ⟨hlen, hlim, hms, hmv, hmo⟩ := qsq hb br1 h1;refine qn<|qb ?_;obtain ⟨r2, br2, hR⟩ := qh hR;refine qa [.p, .p, .p, .p, .p, .p]<|sm U U<|sm U U<|su (qr U z7 U U U) U<|su (qg U q88 U (zbw a0 a1 a2 (by omega) hlim hms hmo.m0 hmo.m1 br2) (qe U (qe U (qe U qk)))) U<|sa U U<|sa U U<|qd<|qo ?_;obtain rfl := Option.some.inj hR;exact resN U ⟨rv_g U, rv_g U, O⟩ (by simp)
def qh8  : List Int → Nat → Int
 | [], k2 => 0
 | y3 :: t4, k2 => (bif decide (y3 ≠ 0) then y3 else qh8  t4 (k2 + 1))
def s176 (a0 : List Int) : Int :=
 qh8 a0 0
theorem c176 {g : GL} (a0 : List Int)    : Con (EG g) 142 [G.sl 1 (List.map cInt a0)] (G.int (s176 a0)) := by
 generalize hR : s176 a0 = R;unfold s176 at hR;refine qm Tryz.func142 U U fun w0 M0 => ?_;refine zu (f := cInt) (l := a0) 0 U fun hla0 => ?_;refine qb<|qa [.p]<|sa U U<|qd<|qb<|qa [.p]<|sa U U<|qd<|qb<|qb<|qa [.p, .p, .p]<|sm U U<|su (zb (f := cInt) (l := a0) U Tryz.underlying38 U) U<|sm U U<|qd<|qp<|zf (γ := Nat × (List Int)) (fun g => ([(3, .g (G.int 0)), (6, .g (G.sl 1 (List.map cInt a0))), (7, .g (G.int (List.length a0 : Int))), (8, .g (G.int ((g.1 : Nat) : Int)))], [])) (fun g => a0.drop g.1 = g.2 ∧ qh8  g.2 g.1 = R) (fun g => List.length g.2) ⟨U, (0, a0), jA, O, U, ⟨U, (by exact hR)⟩, O⟩ ?_
 ·rintro ⟨k2, t4⟩ ⟨hd, hR⟩;replace hd : a0.drop k2 = t4 := hd;replace hR : qh8  t4 k2 = R := hR;refine qb<|qa [.p]<|su (zd U U U) U<|qd ?_;refine zu (f := cInt) (l := a0) 6 U fun hlz1 => ?_;refine qb ?_;refine ql _ U (fun h1 => ?_) (fun h1 => ?_)
  ·replace h1 : (decide (((k2 : Nat) : Int) < (List.length a0 : Int))) = true := h1;obtain ⟨y3, t4, rfl, hx1, hd⟩ := zq hd (decT h1);replace h1 := decT h1;rw [qh8] at hR;(try dsimp only at hR);refine qn<|qb<|qp<|qb<|qa [.p, .p, .p]<|su (z5 (f := cInt) (l := a0) (a := y3) U Tryz.underlying38 ty3 U U (Int.natCast_nonneg _) hx1) U<|su (qf U ty3 U) U<|sa U U<|qd<|qb<|qa [.p, .p, .p]<|sm U U<|sm U U<|su (zx U U U) U<|qd ?_;refine ql _ U (fun h3 => ?_) (fun h3 => ?_)
   ·replace hR := zk hR h3;refine qb<|qa [.p, .p]<|sm U U<|sa U U<|qd<|qo ?_;subst hR;exact za U (rv_g U)
   ·replace h3 : (decide (y3 ≠ 0)) = false := h3;replace hR := zl hR h3;(try simp only [bB] at h3);refine qn<|qa [.p, .p]<|su (zn U U U iE) U<|sm U U<|qd ?_;exact ⟨U, (k2 + 1, t4), jA, O, U, ⟨hd, hR⟩, by simp⟩
  ·replace h1 : (decide (((k2 : Nat) : Int) < (List.length a0 : Int))) = false := h1;obtain rfl := zz hd (decF h1);rw [qh8] at hR;refine zw<|qb<|qa [.p, .p]<|sm U U<|sa U U<|qd<|qo ?_;subst hR;exact za U (rv_g U)
def qp9 (a0 : S1079) (a1 : S1079) : Int :=
 (s176 [(s167 a0.Moment a1.Moment), (s133 a0.Kind a1.Kind), (s133 a0.Name a1.Name)])
theorem zcg {g : GL} (a0 : S1079) (a1 : S1079)    : Con (EG g) 150 [G.agg (S1079.c a0), G.agg (S1079.c a1)] (G.int (qp9 a0 a1)) := by
 generalize hR : qp9 a0 a1 = R;unfold qp9 at hR;refine qm Tryz.func150 U U fun w0 M0 => ?_;refine qb<|qa [.p, .p, .p]<|su (zi U U) U<|su (zi U U) U<|sa U U<|qd<|qb<|zr [.p, .p, .p, .p, .p, .p, .p, .p, .p, .p, .p, .p, .p, .p, .p, .p, .p, .p] (by kernel_rfl)<|su (qc U wd U) U<|su (qf U ty3 U) U<|su (qc U wd U) U<|su (qf U ty3 U) U<|su (qg U K167 U (c167 a0.Moment a1.Moment) (qe U (qe U qk))) U<|su (qc U qcz U) U<|su (qf U ty9 U) U<|su (qc U qcz U) U<|su (qf U ty9 U) U<|su (qg U K133 U (c133 a0.Kind a1.Kind) (qe U (qe U qk))) U<|su (qc U qnc U) U<|su (qf U ty9 U) U<|su (qc U qnc U) U<|su (qf U ty9 U) U<|su (qg U K133 U (c133 a0.Name a1.Name) (qe U (qe U qk))) U ?_;refine su (qt U Tryz.underlying38 ty3 z3 U (qx U (qx U (qx U jp))) U (by simp []) (by decide)) U ?_;refine su (qg U K176 U (c176 [(s167 a0.Moment a1.Moment), (s133 a0.Kind a1.Kind), (s133 a0.Name a1.Name)]) (qe U qk)) U<|sa U U<|qd<|qo ?_;subst hR;exact za U (rv_g U)
def qa2 (a0 : S45) : Int × Int :=
 ((List.length ((s69 a0).1) : Int), (s69 a0).2)
theorem q7s {g : GL} (a0 : S45)    : Con (EG g) 90 [G.agg (S45.c a0)] (G.tup [G.int ((qa2 a0).1), G.int ((qa2 a0).2)]) := by
 generalize hR : qa2 a0 = R;unfold qa2 at hR;refine qm Tryz.func90 U U fun w0 M0 => ?_;refine qb<|qa [.p, .p, .p]<|su (zi U U) U<|sa U U<|sa U U<|qd<|qb<|qa [.p, .p, .p, .p, .p, .p, .p]<|su (qr U ty46 U U U) U<|su (qg U K69 U (c69' a0) (qe U qk)) U<|sm U U<|su (qv U U U) U<|su (qv U U U) U<|sa U U<|sa U U<|qd<|qb<|qa [.p, .p, .p, .p, .p]<|sm U U<|su (zb (f := cInt) (l := (s69 a0).1) U Tryz.underlying38 U) U<|sm U U<|sa U U<|sa U U<|qd<|qo ?_;subst hR;exact resN U ⟨rv_g U, rv_g U, O⟩ (by simp)
def qcd  : List Int → Nat → Int
 | [], k2 => 0
 | y3 :: t4, k2 => (bif decide (y3 ≠ 0) then y3 else qcd  t4 (k2 + 1))
def vu (a0 : List Int) : Int :=
 qcd a0 0
theorem qjc {g : GL} (a0 : List Int)    : Con (EG g) 49 [G.sl 1 (List.map cInt a0)] (G.int (vu a0)) := by
 generalize hR : vu a0 = R;unfold vu at hR;refine qm Tryz.func49 U U fun w0 M0 => ?_;refine zu (f := cInt) (l := a0) 0 U fun hla0 => ?_;refine qb<|qa [.p]<|sa U U<|qd<|qb<|qb<|qa [.p, .p, .p]<|sm U U<|su (zb (f := cInt) (l := a0) U Tryz.underlying170 U) U<|sm U U<|qd<|qp<|zf (γ := Nat × (List Int)) (fun g => ([(5, .g (G.sl 1 (List.map cInt a0))), (6, .g (G.int (List.length a0 : Int))), (7, .g (G.int ((g.1 : Nat) : Int)))], [])) (fun g => a0.drop g.1 = g.2 ∧ qcd  g.2 g.1 = R) (fun g => List.length g.2) ⟨U, (0, a0), ⟨U, U, U, O⟩, O, U, ⟨U, (by exact hR)⟩, O⟩ ?_
 ·rintro ⟨k2, t4⟩ ⟨hd, hR⟩;replace hd : a0.drop k2 = t4 := hd;replace hR : qcd  t4 k2 = R := hR;refine qb<|qa [.p]<|su (zd U U U) U<|qd ?_;refine zu (f := cInt) (l := a0) 5 U fun hlz1 => ?_;refine qb ?_;refine ql _ U (fun h1 => ?_) (fun h1 => ?_)
  ·replace h1 : (decide (((k2 : Nat) : Int) < (List.length a0 : Int))) = true := h1;obtain ⟨y3, t4, rfl, hx1, hd⟩ := zq hd (decT h1);replace h1 := decT h1;rw [qcd] at hR;(try dsimp only at hR);refine qn<|qb<|qp<|qb<|qa [.p, .p, .p]<|su (z5 (f := cInt) (l := a0) (a := y3) U Tryz.underlying170 ty37 U U (Int.natCast_nonneg _) hx1) U<|su (qf U ty37 U) U<|sa U U<|qd<|qb<|qa [.p, .p]<|sm U U<|su (zx U U U) U<|qd ?_;refine ql _ U (fun h3 => ?_) (fun h3 => ?_)
   ·replace hR := zk hR h3;refine qb<|qa [.p, .p]<|sm U U<|sa U U<|qd<|qo ?_;subst hR;exact za U (rv_g U)
   ·replace h3 : (decide (y3 ≠ 0)) = false := h3;replace hR := zl hR h3;(try simp only [bB] at h3);refine qn<|qa [.p, .p]<|su (zn U U U iE) U<|sm U U<|qd ?_;exact ⟨U, (k2 + 1, t4), ⟨U, U, U, O⟩, O, U, ⟨hd, hR⟩, by simp⟩
  ·replace h1 : (decide (((k2 : Nat) : Int) < (List.length a0 : Int))) = false := h1;obtain rfl := zz hd (decF h1);rw [qcd] at hR;refine zw<|qb<|qa [.p]<|sa U U<|qd<|qo ?_;subst hR;exact za U (rv_g U)
def jv (a0 : Bool) (a1 : Int) : Int :=
 (bif a0 then a1 else 0)
theorem qfh {g : GL} (a0 : Bool) (a1 : Int)    : Con (EG g) 83 [G.bool a0, G.int a1] (G.int (jv a0 a1)) := by
 generalize hR : jv a0 a1 = R;unfold jv at hR;refine qm Tryz.func83 U U fun w0 M0 => ?_;refine qb<|qa [.p]<|sa U U<|qd<|qb<|qb<|qa [.p]<|sm U U<|qd ?_;refine ql _ U (fun h1 => ?_) (fun h1 => ?_)
 ·replace hR := zk hR h1;refine qb<|qa [.p, .p]<|sm U U<|sa U U<|qd<|qo ?_;subst hR;exact za U (rv_g U)
 ·replace hR := zl hR h1;refine qn<|qb<|qa [.p]<|sa U U<|qd<|qo ?_;subst hR;exact za U (rv_g U)
def qqa (a0 : Int) (a1 : Int) (a2 : Int) : Int :=
 (jv ((decide (a0 < a1)) || (decide (a2 < a0))) 3)
theorem q7t {g : GL} (a0 : Int) (a1 : Int) (a2 : Int)    : Con (EG g) 145 [G.int a0, G.int a1, G.int a2] (G.int (qqa a0 a1 a2)) := by
 generalize hR : qqa a0 a1 a2 = R;unfold qqa at hR;refine qm Tryz.func145 U U fun w0 M0 => ?_;refine qb<|qa [.p]<|sa rfl rfl<|qd<|qb<|qa [.p, .p, .p, .p, .p, .p, .p, .p, .p, .p]<|sm rfl rfl<|sm rfl rfl<|su (zd rfl rfl rfl) rfl<|sm rfl rfl<|sg rfl rfl (fun h => qj rfl rfl) rfl<|sg rfl rfl (fun h => qj rfl rfl) rfl<|sg rfl rfl (fun h => zy rfl (gd h rfl) (gd h rfl)) rfl<|su (jg rfl rfl rfl rfl) rfl<|su (qg rfl qfc rfl (qfh ((decide (a0 < a1)) || (decide (a2 < a0))) 3) (qe rfl (qe rfl qk))) rfl<|sa rfl rfl<|qd<|qo ?_;subst hR;exact za U (rv_g U)
def qjb (a0 : Int) : Int :=
 (qqa a0 0 99999)
theorem q41 {g : GL} (a0 : Int)    : Con (EG g) 87 [G.int a0] (G.int (qjb a0)) := by
 generalize hR : qjb a0 = R;unfold qjb at hR;refine qm Tryz.func87 U U fun w0 M0 => ?_;refine qb<|qa [.p]<|sa U U<|qd<|qb<|qa [.p, .p, .p]<|sm U U<|su (qg U q59 U (q7t a0 0 99999) (qe U (qe U (qe U qk)))) U<|sa U U<|qd<|qo ?_;subst hR;exact za U (rv_g U)
def qct (a0 : ByteArray) : Int :=
 (jv (!(s147 a0)) 8)
theorem q0k {g : GL} (a0 : ByteArray)    : Con (EG g) 118 [G.str a0] (G.int (qct a0)) := by
 generalize hR : qct a0 = R;unfold qct at hR;refine qm Tryz.func118 U U fun w0 M0 => ?_;refine qb<|qa [.p]<|sa U U<|qd<|qb<|qa [.p, .p, .p, .p, .p]<|sm U U<|su (qg U K147 U (c147 a0) (qe U qk)) U<|su (jo U U) U<|su (qg U qfc U (qfh (!(s147 a0)) 8) (qe U (qe U qk))) U<|sa U U<|qd<|qo ?_;subst hR;exact za U (rv_g U)
def qhw (a0 : S5100) (a1 : ByteArray) : Bool :=
 decide (a0.Request.Name = a1)
theorem zch {g : GL} (a0 : S5100) (a1 : ByteArray)    : Con (EG g) 117 [G.agg [G.str a0.Request.Name, G.str a0.Request.Carrier, G.str a0.Request.Kind, G.str a0.Request.Terminal, G.str a0.Request.Partner, G.str a0.Request.Link, G.int a0.Request.Period.fFrom, G.int a0.Request.Period.fTo, G.int a0.Request.Period.Days, G.int a0.Request.Minute, G.int a0.Request.Seats, G.int a0.Request.Size, G.int a0.Request.Noise, G.str a0.Holder, G.sl 3 (List.map S5102.c a0.Leases), G.sl 1 (List.map cStr a0.Shares)], G.ref [G.str a1]] (G.bool (qhw a0 a1)) := by
 generalize hR : qhw a0 a1 = R;unfold qhw at hR;refine qm Tryz.func117 U U fun w0 M0 => ?_;refine qb<|qa [.p, .p]<|su (zi U U) U<|sa U U<|qd<|qb<|qa [.p, .p, .p, .p, .p, .p]<|su (qc U qbq U) U<|su (qc U kh U) U<|su (qf U ty9 U) U<|su (qf U ty9 U) U<|su (vk U U U) U<|sa U U<|qd<|qo ?_;subst hR;exact za U (rv_g U)
def xc (a1 : S5100 → Bool) : List S5100 → Nat → Int
 | [], k2 => (-1)
 | y3 :: t4, k2 => (bif (a1 y3) then ((k2 : Nat) : Int) else xc a1 t4 (k2 + 1))
def qp1 (a0 : List S5100) (a1 : S5100 → Bool) : Int :=
 xc a1 a0 0
theorem zci {g : GL} (a0 : List S5100) (a1 : S5100 → Bool) {ca1 : G} {ia1 : FuncId} {ka1 : List G} (ha1 : FnIs ca1 ia1 ka1) (Ka1 : ze Tryz.prog ia1) (Ha1 : ∀ (x0 : S5100), Con (EG g) ia1 ([G.agg [G.str x0.Request.Name, G.str x0.Request.Carrier, G.str x0.Request.Kind, G.str x0.Request.Terminal, G.str x0.Request.Partner, G.str x0.Request.Link, G.int x0.Request.Period.fFrom, G.int x0.Request.Period.fTo, G.int x0.Request.Period.Days, G.int x0.Request.Minute, G.int x0.Request.Seats, G.int x0.Request.Size, G.int x0.Request.Noise, G.str x0.Holder, G.sl 3 (List.map S5102.c x0.Leases), G.sl 1 (List.map cStr x0.Shares)]] ++ ka1) (G.bool (a1 x0)))   : Con (EG g) 116 [G.sl 16 (List.map S5100.c a0), ca1] (G.int (qp1 a0 a1)) := by
 generalize hR : qp1 a0 a1 = R;unfold qp1 at hR;refine qm Tryz.func116 U U fun w0 M0 => ?_;refine zu (f := S5100.c) (l := a0) 0 U fun hla0 => ?_;refine qb<|qa [.p]<|sa U U<|qd<|qb<|qb<|qa [.p, .p, .p]<|sm U U<|su (zb (f := S5100.c) (l := a0) U Tryz.underlying40 U) U<|sm U U<|qd<|qp<|zf (γ := Nat × (List S5100)) (fun g => ([(0, .g (G.sl 16 (List.map S5100.c a0))), (1, .g (ca1)), (7, .g (G.int (List.length a0 : Int))), (8, .g (G.int ((g.1 : Nat) : Int)))], [])) (fun g => a0.drop g.1 = g.2 ∧ xc a1 g.2 g.1 = R) (fun g => List.length g.2) ⟨U, (0, a0), jA, O, U, ⟨U, (by exact hR)⟩, O⟩ ?_
 ·rintro ⟨k2, t4⟩ ⟨hd, hR⟩;replace hd : a0.drop k2 = t4 := hd;replace hR : xc a1 t4 k2 = R := hR;refine qb<|qa [.p]<|su (zd U U U) U<|qd ?_;refine zu (f := S5100.c) (l := a0) 0 U fun hlz1 => ?_;refine qb ?_;refine ql _ U (fun h1 => ?_) (fun h1 => ?_)
  ·replace h1 : (decide (((k2 : Nat) : Int) < (List.length a0 : Int))) = true := h1;obtain ⟨y3, t4, rfl, hx1, hd⟩ := zq hd (decT h1);replace h1 := decT h1;rw [xc] at hR;(try dsimp only at hR);refine qn<|qb<|qp<|qb<|qa [.p, .p]<|sm U U<|sa U U<|qd<|qb<|qa [.p, .p, .p, .p, .p, .p]<|sm U U<|sm U U<|sm U U<|su (z5 (f := S5100.c) (l := a0) (a := y3) U Tryz.underlying40 xd U U (Int.natCast_nonneg _) hx1) U<|su (qr U xd U U U) U<|su (xi U ha1 Ka1 U (Ha1 y3) (qe U qk)) U<|qd ?_;refine ql _ U (fun h3 => ?_) (fun h3 => ?_)
   ·replace hR := zk hR h3;refine qb<|qa [.p, .p]<|sm U U<|sa U U<|qd<|qo ?_;subst hR;exact za U (rv_g U)
   ·replace h3 : ((a1 y3)) = false := h3;replace hR := zl hR h3;(try simp only [bB] at h3);refine qn<|qa [.p, .p]<|su (zn U U U iE) U<|sm U U<|qd ?_;exact ⟨U, (k2 + 1, t4), jA, O, U, ⟨hd, hR⟩, by simp⟩
  ·replace h1 : (decide (((k2 : Nat) : Int) < (List.length a0 : Int))) = false := h1;obtain rfl := zz hd (decF h1);rw [xc] at hR;refine zw<|qb<|qa [.p]<|sa U U<|qd<|qo ?_;subst hR;exact za U (rv_g U)
def wv (a0 : S5042) (a1 : ByteArray) : Int :=
 (qp1 a0.Slots (fun x0 => qhw x0 a1))
theorem q0l {g : GL} (a0 : S5042) (a1 : ByteArray)    : Con (EG g) 57 [G.agg [G.sl 16 (List.map S5100.c a0.Slots), G.sl 14 (List.map S5072.c a0.Waiting)], G.str a1] (G.int (wv a0 a1)) := by
 generalize hR : wv a0 a1 = R;unfold wv at hR;refine qm Tryz.func57 U U fun w0 M0 => ?_;refine qb<|qa [.p, .p, .p]<|su (zi U U) U<|su (zi U U) U<|sa U U<|qd<|qb<|qa [.p, .p, .p, .p, .p]<|su (qc U xw U) U<|su (qf U qc1 U) U<|su (qas U U U) U<|su (qg U zam U (zci a0.Slots (fun x0 => qhw x0 a1) qho zan (fun x0 => zch x0 a1)) (qe U (qe U qk))) U<|sa U U<|qd<|qo ?_;subst hR;exact za U (rv_g U)
def qk3 (a0 : S5042) (a1 : ByteArray) : Int :=
 (jv (decide ((wv a0 a1) < 0)) 10)
theorem zcj {g : GL} (a0 : S5042) (a1 : ByteArray)    : Con (EG g) 56 [G.agg [G.sl 16 (List.map S5100.c a0.Slots), G.sl 14 (List.map S5072.c a0.Waiting)], G.str a1] (G.int (qk3 a0 a1)) := by
 generalize hR : qk3 a0 a1 = R;unfold qk3 at hR;refine qm Tryz.func56 U U fun w0 M0 => ?_;refine qb<|qa [.p, .p]<|su (zi U U) U<|sa U U<|qd<|qb<|qa [.p, .p, .p, .p, .p, .p]<|su (qr U jc U U U) U<|sm U U<|su (qg U qyo U (q0l a0 a1) (qe U (qe U qk))) U<|su (zd U U U) U<|su (qg U qfc U (qfh (decide ((wv a0 a1) < 0)) 10) (qe U (qe U qk))) U<|sa U U<|qd<|qo ?_;subst hR;exact za U (rv_g U)
def qug (a0 : S5072) (a1 : ByteArray) : Bool :=
 decide (a0.Request.Name = a1)
theorem zck {g : GL} (a0 : S5072) (a1 : ByteArray)    : Con (EG g) 155 [G.agg (S5072.c a0), G.ref [G.str a1]] (G.bool (qug a0 a1)) := by
 generalize hR : qug a0 a1 = R;unfold qug at hR;refine qm Tryz.func155 U U fun w0 M0 => ?_;refine qb<|qa [.p, .p]<|su (zi U U) U<|sa U U<|qd<|qb<|qa [.p, .p, .p, .p, .p, .p]<|su (qc U qeo U) U<|su (qc U kh U) U<|su (qf U ty9 U) U<|su (qf U ty9 U) U<|su (vk U U U) U<|sa U U<|qd<|qo ?_;subst hR;exact za U (rv_g U)
def qce (a1 : S5072 → Bool) : List S5072 → Nat → Int
 | [], k2 => (-1)
 | y3 :: t4, k2 => (bif (a1 y3) then ((k2 : Nat) : Int) else qce a1 t4 (k2 + 1))
def qxf (a0 : List S5072) (a1 : S5072 → Bool) : Int :=
 qce a1 a0 0
theorem zcl {g : GL} (a0 : List S5072) (a1 : S5072 → Bool) {ca1 : G} {ia1 : FuncId} {ka1 : List G} (ha1 : FnIs ca1 ia1 ka1) (Ka1 : ze Tryz.prog ia1) (Ha1 : ∀ (x0 : S5072), Con (EG g) ia1 ([G.agg (S5072.c x0)] ++ ka1) (G.bool (a1 x0)))   : Con (EG g) 188 [G.sl 14 (List.map S5072.c a0), ca1] (G.int (qxf a0 a1)) := by
 generalize hR : qxf a0 a1 = R;unfold qxf at hR;refine qm Tryz.func188 U U fun w0 M0 => ?_;refine zu (f := S5072.c) (l := a0) 0 U fun hla0 => ?_;refine qb<|qa [.p]<|sa U U<|qd<|qb<|qb<|qa [.p, .p, .p]<|sm U U<|su (zb (f := S5072.c) (l := a0) U Tryz.underlying41 U) U<|sm U U<|qd<|qp<|zf (γ := Nat × (List S5072)) (fun g => ([(0, .g (G.sl 14 (List.map S5072.c a0))), (1, .g (ca1)), (7, .g (G.int (List.length a0 : Int))), (8, .g (G.int ((g.1 : Nat) : Int)))], [])) (fun g => a0.drop g.1 = g.2 ∧ qce a1 g.2 g.1 = R) (fun g => List.length g.2) ⟨U, (0, a0), jA, O, U, ⟨U, (by exact hR)⟩, O⟩ ?_
 ·rintro ⟨k2, t4⟩ ⟨hd, hR⟩;replace hd : a0.drop k2 = t4 := hd;replace hR : qce a1 t4 k2 = R := hR;refine qb<|qa [.p]<|su (zd U U U) U<|qd ?_;refine zu (f := S5072.c) (l := a0) 0 U fun hlz1 => ?_;refine qb ?_;refine ql _ U (fun h1 => ?_) (fun h1 => ?_)
  ·replace h1 : (decide (((k2 : Nat) : Int) < (List.length a0 : Int))) = true := h1;obtain ⟨y3, t4, rfl, hx1, hd⟩ := zq hd (decT h1);replace h1 := decT h1;rw [qce] at hR;(try dsimp only at hR);refine qn<|qb<|qp<|qb<|qa [.p, .p]<|sm U U<|sa U U<|qd<|qb<|qa [.p, .p, .p, .p, .p, .p]<|sm U U<|sm U U<|sm U U<|su (z5 (f := S5072.c) (l := a0) (a := y3) U Tryz.underlying41 qfj U U (Int.natCast_nonneg _) hx1) U<|su (qr U qfj U U U) U<|su (xi U ha1 Ka1 U (Ha1 y3) (qe U qk)) U<|qd ?_;refine ql _ U (fun h3 => ?_) (fun h3 => ?_)
   ·replace hR := zk hR h3;refine qb<|qa [.p, .p]<|sm U U<|sa U U<|qd<|qo ?_;subst hR;exact za U (rv_g U)
   ·replace h3 : ((a1 y3)) = false := h3;replace hR := zl hR h3;(try simp only [bB] at h3);refine qn<|qa [.p, .p]<|su (zn U U U iE) U<|sm U U<|qd ?_;exact ⟨U, (k2 + 1, t4), jA, O, U, ⟨hd, hR⟩, by simp⟩
  ·replace h1 : (decide (((k2 : Nat) : Int) < (List.length a0 : Int))) = false := h1;obtain rfl := zz hd (decF h1);rw [qce] at hR;refine zw<|qb<|qa [.p]<|sa U U<|qd<|qo ?_;subst hR;exact za U (rv_g U)
def qxg (a0 : List S5072) (a1 : S5072 → Bool) : Bool :=
 decide (0 ≤ (qxf a0 a1))
theorem zcm {g : GL} (a0 : List S5072) (a1 : S5072 → Bool) {ca1 : G} {ia1 : FuncId} {ka1 : List G} (ha1 : FnIs ca1 ia1 ka1) (Ka1 : ze Tryz.prog ia1) (Ha1 : ∀ (x0 : S5072), Con (EG g) ia1 ([G.agg (S5072.c x0)] ++ ka1) (G.bool (a1 x0)))   : Con (EG g) 154 [G.sl 14 (List.map S5072.c a0), ca1] (G.bool (qxg a0 a1)) := by
 generalize hR : qxg a0 a1 = R;unfold qxg at hR;refine qm Tryz.func154 U U fun w0 M0 => ?_;refine zu (f := S5072.c) (l := a0) 0 U fun hla0 => ?_;refine qb<|qa [.p]<|sa U U<|qd<|qb<|qa [.p, .p, .p, .p, .p]<|sm U U<|sm U U<|su (qg U za1 U (zcl a0 a1 ha1 Ka1 Ha1) (qe U (qe U qk))) U<|su (xo U U U) U<|sa U U<|qd<|qo ?_;subst hR;exact za U (rv_g U)
def qfg (a0 : S5042) (a1 : ByteArray) : Bool :=
 (decide (0 ≤ (wv a0 a1))) || (qxg a0.Waiting (fun x0 => qug x0 a1))
theorem zcn {g : GL} (a0 : S5042) (a1 : ByteArray)    : Con (EG g) 109 [G.agg [G.sl 16 (List.map S5100.c a0.Slots), G.sl 14 (List.map S5072.c a0.Waiting)], G.str a1] (G.bool (qfg a0 a1)) := by
 generalize hR : qfg a0 a1 = R;unfold qfg at hR;refine qm Tryz.func109 U U fun w0 M0 => ?_;refine qb<|qa [.p, .p, .p]<|su (zi U U) U<|su (zi U U) U<|sa U U<|qd<|qb<|qa [.p, .p, .p, .p, .p, .p, .p, .p, .p, .p, .p]<|su (qr U jc U U U) U<|su (qf U ty9 U) U<|su (qg U qyo U (q0l a0 a1) (qe U (qe U qk))) U<|su (xo U U U) U<|sm U U<|sg U U (fun h => qc U qcy U) U<|sg U U (fun h => qf U qie (gd h U)) U<|sg U U (fun h => qas U U U) U<|sg U U (fun h => qg U zau U (zcm a0.Waiting (fun x0 => qug x0 a1) qho zav (fun x0 => zck x0 a1)) (qe (gd h U) (qe (gd h U) qk))) U<|su (jg U U U U) U<|sa U U<|qd<|qo ?_;subst hR;exact za U (rv_g U)
def qh9 (a0 : S5072) (a1 : S5072) : Int :=
 (s176 [(s167 a0.Rank a1.Rank), (s133 a0.Request.Name a1.Request.Name)])
theorem zco {g : GL} (a0 : S5072) (a1 : S5072)    : Con (EG g) 84 [G.agg (S5072.c a0), G.agg (S5072.c a1)] (G.int (qh9 a0 a1)) := by
 generalize hR : qh9 a0 a1 = R;unfold qh9 at hR;refine qm Tryz.func84 U U fun w0 M0 => ?_;refine qb<|qa [.p, .p, .p]<|su (zi U U) U<|su (zi U U) U<|sa U U<|qd<|qb<|zr [.p, .p, .p, .p, .p, .p, .p, .p, .p, .p, .p, .p, .p, .p, .p] (by kernel_rfl)<|su (qc U qm8 U) U<|su (qf U ty3 U) U<|su (qc U qm8 U) U<|su (qf U ty3 U) U<|su (qg U K167 U (c167 a0.Rank a1.Rank) (qe U (qe U qk))) U<|su (qc U qeo U) U<|su (qc U kh U) U<|su (qf U ty9 U) U<|su (qc U qeo U) U<|su (qc U kh U) U<|su (qf U ty9 U) U<|su (qg U K133 U (c133 a0.Request.Name a1.Request.Name) (qe U (qe U qk))) U ?_;refine su (qt U Tryz.underlying38 ty3 z3 U (qx U (qx U jp)) U (by simp []) (by decide)) U ?_;refine su (qg U K176 U (c176 [(s167 a0.Rank a1.Rank), (s133 a0.Request.Name a1.Request.Name)]) (qe U qk)) U<|sa U U<|qd<|qo ?_;subst hR;exact za U (rv_g U)
def qdt (a0 : S115) : Int :=
 (bif decide ((qqb a0) ≠ 0) then (qqb a0) else (vu [(qa2 a0.Period).2, (jv (decide ((qa2 a0.Period).1 = 0)) 12)]))
theorem q42 {g : GL} (a0 : S115)    : Con (EG g) 108 [G.agg (S115.c a0)] (G.int (qdt a0)) := by
 generalize hR : qdt a0 = R;unfold qdt at hR;refine qm Tryz.func108 U U fun w0 M0 => ?_;refine qb<|qa [.p, .p]<|su (zi U U) U<|sa U U<|qd<|qb<|qb<|qa [.p, .p, .p]<|su (qr U qab U U U) U<|su (qg U q9k U (zcp a0) (qe U qk)) U<|sa U U<|qd<|qb<|qa [.p, .p]<|sm U U<|su (zx U U U) U<|qd ?_;refine ql _ U (fun h1 => ?_) (fun h1 => ?_)
 ·replace hR := zk hR h1;refine qb<|qa [.p, .p]<|sm U U<|sa U U<|qd<|qo ?_;subst hR;exact za U (rv_g U)
 ·replace h1 : (decide ((qqb a0) ≠ 0)) = false := h1;replace hR := zl hR h1;(try simp only [bB] at h1);refine qn<|qb<|qa [.p, .p, .p, .p, .p, .p, .p, .p]<|su (qc U vt U) U<|su (qr U ty46 U U U) U<|su (qg U q5x U (q7s a0.Period) (qe U qk)) U<|sm U U<|su (qv U U U) U<|su (qv U U U) U<|sa U U<|sa U U<|qd<|qb<|qa [.p, .p, .p, .p, .p, .p, .p]<|sm U U<|sm U U<|su (jn U U U) U<|su (qg U qfc U (qfh (decide ((qa2 a0.Period).1 = 0)) 12) (qe U (qe U qk))) U ?_;refine su (qt U Tryz.underlying170 ty37 z37 U (qx U (qx U jp)) U (by simp []) (by decide)) U ?_;refine su (qg U qip U (qjc [(qa2 a0.Period).2, (jv (decide ((qa2 a0.Period).1 = 0)) 12)]) (qe U qk)) U<|sa U U<|qd<|qo ?_;subst hR;exact za U (rv_g U)
def qlp (a0 : S5102) : Int :=
 (vu [(qct a0.Carrier), (qjb a0.fFrom), (qjb a0.fTo), (jv (decide (a0.fTo < a0.fFrom)) 11)])
theorem zcq {g : GL} (a0 : S5102)    : Con (EG g) 140 [G.agg (S5102.c a0)] (G.int (qlp a0)) := by
 generalize hR : qlp a0 = R;unfold qlp at hR;refine qm Tryz.func140 U U fun w0 M0 => ?_;refine qb<|qa [.p, .p]<|su (zi U U) U<|sa U U<|qd<|qb<|zr [.p, .p, .p, .p, .p, .p, .p, .p, .p, .p, .p, .p, .p, .p, .p, .p, .p, .p] (by kernel_rfl)<|su (qc U qm7 U) U<|su (qf U ty9 U) U<|su (qg U qyp U (q0k a0.Carrier) (qe U qk)) U<|su (qc U qem U) U<|su (qf U ty3 U) U<|su (qg U q23 U (q41 a0.fFrom) (qe U qk)) U<|su (qc U qen U) U<|su (qf U ty3 U) U<|su (qg U q23 U (q41 a0.fTo) (qe U qk)) U<|su (qc U qem U) U<|su (qf U ty3 U) U<|su (qc U qen U) U<|su (qf U ty3 U) U<|su (zy U U U) U<|su (qg U qfc U (qfh (decide (a0.fTo < a0.fFrom)) 11) (qe U (qe U qk))) U ?_;refine su (qt U Tryz.underlying170 ty37 z37 U (qx U (qx U (qx U (qx U jp)))) U (by simp []) (by decide)) U ?_;refine su (qg U qip U (qjc [(qct a0.Carrier), (qjb a0.fFrom), (qjb a0.fTo), (jv (decide (a0.fTo < a0.fFrom)) 11)]) (qe U qk)) U<|sa U U<|qd<|qo ?_;subst hR;exact za U (rv_g U)
def qlq (a0 : S5102) (a1 : S5100) : Int :=
 (vu [(jv ((decide (a0.fFrom < a1.Request.Period.fFrom)) || (decide (a1.Request.Period.fTo < a0.fTo))) 30), (jv (decide (a0.Carrier = a1.Holder)) 31)])
theorem zcr {g : GL} (a0 : S5102) (a1 : S5100)    : Con (EG g) 141 [G.agg (S5102.c a0), G.agg [G.str a1.Request.Name, G.str a1.Request.Carrier, G.str a1.Request.Kind, G.str a1.Request.Terminal, G.str a1.Request.Partner, G.str a1.Request.Link, G.int a1.Request.Period.fFrom, G.int a1.Request.Period.fTo, G.int a1.Request.Period.Days, G.int a1.Request.Minute, G.int a1.Request.Seats, G.int a1.Request.Size, G.int a1.Request.Noise, G.str a1.Holder, G.sl 3 (List.map S5102.c a1.Leases), G.sl 1 (List.map cStr a1.Shares)]] (G.int (qlq a0 a1)) := by
 generalize hR : qlq a0 a1 = R;unfold qlq at hR;refine qm Tryz.func141 U U fun w0 M0 => ?_;refine qb<|qa [.p, .p, .p]<|su (zi rfl rfl) rfl<|su (zi rfl rfl) rfl<|sa rfl rfl<|qd<|qb<|zr [.p, .p, .p, .p, .p, .p, .p, .p, .p, .p, .p, .p, .p, .p, .p, .p, .p, .p, .p, .p, .p, .p, .p, .p, .p, .p] (by kernel_rfl)<|su (qc rfl qem rfl) rfl<|su (qf rfl ty3 rfl) rfl<|su (qc rfl qbq rfl) rfl<|su (qc rfl vt rfl) rfl<|su (qc rfl qa3 rfl) rfl<|su (qf rfl ty3 rfl) rfl<|su (zd rfl rfl rfl) rfl<|sm rfl rfl<|sg rfl rfl (fun h => qc rfl qen rfl) rfl<|sg rfl rfl (fun h => qf rfl ty3 (gd h rfl)) rfl<|sg rfl rfl (fun h => qc rfl qbq rfl) rfl<|sg rfl rfl (fun h => qc rfl vt (gd h rfl)) rfl<|sg rfl rfl (fun h => qc rfl qa4 (gd h rfl)) rfl<|sg rfl rfl (fun h => qf rfl ty3 (gd h rfl)) rfl<|sg rfl rfl (fun h => zy rfl (gd h rfl) (gd h rfl)) rfl<|su (jg rfl rfl rfl rfl) rfl<|su (qg rfl qfc rfl (qfh ((decide (a0.fFrom < a1.Request.Period.fFrom)) || (decide (a1.Request.Period.fTo < a0.fTo))) 30) (qe rfl (qe rfl qk))) rfl<|su (qc rfl qm7 rfl) rfl<|su (qf rfl ty9 rfl) rfl<|su (qc rfl qjd rfl) rfl<|su (qf rfl ty9 rfl) rfl<|su (vk rfl rfl rfl) rfl<|su (qg rfl qfc rfl (qfh (decide (a0.Carrier = a1.Holder)) 31) (qe rfl (qe rfl qk))) rfl ?_;refine su (qt U Tryz.underlying170 ty37 z37 U (qx U (qx U jp)) U (by simp []) (by decide)) U ?_;refine su (qg rfl qip rfl (qjc [(jv ((decide (a0.fFrom < a1.Request.Period.fFrom)) || (decide (a1.Request.Period.fTo < a0.fTo))) 30), (jv (decide (a0.Carrier = a1.Holder)) 31)]) (qe rfl qk)) rfl<|sa rfl rfl<|qd<|qo ?_;subst hR;exact za U (rv_g U)
def qlr (a0 : S5072) : Int :=
 (vu [(qdt a0.Request), (qqa a0.Rank 0 999999999)])
theorem zcs {g : GL} (a0 : S5072)    : Con (EG g) 85 [G.agg (S5072.c a0)] (G.int (qlr a0)) := by
 generalize hR : qlr a0 = R;unfold qlr at hR;refine qm Tryz.func85 U U fun w0 M0 => ?_;refine qb<|qa [.p, .p]<|su (zi U U) U<|sa U U<|qd<|qb<|zr [.p, .p, .p, .p, .p, .p, .p, .p, .p] (by kernel_rfl)<|su (qc U qeo U) U<|su (qr U qab U U U) U<|su (qg U q24 U (q42 a0.Request) (qe U qk)) U<|su (qc U qm8 U) U<|su (qf U ty3 U) U<|su (qg U q59 U (q7t a0.Rank 0 999999999) (qe U (qe U (qe U qk)))) U ?_;refine su (qt U Tryz.underlying170 ty37 z37 U (qx U (qx U jp)) U (by simp []) (by decide)) U ?_;refine su (qg U qip U (qjc [(qdt a0.Request), (qqa a0.Rank 0 999999999)]) (qe U qk)) U<|sa U U<|qd<|qo ?_;subst hR;exact za U (rv_g U)
def qdd (a0 : S5100) : List ByteArray → Nat → Option Int
 | [], k6 => some 0
 | y7 :: t8, k6 => (bif decide ((vu [(qct y7), (jv (decide (y7 = a0.Holder)) 31), (jv (s88 (List.take (Int.toNat ((k6 : Nat) : Int)) a0.Shares) y7) 9)]) ≠ 0) then some (vu [(qct y7), (jv (decide (y7 = a0.Holder)) 31), (jv (s88 (List.take (Int.toNat ((k6 : Nat) : Int)) a0.Shares) y7) 9)]) else qdd a0 t8 (k6 + 1))
def qcf (a0 : S5100) : List S5102 → Nat → Option Int
 | [], k2 => (bif decide (4 < (List.length a0.Shares : Int)) then some 5 else qdd a0 a0.Shares 0)
 | y3 :: t4, k2 => zc (bif decide (0 < ((k2 : Nat) : Int)) then ixO a0.Leases (max 0 (IntKind.i64.wrap (((k2 : Nat) : Int) - 1))) else some default) fun y9 => (bif decide ((vu [(qlp y3), (qlq y3 a0), (jv ((decide (0 < ((k2 : Nat) : Int))) && (decide (y3.fFrom ≤ y9.fTo))) 15)]) ≠ 0) then some (vu [(qlp y3), (qlq y3 a0), (jv ((decide (0 < ((k2 : Nat) : Int))) && (decide (y3.fFrom ≤ y9.fTo))) 15)]) else qcf a0 t4 (k2 + 1))
def qxh (a0 : S5100) : Option Int :=
 (bif decide ((vu [(qdt a0.Request), (qct a0.Holder), (jv (decide (8 < (List.length a0.Leases : Int))) 5)]) ≠ 0) then some (vu [(qdt a0.Request), (qct a0.Holder), (jv (decide (8 < (List.length a0.Leases : Int))) 5)]) else qcf a0 a0.Leases 0)
theorem zct {g : GL} (a0 : S5100) {R : Int}   (hR : qxh a0 = some R) : Con (EG g) 82 [G.agg [G.str a0.Request.Name, G.str a0.Request.Carrier, G.str a0.Request.Kind, G.str a0.Request.Terminal, G.str a0.Request.Partner, G.str a0.Request.Link, G.int a0.Request.Period.fFrom, G.int a0.Request.Period.fTo, G.int a0.Request.Period.Days, G.int a0.Request.Minute, G.int a0.Request.Seats, G.int a0.Request.Size, G.int a0.Request.Noise, G.str a0.Holder, G.sl 3 (List.map S5102.c a0.Leases), G.sl 1 (List.map cStr a0.Shares)]] (G.int R) := by
 unfold qxh at hR;refine qm Tryz.func82 U U fun w0 M0 => ?_;refine qb<|qa [.p, .p]<|su (zi U U) U<|sa U U<|qd<|qb<|qb<|zr [.p, .p, .p, .p, .p, .p, .p, .p, .p, .p, .p, .p, .p, .p] (by kernel_rfl)<|su (qc U qbq U) U<|su (qr U qab U U U) U<|su (qg U q24 U (q42 a0.Request) (qe U qk)) U<|su (qc U qjd U) U<|su (qf U ty9 U) U<|su (qg U qyp U (q0k a0.Holder) (qe U qk)) U<|su (qc U qbr U) U<|su (qf U qf9 U) U<|su (zb (f := S5102.c) (l := a0.Leases) U Tryz.underlying99 U) U<|su (zy U U U) U<|su (qg U qfc U (qfh (decide (8 < (List.length a0.Leases : Int))) 5) (qe U (qe U qk))) U ?_;refine su (qt U Tryz.underlying170 ty37 z37 U (qx U (qx U (qx U jp))) U (by simp []) (by decide)) U ?_;refine su (qg U qip U (qjc [(qdt a0.Request), (qct a0.Holder), (jv (decide (8 < (List.length a0.Leases : Int))) 5)]) (qe U qk)) U<|sa U U<|qd<|qb<|qa [.p, .p]<|sm U U<|su (zx U U U) U<|qd ?_;refine ql _ U (fun h1 => ?_) (fun h1 => ?_)
 ·replace hR := zk hR h1;refine qb<|qa [.p, .p]<|sm U U<|sa U U<|qd<|qo ?_;obtain rfl := Option.some.inj hR;exact za U (rv_g U)
 ·replace h1 : (decide ((vu [(qdt a0.Request), (qct a0.Holder), (jv (decide (8 < (List.length a0.Leases : Int))) 5)]) ≠ 0)) = false := h1;replace hR := zl hR h1;(try simp only [bB] at h1);refine qn<|qb<|qb<|qa [.p, .p, .p, .p]<|su (qc U qbr U) U<|su (qf U qf9 U) U<|su (zb (f := S5102.c) (l := a0.Leases) U Tryz.underlying99 U) U<|sm U U<|qd<|qp<|zf (γ := Nat × (List S5102)) (fun g => ([(1, .g (G.ref [G.str a0.Request.Name, G.str a0.Request.Carrier, G.str a0.Request.Kind, G.str a0.Request.Terminal, G.str a0.Request.Partner, G.str a0.Request.Link, G.int a0.Request.Period.fFrom, G.int a0.Request.Period.fTo, G.int a0.Request.Period.Days, G.int a0.Request.Minute, G.int a0.Request.Seats, G.int a0.Request.Size, G.int a0.Request.Noise, G.str a0.Holder, G.sl 3 (List.map S5102.c a0.Leases), G.sl 1 (List.map cStr a0.Shares)])), (28, .g (G.sl 3 (List.map S5102.c a0.Leases))), (29, .g (G.int (List.length a0.Leases : Int))), (30, .g (G.int ((g.1 : Nat) : Int)))], [])) (fun g => a0.Leases.drop g.1 = g.2 ∧ qcf a0 g.2 g.1 = some R) (fun g => List.length g.2) ⟨U, (0, a0.Leases), jA, O, U, ⟨U, (by exact hR)⟩, O⟩ ?_
  ·rintro ⟨k2, t4⟩ ⟨hd, hR⟩;replace hd : a0.Leases.drop k2 = t4 := hd;replace hR : qcf a0 t4 k2 = some R := hR;refine qb<|qa [.p]<|su (zd U U U) U<|qd ?_;refine zu (f := S5102.c) (l := a0.Leases) 28 U fun hlz1 => ?_;refine qb ?_;refine ql _ U (fun h2 => ?_) (fun h2 => ?_)
   ·replace h2 : (decide (((k2 : Nat) : Int) < (List.length a0.Leases : Int))) = true := h2;obtain ⟨y3, t4, rfl, hx1, hd⟩ := zq hd (decT h2);replace h2 := decT h2;rw [qcf] at hR;(try dsimp only at hR);refine qn<|qb<|qp<|qb<|qa [.p, .p, .p, .w, .p, .w]<|sm U U<|su (z5 (f := S5102.c) (l := a0.Leases) (a := y3) U Tryz.underlying99 qbp U U (Int.natCast_nonneg _) hx1) U<|su (qr U qbp U U U) U<|sw (zm 5 U qqr U U) U<|sa U U<|je U U (qw (tv := .g (G.agg (S5102.c y3))) U qbp U U U U U)<|qd<|qb ?_;obtain ⟨y9, by9, hR⟩ := qh hR;refine zr [.p, .p, .p, .p, .r, .p, .p, .p, .p, .p, .p, .p, .p, .p, .p, .p] (by kernel_rfl)<|sm U U<|su (zy U U U) U<|sm U U<|sg U U (fun h => qu U qem U) U<|qff U U U (jf _ _) (fun h => zo U ty3 (gd h U) U U) U<|sg U U (fun h => qc U qbr U) U<|sg U U (fun h => qf U qf9 (gd h U)) U<|sg U U (fun h => qj U U) U<|sg U U (fun h => kq U (gd h U) U) U<|sg U U (fun h => qhm U U (gd h U)) U<|sg U U (fun h => z5 (f := S5102.c) (l := a0.Leases) (a := y9) U Tryz.underlying99 qbp (gd h U) (gd h U) (jj (xm by9 h)) (zh (xm by9 h))) U<|sg U U (fun h => qc U qen (gd h U)) U<|sg U U (fun h => qf U ty3 (gd h U)) U<|sg U U (fun h => vj U (gd h U) (gd h U)) U<|su (zt U U U U) U<|sa U U<|qd<|qb<|zr [.r, .p, .r, .p, .p, .p, .p, .p, .p, .p] (by kernel_rfl)<|sr (zj U qbp U U U U) U<|su (qg U zaq U (zcq y3) (qe U qk)) U<|sr (zj U qbp U U U U) U<|su (qr U xd U U U) U<|su (qg U zar U (zcr y3 a0) (qe U (qe U qk))) U<|sm U U<|su (qg U qfc U (qfh ((decide (0 < ((k2 : Nat) : Int))) && (decide (y3.fFrom ≤ y9.fTo))) 15) (qe U (qe U qk))) U ?_;refine su (qt U Tryz.underlying170 ty37 z37 U (qx U (qx U (qx U jp))) U (by simp []) (by decide)) U ?_;refine su (qg U qip U (qjc [(qlp y3), (qlq y3 a0), (jv ((decide (0 < ((k2 : Nat) : Int))) && (decide (y3.fFrom ≤ y9.fTo))) 15)]) (qe U qk)) U<|sa U U<|qd<|qb<|qa [.p, .p]<|sm U U<|su (zx U U U) U<|qd ?_;refine ql _ U (fun h8 => ?_) (fun h8 => ?_)
    ·replace hR := zk hR h8;refine qb<|qa [.p, .p]<|sm U U<|sa U U<|qd<|qo ?_;obtain rfl := Option.some.inj hR;exact za U (rv_g U)
    ·replace h8 : (decide ((vu [(qlp y3), (qlq y3 a0), (jv ((decide (0 < ((k2 : Nat) : Int))) && (decide (y3.fFrom ≤ y9.fTo))) 15)]) ≠ 0)) = false := h8;replace hR := zl hR h8;(try simp only [bB] at h8);refine qn<|qa [.p, .p]<|su (zn U U U iE) U<|sm U U<|qd ?_;exact ⟨U, (k2 + 1, t4), jA, O, U, ⟨hd, hR⟩, by simp⟩
   ·replace h2 : (decide (((k2 : Nat) : Int) < (List.length a0.Leases : Int))) = false := h2;obtain rfl := zz hd (decF h2);rw [qcf] at hR;refine zw<|qb<|qb<|qa [.p, .p, .p, .p]<|su (qc U qf2 U) U<|su (qf U ty22 U) U<|su (zb (f := cStr) (l := a0.Shares) U Tryz.underlying35 U) U<|su (zy U U U) U<|qd ?_;refine ql _ U (fun h4 => ?_) (fun h4 => ?_)
    ·replace hR := zk hR h4;refine qb<|qa [.p]<|sa U U<|qd<|qo ?_;obtain rfl := Option.some.inj hR;exact za U (rv_g U)
    ·replace h4 : (decide (4 < (List.length a0.Shares : Int))) = false := h4;replace hR := zl hR h4;(try simp only [bB] at h4);refine qn<|qb<|qb<|qa [.p, .p, .p, .p]<|su (qc U qf2 U) U<|su (qf U ty22 U) U<|su (zb (f := cStr) (l := a0.Shares) U Tryz.underlying35 U) U<|sm U U<|qd<|qp<|zf (γ := Nat × (List ByteArray)) (fun g => ([(1, .g (G.ref [G.str a0.Request.Name, G.str a0.Request.Carrier, G.str a0.Request.Kind, G.str a0.Request.Terminal, G.str a0.Request.Partner, G.str a0.Request.Link, G.int a0.Request.Period.fFrom, G.int a0.Request.Period.fTo, G.int a0.Request.Period.Days, G.int a0.Request.Minute, G.int a0.Request.Seats, G.int a0.Request.Size, G.int a0.Request.Noise, G.str a0.Holder, G.sl 3 (List.map S5102.c a0.Leases), G.sl 1 (List.map cStr a0.Shares)])), (68, .g (G.sl 1 (List.map cStr a0.Shares))), (69, .g (G.int (List.length a0.Shares : Int))), (70, .g (G.int ((g.1 : Nat) : Int)))], [])) (fun g => a0.Shares.drop g.1 = g.2 ∧ qdd a0 g.2 g.1 = some R) (fun g => List.length g.2) ⟨U, (0, a0.Shares), jA, O, U, ⟨U, (by exact hR)⟩, O⟩ ?_
     ·rintro ⟨k6, t8⟩ ⟨hd, hR⟩;replace hd : a0.Shares.drop k6 = t8 := hd;replace hR : qdd a0 t8 k6 = some R := hR;refine qb<|qa [.p]<|su (zd U U U) U<|qd ?_;refine zu (f := cStr) (l := a0.Shares) 68 U fun hlz2 => ?_;refine qb ?_;refine ql _ U (fun h5 => ?_) (fun h5 => ?_)
      ·replace h5 : (decide (((k6 : Nat) : Int) < (List.length a0.Shares : Int))) = true := h5;obtain ⟨y7, t8, rfl, hx2, hd⟩ := zq hd (decT h5);replace h5 := decT h5;rw [qdd] at hR;(try dsimp only at hR);refine qn<|qb<|qp<|qb<|qa [.p, .p, .p, .p, .p]<|sm U U<|su (z5 (f := cStr) (l := a0.Shares) (a := y7) U Tryz.underlying35 ty9 U U (Int.natCast_nonneg _) hx2) U<|su (qf U ty9 U) U<|sa U U<|sa U U<|qd<|qb<|zr [.p, .p, .p, .p, .p, .p, .p, .p, .p, .p, .p, .p, .p, .p, .p, .p, .p] (by kernel_rfl)<|sm U U<|su (qg U qyp U (q0k y7) (qe U qk)) U<|sm U U<|su (qc U qjd U) U<|su (qf U ty9 U) U<|su (vk U U U) U<|su (qg U qfc U (qfh (decide (y7 = a0.Holder)) 31) (qe U (qe U qk))) U<|su (qc U qf2 U) U<|su (qf U ty22 U) U<|sm U U<|su (qhn (f := cStr) (l := a0.Shares) U Tryz.underlying35 ty9 U qc9 (qda U (Int.natCast_nonneg _)) (Nat.zero_le _) (qpa hx2)) U<|sm U U<|su (qg U K88 U (c88 (List.take (Int.toNat ((k6 : Nat) : Int)) a0.Shares) y7) (qe U (qe U qk))) U<|su (qg U qfc U (qfh (s88 (List.take (Int.toNat ((k6 : Nat) : Int)) a0.Shares) y7) 9) (qe U (qe U qk))) U ?_;refine su (qt U Tryz.underlying170 ty37 z37 U (qx U (qx U (qx U jp))) U (by simp []) (by decide)) U ?_;refine su (qg U qip U (qjc [(qct y7), (jv (decide (y7 = a0.Holder)) 31), (jv (s88 (List.take (Int.toNat ((k6 : Nat) : Int)) a0.Shares) y7) 9)]) (qe U qk)) U<|sa U U<|qd<|qb<|qa [.p, .p]<|sm U U<|su (zx U U U) U<|qd ?_;refine ql _ U (fun h7 => ?_) (fun h7 => ?_)
       ·replace hR := zk hR h7;refine qb<|qa [.p, .p]<|sm U U<|sa U U<|qd<|qo ?_;obtain rfl := Option.some.inj hR;exact za U (rv_g U)
       ·replace h7 : (decide ((vu [(qct y7), (jv (decide (y7 = a0.Holder)) 31), (jv (s88 (List.take (Int.toNat ((k6 : Nat) : Int)) a0.Shares) y7) 9)]) ≠ 0)) = false := h7;replace hR := zl hR h7;(try simp only [bB] at h7);refine qn<|qa [.p, .p]<|su (zn U U U iE) U<|sm U U<|qd ?_;exact ⟨U, (k6 + 1, t8), jA, O, U, ⟨hd, hR⟩, by simp⟩
      ·replace h5 : (decide (((k6 : Nat) : Int) < (List.length a0.Shares : Int))) = false := h5;obtain rfl := zz hd (decF h5);rw [qdd] at hR;refine zw<|qb<|qa [.p]<|sa U U<|qd<|qo ?_;obtain rfl := Option.some.inj hR;exact za U (rv_g U)
end Go.Sim
