/-
  What is proved: lemmas and contracts of functions on the way to the law topChockBack (part 10).
-/
import Derived.Test.YtfmnmoiaemejjaaGreatVrA9
import Derived.Test.YtfmnmoiaemejjaaGreatVrA5
import Derived.Test.YtfmnmoiaemejjaaGreatVrA8
import Derived.Test.YtfmnmoiaemejjaaGreatVrA7
import Derived.Test.YtfmnmoiaemejjaaGreatVrA3
set_option linter.unusedSectionVars false
set_option linter.unusedSimpArgs false
set_option linter.unusedVariables false
set_option linter.unnecessarySimpa false
set_option linter.deprecated false
set_option maxRecDepth 10000
namespace Go.Sim
variable {lt : S1079 → S1079 → Bool} {cmp : S1079 → S1079 → Option Int}
def qxi (lt : S1079 → S1079 → Bool) (f : (List S1079) → Int → Int → Int → Option (List S1079)) (X Y P Q : List S1079) : Prop :=
 ∃ Z, f (P ++ X ++ Y ++ Q) (P.length : Int) ((P.length : Int) + (X.length : Int)) ((P.length : Int) + (X.length : Int) + (Y.length : Int)) = some (P ++ Z ++ Q) ∧ Z.Perm (X ++ Y) ∧ Srt lt Z
theorem q0m (w : WOrd lt cmp) (x : S1079) (Y P Q : List S1079) (hY : Srt lt Y) :
  ∃ Z, wh (P ++ [x] ++ Y ++ Q) (P.length : Int) cmp (Y.length + 1) ((P.length : Int) + 1) ((P.length : Int) + 1 + (Y.length : Int)) = some (P ++ Z ++ Q) ∧ Z.Perm ([x] ++ Y) ∧ Srt lt Z := by
 obtain ⟨i, hi, h1, h2, h3⟩ := sea1 w P Y Q x hY rfl (Y.length + 1) 0 Y.length (Nat.zero_le _) (Nat.le_refl _) (by omega) (fun y hy => by simp at hy) (fun y hy => by simp at hy);rw [show ((P.length : Int) + 1 + ((0 : Nat) : Int)) = (P.length : Int) + 1 by simp] at h3;refine ⟨Y.take i ++ x :: Y.drop i, ?_, ?_, ?_⟩
 ·rw [h3]
  have hs : P ++ [x] ++ Y ++ Q = P ++ x :: (Y.take i ++ (Y.drop i ++ Q)) := by
   rw [← List.append_assoc (Y.take i), List.take_append_drop]; simp
  rw [hs, sh2 _ (Y.take i) P (Y.drop i ++ Q) x _ (by rw [List.length_take]; omega) (by rw [List.length_take]; omega)]
  simp
 ·have := List.perm_middle (a := x) (l₁ := Y.take i) (l₂ := Y.drop i);rw [List.take_append_drop] at this;exact this
 ·refine List.pairwise_append.2 ⟨hY.sublist (List.take_sublist _ _), List.pairwise_cons.2 ⟨h2, hY.sublist (List.drop_sublist _ _)⟩, ?_⟩;intro a ha b hb
  rcases List.mem_cons.1 hb with rfl | hb
  ·exact w.asy _ _ (h1 a ha)
  ·have := w.lt_of' (h1 a ha) (h2 b hb);exact w.asy _ _ this
theorem qxj (w : WOrd lt cmp) (y : S1079) (X P Q : List S1079) (hX : Srt lt X) :
  ∃ Z, wi (P ++ X ++ [y] ++ Q) ((P.length : Int) + (X.length : Int)) cmp (X.length + 1) (P.length : Int) ((P.length : Int) + (X.length : Int)) = some (P ++ Z ++ Q) ∧ Z.Perm (X ++ [y]) ∧ Srt lt Z := by
 obtain ⟨i, hi, h1, h2, h3⟩ := sea3 w P X Q y hX rfl (X.length + 1) 0 X.length (Nat.zero_le _) (Nat.le_refl _) (by omega) (fun y hy => by simp at hy) (fun y hy => by simp at hy);rw [show ((P.length : Int) + ((0 : Nat) : Int)) = (P.length : Int) by simp] at h3;refine ⟨X.take i ++ y :: X.drop i, ?_, ?_, ?_⟩
 ·rw [h3]
  have hl : (P ++ X.take i).length = P.length + i := by simp; omega
  have hs : P ++ X ++ [y] ++ Q = (P ++ X.take i) ++ X.drop i ++ y :: Q := by
   conv => lhs; rw [← List.take_append_drop i X]
   simp
  have e1 : (P.length : Int) + (i : Int) = ((P ++ X.take i).length : Int) := by rw [hl]; omega
  have e2 : (P.length : Int) + (X.length : Int) = ((P ++ X.take i).length : Int) + ((X.length - i : Nat) : Int) := by rw [hl]; omega
  rw [e1, e2, hs, sh4 (X.length - i) (X.drop i) (P ++ X.take i) Q y _ (by simp) (by omega)]
  simp
 ·have := List.perm_middle (a := y) (l₁ := X.take i) (l₂ := X.drop i);rw [List.take_append_drop] at this;exact this.trans (List.perm_append_comm (l₁ := [y]) (l₂ := X))
 ·refine List.pairwise_append.2 ⟨hX.sublist (List.take_sublist _ _), List.pairwise_cons.2 ⟨fun b hb => w.asy _ _ (h2 b hb), hX.sublist (List.drop_sublist _ _)⟩, ?_⟩;intro a ha b hb
  rcases List.mem_cons.1 hb with rfl | hb
  ·exact h1 a ha
  ·exact w.asy _ _ (w.lt_of (h1 a ha) (h2 b hb))
variable {lt : S1079 → S1079 → Bool} {cmp : S1079 → S1079 → Option Int}
section
variable {self : (List S1079) → Int → Int → Int → (S1079 → S1079 → Option Int) → Option (List S1079)} {N : Nat}
 (ih : ∀ X Y P Q : List S1079, 0 < X.length → 0 < Y.length → X.length + Y.length < N → Srt lt X → Srt lt Y → qxi lt (fun l a m b => self l a m b cmp) X Y P Q)
include ih
theorem q7u (A B P R : List S1079) (hA : Srt lt A) (hB : Srt lt B) (hN : A.length + B.length < N) {a m b x : Int} (ha : a = (P.length : Int)) (hx : x = (P.length : Int) + (A.length : Int)) (hmid : (a + b) / 2 = (P.length : Int) + (A.length : Int) + (B.length : Int)) :
  ∃ Z, xx self a m b cmp x (P ++ A ++ B ++ R) = qbj self a m b cmp x (P ++ Z ++ R) ∧ Z.Perm (A ++ B) ∧ Srt lt Z := by
 unfold xx
 by_cases h1 : 0 < A.length
 ·by_cases h2 : 0 < B.length
  ·obtain ⟨Z, q1, q2, q3⟩ := ih A B P R h1 h2 hN hA hB;refine ⟨Z, ?_, q2, q3⟩;rw [decide_eq_true (by omega), decide_eq_true (by omega), Bool.and_self, cond_true, hmid, hx, ha];have q1 : self (P ++ A ++ B ++ R) (P.length : Int) ((P.length : Int) + (A.length : Int)) ((P.length : Int) + (A.length : Int) + (B.length : Int)) cmp = some (P ++ Z ++ R) := q1;rw [q1]; rfl
  ·have hb0 : B = [] := List.eq_nil_of_length_eq_zero (by omega);subst hb0;refine ⟨A, ?_, by simp, hA⟩;rw [decide_eq_false (show ¬ x < (a + b) / 2 by rw [hmid, hx]; simp), Bool.and_false, cond_false, List.append_nil]
 ·have ha0 : A = [] := List.eq_nil_of_length_eq_zero (by omega);subst ha0;refine ⟨B, ?_, by simp, hB⟩;rw [decide_eq_false (show ¬ a < x by rw [ha, hx]; simp), Bool.false_and, cond_false, List.append_nil]
theorem q7v (C D P Q : List S1079) (hC : Srt lt C) (hD : Srt lt D) (hN : C.length + D.length < N) {a m b x : Int} (hmid : (a + b) / 2 = (P.length : Int)) (hx : (((a + b) / 2) + m) - x = (P.length : Int) + (C.length : Int)) (hb : b = (P.length : Int) + (C.length : Int) + (D.length : Int)) :
  ∃ Z, qbj self a m b cmp x (P ++ C ++ D ++ Q) = some (P ++ Z ++ Q) ∧ Z.Perm (C ++ D) ∧ Srt lt Z := by
 unfold qbj;rw [hx]
 by_cases h1 : 0 < C.length
 ·by_cases h2 : 0 < D.length
  ·obtain ⟨Z, q1, q2, q3⟩ := ih C D P Q h1 h2 hN hC hD;refine ⟨Z, ?_, q2, q3⟩;rw [decide_eq_true (by omega), decide_eq_true (by omega), Bool.and_self, cond_true, hmid, hb];have q1 : self (P ++ C ++ D ++ Q) (P.length : Int) ((P.length : Int) + (C.length : Int)) ((P.length : Int) + (C.length : Int) + (D.length : Int)) cmp = some (P ++ Z ++ Q) := q1;rw [q1]; rfl
  ·have hd0 : D = [] := List.eq_nil_of_length_eq_zero (by omega);subst hd0;refine ⟨C, ?_, by simp, hC⟩;rw [decide_eq_false (show ¬ (P.length : Int) + (C.length : Int) < b by rw [hb]; simp), Bool.and_false, cond_false, List.append_nil]
 ·have hc0 : C = [] := List.eq_nil_of_length_eq_zero (by omega);subst hc0;refine ⟨D, ?_, by simp, hD⟩;rw [decide_eq_false (show ¬ (a + b) / 2 < (P.length : Int) + ((([] : List S1079).length : Nat) : Int) by rw [hmid]; simp), Bool.false_and, cond_false, List.append_nil]
theorem qxk (w : WOrd lt cmp) (X Y P Q : List S1079) (hX : Srt lt X) (hY : Srt lt Y) (hN : X.length + Y.length ≤ N) (hx2 : 1 < X.length) (hy2 : 1 < Y.length) {a m b : Int} {s0 r0 : Nat} (ha : a = (P.length : Int)) (hm : m = (P.length : Int) + (X.length : Int)) (hb : b = (P.length : Int) + (X.length : Int) + (Y.length : Int))
  (hs : (X.length + Y.length) / 2 ≤ s0 + Y.length) (hr : r0 ≤ X.length) (hr2 : r0 ≤ (X.length + Y.length) / 2) (hsr : s0 ≤ r0) (hs0 : s0 = 0 ∨ s0 + Y.length = (X.length + Y.length) / 2) (hr0 : r0 = X.length ∨ r0 = (X.length + Y.length) / 2) (k : Nat) (hk : r0 - s0 < k) :
  ∃ Z, wj self (P ++ X ++ Y ++ Q) a m b cmp k ((P.length : Int) + (s0 : Int)) ((P.length : Int) + (r0 : Int)) = some (P ++ Z ++ Q) ∧ Z.Perm (X ++ Y) ∧ Srt lt Z := by
 obtain ⟨hh, hhd⟩ : ∃ hh, hh = (X.length + Y.length) / 2 := ⟨_, rfl⟩;rw [← hhd] at hs hr2 hs0 hr0
 have hmid : (a + b) / 2 = (P.length : Int) + (hh : Int) := by omega
 obtain ⟨u, u1, u2, i1, i2, he⟩ := sea5 w (self := self) P X Y Q hX hY ha hm hmid hs hr hr2 k s0 r0 (Nat.le_refl _) hsr (Nat.le_refl _) hk (fun v x y h1 h2 => by omega) (fun v x y h1 h2 => by omega);rw [he];have hrot : (bif (decide ((P.length : Int) + (u : Int) < m)) && (decide (m < (((a + b) / 2) + m) - ((P.length : Int) + (u : Int)))) then zc (qp8 (P ++ X ++ Y ++ Q) ((P.length : Int) + (u : Int)) m ((((a + b) / 2) + m) - ((P.length : Int) + (u : Int))) cmp) fun r43 => xx self a m b cmp ((P.length : Int) + (u : Int)) r43 else xx self a m b cmp ((P.length : Int) + (u : Int)) (P ++ X ++ Y ++ Q))
   = xx self a m b cmp ((P.length : Int) + (u : Int)) (P ++ X.take u ++ Y.take (hh - u) ++ (X.drop u ++ Y.drop (hh - u) ++ Q)) := by
  by_cases c1 : u < X.length
  ·by_cases c2 : u < hh
   ·rw [decide_eq_true (by omega), decide_eq_true (by omega), Bool.and_self, cond_true]
    have hsp : P ++ X ++ Y ++ Q = (P ++ X.take u) ++ X.drop u ++ Y.take (hh - u) ++ (Y.drop (hh - u) ++ Q) := by
     calc P ++ X ++ Y ++ Q = P ++ (X.take u ++ X.drop u) ++ (Y.take (hh - u) ++ Y.drop (hh - u)) ++ Q := by rw [List.take_append_drop, List.take_append_drop]
      _ = _ := by simp only [List.append_assoc]
    have hlu : (X.take u).length = u := by rw [List.length_take]; omega
    have hly : (Y.take (hh - u)).length = hh - u := by rw [List.length_take]; omega
    have := q7w (X.drop u) (Y.take (hh - u)) (P ++ X.take u) (Y.drop (hh - u) ++ Q) cmp (a1 := (P.length : Int) + (u : Int)) (a2 := m) (a3 := (((a + b) / 2) + m) - ((P.length : Int) + (u : Int))) (by simp; omega) (by omega) (by simp; omega) (by simp; omega) (by rw [hmid]; simp; omega);rw [hsp, this];simp only [zc]
    congr 1
    simp
   ·have hu : u = hh := by omega
    subst hu;rw [decide_eq_false (show ¬ m < _ by omega), Bool.and_false, cond_false]
    congr 1
    rw [Nat.sub_self, List.take_zero, List.drop_zero, List.append_nil]
    calc P ++ X ++ Y ++ Q = P ++ (X.take u ++ X.drop u) ++ Y ++ Q := by rw [List.take_append_drop]
     _ = _ := by simp only [List.append_assoc]
  ·have hu : u = X.length := by omega
   subst hu;rw [decide_eq_false (show ¬ (P.length : Int) + ((X.length : Nat) : Int) < m by omega), Bool.false_and, cond_false]
   congr 1
   rw [List.take_length, List.drop_length, List.nil_append]
   calc P ++ X ++ Y ++ Q = P ++ X ++ (Y.take (hh - X.length) ++ Y.drop (hh - X.length)) ++ Q := by rw [List.take_append_drop]
    _ = _ := by simp only [List.append_assoc]
 rw [hrot];have hXt : Srt lt (X.take u) := hX.sublist (List.take_sublist _ _);have hXd : Srt lt (X.drop u) := hX.sublist (List.drop_sublist _ _);have hYt : Srt lt (Y.take (hh - u)) := hY.sublist (List.take_sublist _ _);have hYd : Srt lt (Y.drop (hh - u)) := hY.sublist (List.drop_sublist _ _)
 have l1 : (X.take u).length = u := by rw [List.length_take]; omega
 have l2 : (Y.take (hh - u)).length = hh - u := by rw [List.length_take]; omega
 have l3 : (X.drop u).length = X.length - u := List.length_drop ..;have l4 : (Y.drop (hh - u)).length = Y.length - (hh - u) := List.length_drop ..;obtain ⟨Z1, e1, p1, z1⟩ := q7u ih (X.take u) (Y.take (hh - u)) P (X.drop u ++ Y.drop (hh - u) ++ Q) hXt hYt (by omega) (a := a) (m := m) (b := b) (x := (P.length : Int) + (u : Int)) ha (by omega) (by omega);rw [e1]
 have lz : Z1.length = hh := by rw [p1.length_eq, List.length_append]; omega
 obtain ⟨Z2, e2, p2, z2⟩ := q7v ih (X.drop u) (Y.drop (hh - u)) (P ++ Z1) Q hXd hYd (by omega) (a := a) (m := m) (b := b) (x := (P.length : Int) + (u : Int)) (by rw [List.length_append]; omega) (by rw [List.length_append]; omega) (by rw [List.length_append]; omega);refine ⟨Z1 ++ Z2, ?_, ?_, ?_⟩
 ·rw [show P ++ Z1 ++ (X.drop u ++ Y.drop (hh - u) ++ Q) = P ++ Z1 ++ X.drop u ++ Y.drop (hh - u) ++ Q by simp, e2]; simp
 ·refine (p1.append p2).trans ?_
  have : (X.take u ++ Y.take (hh - u) ++ (X.drop u ++ Y.drop (hh - u))).Perm (X.take u ++ X.drop u ++ (Y.take (hh - u) ++ Y.drop (hh - u))) := by
   rw [List.append_assoc, List.append_assoc];refine List.Perm.append_left _ ?_;rw [← List.append_assoc, ← List.append_assoc];exact List.Perm.append_right _ List.perm_append_comm
  rwa [List.take_append_drop, List.take_append_drop] at this
 ·refine List.pairwise_append.2 ⟨z1, z2, fun x hx y hy => ?_⟩;have hx := p1.mem_iff.1 hx;have hy := p2.mem_iff.1 hy
  have get_t : ∀ {l : List S1079} {n : Nat} {x : S1079}, x ∈ l.take n → ∃ i, i < n ∧ l[i]? = some x := by
   intro l n x h;obtain ⟨i, hi⟩ := List.mem_iff_getElem?.1 h;rw [List.getElem?_take] at hi
   split at hi
   ·exact ⟨i, by assumption, hi⟩
   ·cases hi
  have get_d : ∀ {l : List S1079} {n : Nat} {x : S1079}, x ∈ l.drop n → ∃ i, n ≤ i ∧ l[i]? = some x := by
   intro l n x h;obtain ⟨i, hi⟩ := List.mem_iff_getElem?.1 h;rw [List.getElem?_drop] at hi;exact ⟨n + i, by omega, hi⟩
  rcases List.mem_append.1 hx with hx | hx <;> rcases List.mem_append.1 hy with hy | hy
  ·obtain ⟨i, hi, gi⟩ := get_t hx;obtain ⟨j, hj, gj⟩ := get_d hy;exact qfl w hX gi gj (by omega)
  ·obtain ⟨i, hi, gi⟩ := get_t hx;obtain ⟨j, hj, gj⟩ := get_d hy;have hjl := (List.getElem?_eq_some_iff.1 gj).1;have hil := (List.getElem?_eq_some_iff.1 gi).1
   have hus : s0 < u := by omega
   have h1 : X[u - 1]? = some X[u - 1] := List.getElem?_eq_getElem (by omega);have h2 : Y[hh - u]? = some Y[hh - u] := List.getElem?_eq_getElem (by omega);have h3 := i1 (u - 1) _ _ (by omega) (by omega) h1 (show Y[hh - 1 - (u - 1)]? = some Y[hh - u] by rw [show hh - 1 - (u - 1) = hh - u by omega]; exact h2);exact w.tr _ _ _ (w.tr _ _ _ (qfl w hX gi h1 (by omega)) h3) (qfl w hY h2 gj (by omega))
  ·obtain ⟨i, hi, gi⟩ := get_t hx;obtain ⟨j, hj, gj⟩ := get_d hy;have hjl := (List.getElem?_eq_some_iff.1 gj).1;have hil := (List.getElem?_eq_some_iff.1 gi).1
   have hur : u < r0 := by omega
   have h1 : X[u]? = some X[u] := List.getElem?_eq_getElem (by omega);have h2 : Y[hh - 1 - u]? = some Y[hh - 1 - u] := List.getElem?_eq_getElem (by omega);have h3 := i2 u _ _ (Nat.le_refl _) hur h1 h2;exact w.tr _ _ _ (w.tr _ _ _ (qfl w hY gi h2 (by omega)) (w.asy _ _ h3)) (qfl w hX h1 gj (by omega))
  ·obtain ⟨i, hi, gi⟩ := get_t hx;obtain ⟨j, hj, gj⟩ := get_d hy;exact qfl w hY gi gj (by omega)
end
variable {lt : S1079 → S1079 → Bool} {cmp : S1079 → S1079 → Option Int}
theorem qxl (w : WOrd lt cmp) : ∀ (k : Nat) (X Y P Q : List S1079), 0 < X.length → 0 < Y.length → X.length + Y.length < k → Srt lt X → Srt lt Y → qxi lt (fun l a m b => qba k l a m b cmp) X Y P Q
 | 0, X, Y, P, Q, _, _, hk, _, _ => by omega
 | k + 1, X, Y, P, Q, h1, h2, hk, hX, hY => by
  unfold qxi
  simp only
  by_cases c1 : X.length = 1
  ·obtain ⟨x, rfl⟩ := List.length_eq_one_iff.1 c1;obtain ⟨Z, q1, q2, q3⟩ := q0m w x Y P Q hY;refine ⟨Z, ?_, q2, q3⟩;rw [qba, decide_eq_true (by simp; omega), cond_true, ← q1]
   congr 1
   ·simp; omega
   all_goals (simp)
  ·by_cases c2 : Y.length = 1
   ·obtain ⟨y, rfl⟩ := List.length_eq_one_iff.1 c2;obtain ⟨Z, q1, q2, q3⟩ := qxj w y X P Q hX;refine ⟨Z, ?_, q2, q3⟩;rw [qba, decide_eq_false (by omega), cond_false, decide_eq_true (by simp; omega), cond_true, ← q1]
    congr 1
    omega
   ·rw [qba, decide_eq_false (by omega), cond_false, decide_eq_false (by omega), cond_false];have ih := fun X Y P Q h1 h2 hk hX hY => qxl w k X Y P Q h1 h2 hk hX hY
    by_cases c3 : (X.length + Y.length) / 2 < X.length
    ·rw [decide_eq_true (by omega), cond_true];have := qxk (self := fun z0_ z1_ z2_ z3_ z4_ => qba k z0_ z1_ z2_ z3_ z4_) (N := k) ih w X Y P Q hX hY (by omega) (by omega) (by omega) (a := (P.length : Int)) (m := (P.length : Int) + (X.length : Int)) (b := (P.length : Int) + (X.length : Int) + (Y.length : Int)) (s0 := (X.length + Y.length) / 2 - Y.length) (r0 := (X.length + Y.length) / 2) rfl rfl rfl (by omega) (by omega) (by omega) (by omega) (by omega) (by omega) ((((X.length + Y.length) / 2 : Nat) - ((X.length + Y.length) / 2 - Y.length) : Nat) + 1) (by omega);unfold qdz;rw [show ((P.length : Int) + ((P.length : Int) + (X.length : Int) + (Y.length : Int))) / 2 = (P.length : Int) + (((X.length + Y.length) / 2 : Nat) : Int) by omega];rw [show ((P.length : Int) + (((X.length + Y.length) / 2 : Nat) : Int)) + ((P.length : Int) + (X.length : Int)) - ((P.length : Int) + (X.length : Int) + (Y.length : Int)) = (P.length : Int) + (((X.length + Y.length) / 2 - Y.length : Nat) : Int) by omega];rw [show (((P.length : Int) + (((X.length + Y.length) / 2 : Nat) : Int)) - ((P.length : Int) + (((X.length + Y.length) / 2 - Y.length : Nat) : Int))).toNat + 1 = ((((X.length + Y.length) / 2 : Nat) - ((X.length + Y.length) / 2 - Y.length) : Nat) + 1) by omega];exact this
    ·rw [decide_eq_false (by omega), cond_false];have := qxk (self := fun z0_ z1_ z2_ z3_ z4_ => qba k z0_ z1_ z2_ z3_ z4_) (N := k) ih w X Y P Q hX hY (by omega) (by omega) (by omega) (a := (P.length : Int)) (m := (P.length : Int) + (X.length : Int)) (b := (P.length : Int) + (X.length : Int) + (Y.length : Int)) (s0 := 0) (r0 := X.length) rfl rfl rfl (by omega) (by omega) (by omega) (by omega) (by omega) (by omega) (X.length + 1) (by omega);unfold qdz;rw [show ((P.length : Int) + (X.length : Int) - (P.length : Int)).toNat + 1 = X.length + 1 by omega];rw [show (P.length : Int) + ((0 : Nat) : Int) = (P.length : Int) by simp] at this;exact this
variable {lt : S1079 → S1079 → Bool} {cmp : S1079 → S1079 → Option Int}
theorem q2c (w : WOrd lt cmp) (rec1 : Int → List S1079 → Option (List S1079)) (x1 : Int) : ∀ (n : Nat) (A P R : List S1079) (y : S1079) (k : Nat), A.length = n → n < k → Srt lt A →
  ∃ Z, qay rec1 (P.length : Int) cmp x1 k ((P.length : Int) + (n : Int)) (P ++ A ++ y :: R) = rec1 (x1 + 1) (P ++ Z ++ R) ∧ Z.Perm (A ++ [y]) ∧ Srt lt Z
 | n, A, P, R, y, 0, _, hk, _ => by omega
 | 0, A, P, R, y, k + 1, hA, hk, hs => by
  obtain rfl := List.eq_nil_of_length_eq_zero hA;refine ⟨[y], ?_, by simp, List.pairwise_singleton _ _⟩;have e : decide ((P.length : Int) < (P.length : Int) + ((0 : Nat) : Int)) = false := decide_eq_false (by omega);rw [qay, e]
  simp [zc]
 | n + 1, A, P, R, y, k + 1, hA, hk, hs => by
  obtain ⟨A', z, rfl⟩ : ∃ A' z, A = A' ++ [z] := by
   rcases List.eq_nil_or_concat A with rfl | ⟨X', z, h⟩
   ·simp at hA
   ·exact ⟨X', z, by simpa using h⟩
  have hA' : A'.length = n := by simpa using hA
  have hs' := List.pairwise_append.1 hs
  have e1 : P ++ (A' ++ [z]) ++ y :: R = (P ++ A') ++ z :: (y :: R) := by simp
  have e2 : P ++ (A' ++ [z]) ++ y :: R = (P ++ A' ++ [z]) ++ y :: R := by simp
  have q1 : ((P.length : Int) + ((n + 1 : Nat) : Int)) - 1 = ((P ++ A').length : Int) := by first | (simp [hA']; done) | (simp [hA']; omega)
  have q2 : ((P.length : Int) + ((n + 1 : Nat) : Int)) = ((P ++ A' ++ [z]).length : Int) := by first | (simp [hA']; done) | (simp [hA']; omega)
  have i1 : ixO (P ++ (A' ++ [z]) ++ y :: R) (((P.length : Int) + ((n + 1 : Nat) : Int)) - 1) = some z := by rw [e1, wc _ _ _ q1]
  have i2 : ixO (P ++ (A' ++ [z]) ++ y :: R) ((P.length : Int) + ((n + 1 : Nat) : Int)) = some y := by rw [e2, wc _ _ _ q2]
  have e : decide ((P.length : Int) < (P.length : Int) + ((n + 1 : Nat) : Int)) = true := decide_eq_true (by omega);obtain ⟨v, hv, hd⟩ := w.c y z;rw [qay, e, cond_true, cond_true, i2];simp only [zc];rw [i1];simp only [zc, cond_true];rw [hv];simp only [zc];rw [hd, Bool.true_and]
  cases hl : lt y z with
  | true =>
   rw [cond_true]
   have s1 : List.set (P ++ (A' ++ [z]) ++ y :: R) (Int.toNat ((P.length : Int) + ((n + 1 : Nat) : Int))) z = (P ++ A' ++ [z]) ++ z :: R := by rw [e2, qel _ _ _ _ q2]
   rw [s1]
   have e3 : (P ++ A' ++ [z]) ++ z :: R = (P ++ A') ++ z :: (z :: R) := by simp
   rw [e3, wc _ _ _ q1];simp only [];rw [qel _ _ _ _ q1]
   have q3 : ((P.length : Int) + ((n + 1 : Nat) : Int)) - 1 = (P.length : Int) + (n : Int) := by omega
   rw [q3];obtain ⟨Z, g1, g2, g3⟩ := q2c w rec1 x1 n A' P (z :: R) y k hA' (by omega) hs'.1;refine ⟨Z ++ [z], ?_, ?_, ?_⟩
   ·rw [g1]; congr 1; simp
   ·refine (g2.append_right [z]).trans ?_;rw [List.append_assoc, List.append_assoc];exact List.Perm.append_left _ List.perm_append_comm
   ·refine List.pairwise_append.2 ⟨g3, List.pairwise_singleton _ _, fun a ha b hb => ?_⟩
    obtain rfl : b = z := by simpa using hb
    rcases List.mem_append.1 (g2.mem_iff.1 ha) with h | h
    ·exact hs'.2.2 a h b (by simp)
    ·obtain rfl : a = y := by simpa using h
     exact w.asy _ _ hl
  | false =>
   rw [cond_false];refine ⟨(A' ++ [z]) ++ [y], by congr 1; simp, List.Perm.refl _, List.pairwise_append.2 ⟨hs, List.pairwise_singleton _ _, fun a ha b hb => ?_⟩⟩
   obtain rfl : b = y := by simpa using hb
   rcases List.mem_append.1 ha with h | h
   ·exact w.tr _ _ _ (hs'.2.2 a h z (by simp)) hl
   ·obtain rfl : a = z := by simpa using h
    exact hl
theorem q2d (w : WOrd lt cmp) : ∀ (B A P Q : List S1079), 0 < A.length → Srt lt A → ∃ Z, xg (P.length : Int) cmp B.length ((P.length : Int) + (A.length : Int)) (P ++ A ++ B ++ Q) = some (P ++ Z ++ Q) ∧ Z.Perm (A ++ B) ∧ Srt lt Z
 | [], A, P, Q, hA, hs => ⟨A, by rw [List.length_nil, xg]; simp, by simp, hs⟩
 | y :: B, A, P, Q, hA, hs => by
  rw [List.length_cons, xg];obtain ⟨Z, g1, g2, g3⟩ := q2c w (fun z0_ z1_ => xg (P.length : Int) cmp B.length z0_ z1_) ((P.length : Int) + (A.length : Int)) A.length A P (B ++ Q) y ((((P.length : Int) + (A.length : Int)) - (P.length : Int)).toNat + 1) rfl (by omega) hs;rw [show P ++ A ++ (y :: B) ++ Q = P ++ A ++ y :: (B ++ Q) by simp, g1]
  have hl : Z.length = A.length + 1 := by rw [g2.length_eq]; simp
  obtain ⟨Z', k1, k2, k3⟩ := q2d w B Z P Q (by omega) g3;refine ⟨Z', ?_, ?_, k3⟩
  ·rw [show P ++ Z ++ (B ++ Q) = P ++ Z ++ B ++ Q by simp, show (P.length : Int) + (A.length : Int) + 1 = (P.length : Int) + (Z.length : Int) by omega];exact k1
  ·refine k2.trans ((g2.append_right B).trans ?_)
   simp
theorem q2e (w : WOrd lt cmp) (B P Q : List S1079) : ∃ Z, qp6 (P ++ B ++ Q) (P.length : Int) ((P.length : Int) + (B.length : Int)) cmp = some (P ++ Z ++ Q) ∧ Z.Perm B ∧ Srt lt Z := by
 unfold qp6
 match B with
 | [] =>
  refine ⟨[], ?_, List.Perm.refl _, List.Pairwise.nil⟩;rw [show (((P.length : Int) + ((([] : List S1079).length : Nat) : Int)) - ((P.length : Int) + 1)).toNat = 0 by simp only [List.length_nil]; omega, xg]
 | y :: B =>
  obtain ⟨Z, g1, g2, g3⟩ := q2d w B [y] P Q (by simp) (List.pairwise_singleton _ _);refine ⟨Z, ?_, g2, g3⟩;rw [show (((P.length : Int) + (((y :: B).length : Nat) : Int)) - ((P.length : Int) + 1)).toNat = B.length by simp; omega];rw [show P ++ (y :: B) ++ Q = P ++ [y] ++ B ++ Q by simp];exact g1
variable {lt : S1079 → S1079 → Bool} {cmp : S1079 → S1079 → Option Int}
def Chk (lt : S1079 → S1079 → Bool) (bs : Nat) (Cs : List (List S1079)) : Prop := ∀ C ∈ Cs, C.length = bs ∧ Srt lt C
theorem qrh {bs : Nat} : ∀ {Cs : List (List S1079)}, Chk lt bs Cs → Cs.flatten.length = Cs.length * bs
 | [], _ => by simp
 | C :: Cs, h => by
  rw [List.flatten_cons, List.length_append, qrh (fun D hD => h D (List.mem_cons_of_mem _ hD)), (h C List.mem_cons_self).1, List.length_cons, Nat.succ_mul]; omega
theorem qxm (w : WOrd lt cmp) (rec2 : Int → List S1079 → Option (List S1079)) (n bs : Nat) (hbs : 0 < bs) (hn : n ≤ 30000) : ∀ (k : Nat) (Cs : List (List S1079)) (T D : List S1079), Chk lt bs Cs → Srt lt T → T.length < bs → (D ++ Cs.flatten ++ T).length = n → Cs.length < k →
  ∃ Ds T', wk rec2 (n : Int) cmp (bs : Int) k (D.length : Int) ((D.length : Int) + 2 * (bs : Int)) (D ++ Cs.flatten ++ T) = rec2 ((bs : Int) * 2) (D ++ Ds.flatten ++ T') ∧ Chk lt (2 * bs) Ds ∧ Srt lt T' ∧ T'.length < 2 * bs ∧ (Ds.flatten ++ T').Perm (Cs.flatten ++ T)
 | 0, Cs, T, D, _, _, _, _, hk => by omega
 | k + 1, [], T, D, hC, hT, hl, hlen, hk => by
  have hlen' : D.length + T.length = n := by simpa using hlen
  refine ⟨[], T, ?_, fun C hC => by simp at hC, hT, by omega, List.Perm.refl _⟩;rw [wk, decide_eq_false (by omega), cond_false, decide_eq_false (by omega), cond_false, qdc]
 | k + 1, [C], T, D, hC, hT, hl, hlen, hk => by
  have hc := hC C List.mem_cons_self
  have hlen' : D.length + C.length + T.length = n := by simp at hlen; omega
  rw [wk, decide_eq_false (by omega), cond_false]
  by_cases ht : 0 < T.length
  ·obtain ⟨Z, q1, q2, q3⟩ := qxl w 30001 C T D [] (by omega) ht (by omega) hc.2 hT;have q1 : qba 30001 (D ++ C ++ T ++ []) (D.length : Int) ((D.length : Int) + (C.length : Int)) ((D.length : Int) + (C.length : Int) + (T.length : Int)) cmp = some (D ++ Z ++ []) := q1;rw [List.append_nil, List.append_nil, hc.1, show (D.length : Int) + (bs : Int) + (T.length : Int) = (n : Int) by omega] at q1;refine ⟨[], Z, ?_, fun C hC => by simp at hC, q3, by rw [q2.length_eq, List.length_append]; omega, by simpa using q2⟩;rw [decide_eq_true (by omega), cond_true, show D ++ [C].flatten ++ T = D ++ C ++ T by simp, q1];simp only [zc, qdc]
   simp
  ·have : T = [] := List.eq_nil_of_length_eq_zero (by omega);subst this;refine ⟨[], C, ?_, fun C hC => by simp at hC, hc.2, by omega, by simp⟩;rw [decide_eq_false (by simp at hlen'; omega), cond_false, qdc]
   simp
 | k + 1, C1 :: C2 :: Cs, T, D, hC, hT, hl, hlen, hk => by
  have h1 := hC C1 List.mem_cons_self;have h2 := hC C2 (List.mem_cons_of_mem _ List.mem_cons_self);have hC' : Chk lt bs Cs := fun E hE => hC E (List.mem_cons_of_mem _ (List.mem_cons_of_mem _ hE))
  have hlen' : D.length + C1.length + C2.length + (Cs.flatten ++ T).length = n := by simp at hlen ⊢; omega
  obtain ⟨Z, q1, q2, q3⟩ := qxl w 30001 C1 C2 D (Cs.flatten ++ T) (by omega) (by omega) (by omega) h1.2 h2.2;have q1 : qba 30001 (D ++ C1 ++ C2 ++ (Cs.flatten ++ T)) (D.length : Int) ((D.length : Int) + (C1.length : Int)) ((D.length : Int) + (C1.length : Int) + (C2.length : Int)) cmp = some (D ++ Z ++ (Cs.flatten ++ T)) := q1
  have hz : Z.length = 2 * bs := by rw [q2.length_eq, List.length_append]; omega
  rw [h1.1, h2.1, show (D.length : Int) + (bs : Int) + (bs : Int) = (D.length : Int) + 2 * (bs : Int) by omega] at q1;obtain ⟨Ds, T', e1, e2, e3, e4, e5⟩ := qxm w rec2 n bs hbs hn k Cs T (D ++ Z) hC' hT hl (by simp at hlen' ⊢; omega) (by simp at hk ⊢; omega);refine ⟨Z :: Ds, T', ?_, fun E hE => ?_, e3, e4, ?_⟩
  ·rw [wk, decide_eq_true (by omega), cond_true, show D ++ (C1 :: C2 :: Cs).flatten ++ T = D ++ C1 ++ C2 ++ (Cs.flatten ++ T) by simp, q1];simp only [zc];rw [show (D.length : Int) + 2 * (bs : Int) = ((D ++ Z).length : Int) by simp [hz], show D ++ Z ++ (Cs.flatten ++ T) = D ++ Z ++ Cs.flatten ++ T by simp, e1]
   simp
  ·rcases List.mem_cons.1 hE with rfl | hE
   ·exact ⟨hz, q3⟩
   ·exact e2 E hE
  ·rw [List.flatten_cons, List.flatten_cons, List.flatten_cons];have := (q2.append e5)
   simpa [List.append_assoc] using this
variable {lt : S1079 → S1079 → Bool} {cmp : S1079 → S1079 → Option Int}
theorem q43 (w : WOrd lt cmp) (n : Nat) (hn : n ≤ 30000) : ∀ (k bs : Nat) (Cs : List (List S1079)) (T : List S1079), 0 < bs → Chk lt bs Cs → Srt lt T → T.length < bs → (Cs.flatten ++ T).length = n → n ≤ bs + k →
  ∃ Z, vg (n : Int) cmp (k + 1) (bs : Int) (Cs.flatten ++ T) = some Z ∧ Z.Perm (Cs.flatten ++ T) ∧ Srt lt Z := by
 intro k
 induction k with
 | zero =>
  intro bs Cs T hb hC hT hl hlen hk;have hcl := qrh hC
  have hlen' : Cs.length * bs + T.length = n := by rw [← hcl]; simpa using hlen
  rw [vg, decide_eq_false (by omega), cond_false]
  match Cs, hC, hlen' with
  | [], _, _ => exact ⟨_, rfl, List.Perm.refl _, by simpa using hT⟩
  | [C], hC, hlen' =>
   have : T = [] := List.eq_nil_of_length_eq_zero (by simp at hlen'; omega);subst this;exact ⟨_, U, List.Perm.refl _, by simpa using (hC C List.mem_cons_self).2⟩
  | C1 :: C2 :: Cs, hC, hlen' =>
   exfalso
   simp only [List.length_cons, Nat.succ_mul] at hlen'
   omega
 | succ k ih =>
  intro bs Cs T hb hC hT hl hlen hk;have hcl := qrh hC
  have hlen' : Cs.length * bs + T.length = n := by rw [← hcl]; simpa using hlen
  by_cases hlt : bs < n
  ·rw [vg, decide_eq_true (by omega), cond_true]
   have hcn : Cs.length ≤ n := by
    have := Nat.le_mul_of_pos_right Cs.length hb
    omega
   obtain ⟨Ds, T', e1, e2, e3, e4, e5⟩ := qxm w (fun z0_ z1_ => vg (n : Int) cmp (k + 1) z0_ z1_) n bs hb hn (n + 1) Cs T [] hC hT hl (by simpa using hlen) (by omega)
   have e1 : wk (fun z0_ z1_ => vg (n : Int) cmp (k + 1) z0_ z1_) (n : Int) cmp (bs : Int) (n + 1) 0 (2 * (bs : Int)) (Cs.flatten ++ T) = vg (n : Int) cmp (k + 1) ((bs : Int) * 2) (Ds.flatten ++ T') := by simpa using e1
   rw [show ((n : Int) + 2 * (bs : Int) - (2 * (bs : Int))).toNat + 1 = n + 1 by omega, e1];obtain ⟨Z, f1, f2, f3⟩ := ih (2 * bs) Ds T' (by omega) e2 e3 e4 (by rw [e5.length_eq]; exact hlen) (by omega);refine ⟨Z, ?_, f2.trans e5, f3⟩;rw [show (bs : Int) * 2 = ((2 * bs : Nat) : Int) by omega];exact f1
  ·rw [vg, decide_eq_false (by omega), cond_false]
   match Cs, hC, hlen' with
   | [], _, _ => exact ⟨_, rfl, List.Perm.refl _, by simpa using hT⟩
   | [C], hC, hlen' =>
    have : T = [] := List.eq_nil_of_length_eq_zero (by simp at hlen'; omega);subst this;exact ⟨_, U, List.Perm.refl _, by simpa using (hC C List.mem_cons_self).2⟩
   | C1 :: C2 :: Cs, hC, hlen' =>
    exfalso
    simp only [List.length_cons, Nat.succ_mul] at hlen'
    omega
theorem qxn (w : WOrd lt cmp) (n : Nat) (hn : n ≤ 30000) : ∀ (k : Nat) (Cs : List (List S1079)) (R : List S1079), Chk lt 20 Cs → (Cs.flatten ++ R).length = n → R.length < k →
  ∃ Z, qa0 (n : Int) cmp k (Cs.flatten.length : Int) ((Cs.flatten.length : Int) + 20) (Cs.flatten ++ R) = some Z ∧ Z.Perm (Cs.flatten ++ R) ∧ Srt lt Z
 | 0, Cs, R, _, _, hk => by omega
 | k + 1, Cs, R, hC, hlen, hk => by
  have hlen' : Cs.flatten.length + R.length = n := by simpa using hlen
  rw [qa0]
  by_cases h20 : 20 ≤ R.length
  ·rw [decide_eq_true (by omega), cond_true];obtain ⟨B, R', rfl, hB⟩ : ∃ B R', R = B ++ R' ∧ B.length = 20 := ⟨R.take 20, R.drop 20, (List.take_append_drop ..).symm, by rw [List.length_take]; omega⟩;obtain ⟨Z, q1, q2, q3⟩ := q2e w B Cs.flatten R';rw [hB] at q1
   have q1 : qp6 (Cs.flatten ++ (B ++ R')) (Cs.flatten.length : Int) ((Cs.flatten.length : Int) + 20) cmp = some (Cs.flatten ++ Z ++ R') := by rw [← List.append_assoc]; exact q1
   rw [q1];simp only [zc]
   have hz : Z.length = 20 := by rw [q2.length_eq]; exact hB
   have hC2 : Chk lt 20 (Cs ++ [Z]) := fun D hD => by
    rcases List.mem_append.1 hD with h | h
    ·exact hC D h
    ·obtain rfl : D = Z := by simpa using h
     exact ⟨hz, q3⟩
   have hfl : (Cs ++ [Z]).flatten = Cs.flatten ++ Z := by simp
   obtain ⟨W, f1, f2, f3⟩ := qxn w n hn k (Cs ++ [Z]) R' hC2 (by rw [hfl]; simp only [List.length_append] at hlen' ⊢; omega) (by simp at hk; omega);rw [hfl] at f1 f2;refine ⟨W, ?_, f2.trans ?_, f3⟩
   ·rw [show (Cs.flatten.length : Int) + 20 = ((Cs.flatten ++ Z).length : Int) by rw [List.length_append, hz]; omega];exact f1
   ·rw [List.append_assoc];exact List.Perm.append_left _ (q2.append_right R')
  ·rw [decide_eq_false (by omega), cond_false];obtain ⟨Z, q1, q2, q3⟩ := q2e w R Cs.flatten [];rw [List.append_nil, List.append_nil, show (Cs.flatten.length : Int) + (R.length : Int) = (n : Int) by omega] at q1;rw [q1];simp only [zc];obtain ⟨W, f1, f2, f3⟩ := q43 w n hn (n - 20) 20 Cs Z (by omega) hC q3 (by rw [q2.length_eq]; omega) (by rw [List.length_append, q2.length_eq]; exact hlen') (by omega);refine ⟨W, ?_, f2.trans (List.Perm.append_left _ q2), f3⟩;rw [show ((n : Int) - 20).toNat + 1 = (n - 20) + 1 by omega];exact f1
theorem q44 (w : WOrd lt cmp) (l : List S1079) (hn : l.length ≤ 30000) : ∃ Z, qrg l cmp = some Z ∧ Z.Perm l ∧ Srt lt Z := by
 obtain ⟨Z, q1, q2, q3⟩ := qxn w l.length hn (l.length + 1) [] l (fun C hC => by simp at hC) (by simp) (by omega);refine ⟨Z, ?_, by simpa using q2, q3⟩;unfold qrg qxe;rw [show (((l.length : Int) + 20 - 20).toNat + 1) = l.length + 1 by omega]
 have q1 : qa0 (l.length : Int) cmp (l.length + 1) 0 20 l = some Z := by simpa using q1
 rw [q1]; rfl
theorem q2f : ∀ x : List UInt8, Op.bytesLess x x = false
 | [] => rfl
 | a :: x => by simp [Op.bytesLess, q2f x]
theorem q7x : ∀ x y z : List UInt8, Op.bytesLess x y = true → Op.bytesLess y z = true → Op.bytesLess x z = true
 | _, _, [], _, h => by cases ‹List UInt8› <;> simp [Op.bytesLess] at h
 | _, [], _ :: _, h, _ => by cases ‹List UInt8› <;> simp [Op.bytesLess] at h
 | [], _ :: _, _ :: _, _, _ => rfl
 | a :: x, b :: y, c :: z, h, k => by
  simp only [Op.bytesLess, Bool.or_eq_true, decide_eq_true_eq, Bool.and_eq_true, beq_iff_eq] at h k ⊢
  rcases h with h | ⟨rfl, h⟩
  ·rcases k with k | ⟨rfl, k⟩
   ·exact .inl (UInt8.lt_trans h k)
   ·exact .inl h
  ·rcases k with k | ⟨rfl, k⟩
   ·exact .inl k
   ·exact .inr ⟨U, q7x x y z h k⟩
theorem q2g : ∀ x y : List UInt8, Op.bytesLess x y = false → Op.bytesLess y x = false → x = y
 | [], [], _, _ => rfl
 | [], _ :: _, h, _ => by simp [Op.bytesLess] at h
 | _ :: _, [], _, h => by simp [Op.bytesLess] at h
 | a :: x, b :: y, h, k => by
  simp only [Op.bytesLess, Bool.or_eq_false_iff, decide_eq_false_iff_not, Bool.and_eq_false_iff, beq_eq_false_iff_ne] at h k;have e : a = b := UInt8.le_antisymm (UInt8.not_lt.1 k.1) (UInt8.not_lt.1 h.1);subst e;rw [q2g x y (h.2.resolve_left fun g => g rfl) (k.2.resolve_left fun g => g rfl)]
theorem qsz (a : ByteArray) : wu a a = false := q2f _
theorem qzz {a b c : ByteArray} (h : wu a b = true) (k : wu b c = true) : wu a c = true := q7x _ _ _ h k
theorem qw3 {a b : ByteArray} (h : wu a b = false) (k : wu b a = false) : a = b := by
 have := q2g _ _ h k;have e := toList_inj (s := a) (s' := b);rw [this] at e
 simpa using e.symm
theorem zcu {a b : ByteArray} (h : wu a b = true) (k : wu b a = true) : False := by
 have := qzz h k;rw [qsz] at this; cases this
theorem qri (a b : ByteArray) : s133 a b = bif wu a b then -1 else bif decide (a = b) then 0 else 1 := by
 have h : ∀ x, s183 x = false := fun x => by unfold s183; simp
 unfold s133;rw [h, h]
 cases h1 : wu a b
 ·by_cases h2 : a = b <;> simp [h2]
 ·rfl
def LtM (x y : S1079) : Prop := x.Moment < y.Moment ∨ (x.Moment = y.Moment ∧ (wu x.Kind y.Kind = true ∨ (x.Kind = y.Kind ∧ wu x.Name y.Name = true)))
def ltM (x y : S1079) : Bool := decide (qp9 x y < 0)
theorem qxo (a b : Int) : s167 a b = bif decide (a < b) then -1 else bif decide (b < a) then 1 else 0 := by
 have h : ∀ x, s202 x = false := fun x => by unfold s202; simp
 unfold s167;rw [h, h]; rfl
theorem q7y (a b c : Int) : s176 [a, b, c] = bif decide (a ≠ 0) then a else bif decide (b ≠ 0) then b else bif decide (c ≠ 0) then c else 0 := rfl
theorem qei (x y : S1079) : ltM x y = true ↔ LtM x y := by
 unfold ltM LtM qp9;rw [decide_eq_true_iff, q7y, qxo, qri, qri]
 by_cases h1 : x.Moment < y.Moment
 ·simp [h1]
 ·by_cases h2 : y.Moment < x.Moment
  ·have : ¬ x.Moment = y.Moment := by omega
   simp [h1, h2, this]
  ·have h3 : x.Moment = y.Moment := by omega
   simp only [h1, h2, h3, decide_false, cond_false, true_and, false_or]
   cases hk : wu x.Kind y.Kind with
   | true => simp
   | false =>
    by_cases hke : x.Kind = y.Kind
    ·simp only [hke, decide_true, cond_true, cond_false]
     cases hn : wu x.Name y.Name with
     | true => simp
     | false =>
      by_cases hne : x.Name = y.Name
      ·simp [hne]
      ·simp [hne]
    ·simp [hke]
theorem LtM.tr {x y z : S1079} (h : LtM x y) (k : LtM y z) : LtM x z := by
 rcases h with h | ⟨h1, h⟩ <;> rcases k with k | ⟨k1, k⟩
 ·exact .inl (by omega)
 ·exact .inl (by omega)
 ·exact .inl (by omega)
 ·refine .inr ⟨by omega, ?_⟩
  rcases h with h | ⟨h2, h⟩ <;> rcases k with k | ⟨k2, k⟩
  ·exact .inl (qzz h k)
  ·exact .inl (by rw [← k2]; exact h)
  ·exact .inl (by rw [h2]; exact k)
  ·exact .inr ⟨h2.trans k2, qzz h k⟩
theorem LtM.irr (x : S1079) : ¬ LtM x x := by
 rintro (h | ⟨_, h | ⟨_, h⟩⟩)
 ·omega
 ·rw [qsz] at h; cases h
 ·rw [qsz] at h; cases h
theorem LtM.tri (x y : S1079) : LtM x y ∨ LtM y x ∨ (x.Moment = y.Moment ∧ x.Kind = y.Kind ∧ x.Name = y.Name) := by
 by_cases h1 : x.Moment < y.Moment
 ·exact .inl (.inl h1)
 ·by_cases h2 : y.Moment < x.Moment
  ·exact .inr (.inl (.inl h2))
  ·have h3 : x.Moment = y.Moment := by omega
   cases hk : wu x.Kind y.Kind with
   | true => exact .inl (.inr ⟨h3, .inl hk⟩)
   | false =>
    cases hk2 : wu y.Kind x.Kind with
    | true => exact .inr (.inl (.inr ⟨h3.symm, .inl hk2⟩))
    | false =>
     have hke := qw3 hk hk2
     cases hn : wu x.Name y.Name with
     | true => exact .inl (.inr ⟨h3, .inr ⟨hke, hn⟩⟩)
     | false =>
      cases hn2 : wu y.Name x.Name with
      | true => exact .inr (.inl (.inr ⟨h3.symm, .inr ⟨hke.symm, hn2⟩⟩))
      | false => exact .inr (.inr ⟨h3, hke, qw3 hn hn2⟩)
theorem zcv : WOrd ltM (fun x y => some (qp9 x y)) where
 c := fun x y => ⟨_, rfl, rfl⟩
 asy := fun x y h => by
  cases hc : ltM y x with
  | false => rfl
  | true => exact absurd (((qei x y).1 h).tr ((qei y x).1 hc)) (LtM.irr x)
 tr := fun x y z h1 h2 => by
  cases hc : ltM z x with
  | false => rfl
  | true =>
   have hz := (qei z x).1 hc
   rcases LtM.tri x y with h | h | ⟨e1, e2, e3⟩
   ·rw [(qei z y).2 (hz.tr h)] at h2; cases h2
   ·rw [(qei y x).2 h] at h1; cases h1
   ·have : LtM z y := by unfold LtM at hz ⊢; rw [← e1, ← e2, ← e3]; exact hz
    rw [(qei z y).2 this] at h2; cases h2
theorem qz6 {a b : List S1079} (ha : qap a = some 0) (hb : qap b = some 0) (hl : a.length + b.length ≤ 30000) : ∃ Z, qpz a b = some (Z, 0) ∧ Z.Perm (a ++ b) ∧ Srt ltM Z ∧ qap Z = some 0 := by
 obtain ⟨Z, q1, q2, q3⟩ := q44 zcv (a ++ b) (by rw [List.length_append]; exact hl)
 have hz : Z.length ≤ 30000 := by rw [q2.length_eq, List.length_append]; exact hl
 refine ⟨Z, ?_, q2, q3, ?_⟩
 ·unfold qpz;rw [ha, hb];simp only [zc]
  have h0 : vr [0, 0, (xk (decide (30000 < IntKind.i64.wrap ((List.length a : Int) + (List.length b : Int)))) 5)] = 0 := by
   refine j8.2 fun x hx => ?_;simp only [List.mem_cons, List.not_mem_nil, or_false] at hx
   rcases hx with rfl | rfl | rfl
   ·rfl
   ·rfl
   ·refine (xj (by decide)).2 (decide_eq_false ?_);rw [wrap_i64 (by unfold I64; omega)]; omega
  rw [h0, decide_eq_false (by simp), cond_false, q1]
 ·refine (qgv hz).2 ⟨fun m hm => ?_, ?_⟩
  ·have := q2.mem_iff.1 hm
   rcases List.mem_append.1 this with h | h
   ·exact ((qgv (by omega)).1 ha).1 m h
   ·exact ((qgv (by omega)).1 hb).1 m h
  ·refine List.pairwise_map.2 (q3.imp fun {x y} h => ?_)
   by_cases hlt : y.Moment < x.Moment
   ·rw [(qei y x).2 (.inl hlt)] at h; cases h
   ·omega
theorem qs0 : ∀ {l : List Int} (k : Nat), qcd l k = 0 ↔ ∀ x ∈ l, x = 0
 | [], k => by simp [qcd]
 | y :: t, k => by
  rw [qcd]
  by_cases h : y = 0
  ·subst h; simp [qs0 (l := t) (k + 1)]
  ·simp [h]
theorem vx {l : List Int} : vu l = 0 ↔ ∀ x ∈ l, x = 0 := qs0 0
theorem zcw {r : S115} (h : qcx r = 0) : s102 r.Period = 0 ∧ 0 ≤ r.Minute ∧ r.Minute ≤ 1439 := by
 unfold qcx at h;have h := j8.1 h;have h1 := h (s102 r.Period) (by simp);have h2 := h (qbk r.Minute 0 (1440 - 1)) (by simp);exact ⟨h1, by have := qdr.1 h2; omega⟩
theorem q45 {a0 : List S2062} {a1 : List S1079} {a2 : S115} (h0 : qa8 a0 = 0) (h1 : qap a1 = some 0) (h2 : qcx a2 = 0) : qxp a0 a1 a2 = some (!inI a2.Minute (ivs a1 a2 a0)) := by
 obtain ⟨l1, l2⟩ := qnq h0;obtain ⟨hp, m0, m1⟩ := zcw h2;obtain ⟨F, g1, g2, g3⟩ := q4u (a1 := a1) (show a0.length ≤ 1000 by omega) l2 hp
 have hz : vr [vr [qa8 a0, 0], qcx a2] = 0 := j8.2 fun x hx => by
  simp only [List.mem_cons, List.not_mem_nil, or_false] at hx
  rcases hx with rfl | rfl
  ·exact j8.2 fun y hy => by
    simp only [List.mem_cons, List.not_mem_nil, or_false] at hy
    rcases hy with rfl | rfl
    ·exact h0
    ·rfl
  ·exact h2
 unfold qxp q0n qgw;rw [h1];simp only [zc];rw [hz, decide_eq_false (by simp), cond_false, g1];simp only [zc];unfold qzs
 have : ixO F a2.Minute = some (inI a2.Minute (ivs a1 a2 a0)) := by
  unfold ixO;rw [decide_eq_true m0, cond_true];have := g3 a2.Minute.toNat (by omega)
  rwa [Int.toNat_of_nonneg m0] at this
 rw [this]
 simp [zc]
def qa7 (x : S115) : S5100 := S5100.mk x x.Carrier [] []
theorem qok {a0 : List S2062} {a1 : S5042} {a2 : S115} {ms : List S1079} (h0 : qa8 a0 = 0) (h1 : qp2 a1 = some 0) (h2 : qdt a2 = 0) (h3 : qfg a1 a2.Name = false) (h3' : a1.Slots.length < 64) (h4 : qfx a1 (-1) = some ms) (h5 : qap ms = some 0) (h6 : qcx a2 = 0)
  (h7 : ∀ x ∈ a1.Slots, x.Leases.length ≤ 1000000 ∧ x.Shares.length ≤ 1000000) : qfe a0 a1 a2 = some (bif inI a2.Minute (ivs ms a2 a0) then (S5042.mk [] [], 14) else (S5042.mk (a1.Slots ++ [qa7 a2]) a1.Waiting, 0)) := by
 unfold qfe;rw [h1];simp only [zc]
 have hz : vu [qa8 a0, 0] = 0 := vx.2 fun y hy => by
  simp only [List.mem_cons, List.not_mem_nil, or_false] at hy
  rcases hy with rfl | rfl
  ·exact h0
  ·rfl
 rw [hz, decide_eq_false (by simp), cond_false];unfold qwr
 have hz2 : vu [(qdt a2), (jv (qfg a1 a2.Name) 9), (jv (decide (64 ≤ (List.length a1.Slots : Int))) 5)] = 0 := vx.2 fun y hy => by
  simp only [List.mem_cons, List.not_mem_nil, or_false] at hy
  rcases hy with rfl | rfl | rfl
  ·exact h2
  ·rw [h3]; rfl
  ·rw [decide_eq_false (by omega)]; rfl
 rw [hz2, decide_eq_false (by simp), cond_false, h4];simp only [zc];rw [q45 h0 h5 h6];simp only [zc, Bool.not_not]
 cases inI a2.Minute (ivs ms a2 a0) with
 | true => rfl
 | false =>
  rw [cond_false, qmh h7]
  rfl
open Go.Proofs
def q2h (a1 : List ByteArray) : List ByteArray → Nat → Option Bool
 | [], k2 => some true
 | y3 :: t4, k2 => zc (ixO a1 ((k2 : Nat) : Int)) fun y5 => (bif !decide (y3 = y5) then some false else q2h a1 t4 (k2 + 1))
def s60 (a0 : List ByteArray) (a1 : List ByteArray) : Option Bool :=
 (bif decide ((List.length a0 : Int) ≠ (List.length a1 : Int)) then some false else q2h a1 a0 0)
def qgy (a1 : ByteArray) : List ByteArray → Nat → Bool
 | [], k2 => false
 | y3 :: t4, k2 => (bif decide (y3 = a1) then true else qgy a1 t4 (k2 + 1))
def s92 (a0 : List ByteArray) (a1 : ByteArray) : Bool :=
 qgy a1 a0 0
theorem c92 {g : GL} (a0 : List ByteArray) (a1 : ByteArray)    : Con (EG g) 138 [G.sl 1 (List.map cStr a0), G.str a1] (G.bool (s92 a0 a1)) := by
 generalize hR : s92 a0 a1 = R;unfold s92 at hR;refine qm Tryz.func138 U U fun w0 M0 => ?_;refine zu (f := cStr) (l := a0) 0 U fun hla0 => ?_;refine qb<|qa [.p]<|sa U U<|qd<|qb<|qb<|qa [.p]<|sa U U<|qd<|qp<|zf (γ := Nat × (List ByteArray)) (fun g => ([(0, .g (G.sl 1 (List.map cStr a0))), (1, .g (G.str a1)), (5, .g (G.int ((g.1 : Nat) : Int)))], [])) (fun g => a0.drop g.1 = g.2 ∧ qgy a1 g.2 g.1 = R) (fun g => List.length g.2) ⟨U, (0, a0), ⟨U, U, U, O⟩, O, U, ⟨U, (by exact hR)⟩, O⟩ ?_
 ·rintro ⟨k2, t4⟩ ⟨hd, hR⟩;replace hd : a0.drop k2 = t4 := hd;replace hR : qgy a1 t4 k2 = R := hR;refine qb<|qb<|qa [.p, .p, .p, .p]<|sm U U<|sm U U<|su (zb (f := cStr) (l := a0) U Tryz.underlying35 U) U<|su (zd U U U) U<|qd ?_;refine zu (f := cStr) (l := a0) 0 U fun hlz1 => ?_;refine ql _ U (fun h1 => ?_) (fun h1 => ?_)
  ·replace h1 : (decide (((k2 : Nat) : Int) < (List.length a0 : Int))) = true := h1;obtain ⟨y3, t4, rfl, hx1, hd⟩ := zq hd (decT h1);replace h1 := decT h1;rw [qgy] at hR;(try dsimp only at hR);refine qn<|qb<|qp<|qb<|qa [.p, .p, .p, .p, .p, .p]<|sm U U<|sm U U<|su (z5 (f := cStr) (l := a0) (a := y3) U Tryz.underlying35 ty9 U U (Int.natCast_nonneg _) hx1) U<|su (qf U ty9 U) U<|sm U U<|su (vk U U U) U<|qd ?_;refine ql _ U (fun h3 => ?_) (fun h3 => ?_)
   ·replace hR := zk hR h3;refine qb<|qa [.p]<|sa U U<|qd<|qo ?_;subst hR;exact za U (rv_g U)
   ·replace h3 : (decide (y3 = a1)) = false := h3;replace hR := zl hR h3;(try simp only [bB] at h3);refine qn<|qa [.p, .p, .p]<|sm U U<|su (zn U U U iE) U<|sa U U<|qd ?_;exact ⟨U, (k2 + 1, t4), ⟨U, U, U, O⟩, O, U, ⟨hd, hR⟩, by simp⟩
  ·replace h1 : (decide (((k2 : Nat) : Int) < (List.length a0 : Int))) = false := h1;obtain rfl := zz hd (decF h1);rw [qgy] at hR;refine zw<|qb<|qa [.p]<|sa U U<|qd<|qo ?_;subst hR;exact za U (rv_g U)
def qxq (a0 : S45) (a1 : Int) : Bool :=
 (decide ((s40 a0) ≠ 0)) || (decide (IntKind.i64.wrap (a0.fTo - a0.fFrom) < a1))
theorem zcx {g : GL} (a0 : S45) (a1 : Int)    : Con (EG g) 71 [G.agg (S45.c a0), G.int a1] (G.bool (qxq a0 a1)) := by
 generalize hR : qxq a0 a1 = R;unfold qxq at hR;refine qm Tryz.func71 U U fun w0 M0 => ?_;refine qb<|qa [.p, .p]<|su (zi U U) U<|sa U U<|qd<|qb<|qa [.p, .p, .p, .p, .p, .p, .p, .p, .p, .p, .p, .p, .p]<|su (qr U ty46 U U U) U<|su (qg U K40 U (c40 a0) (qe U qk)) U<|su (zx U U U) U<|sm U U<|sg U U (fun h => qc U qa4 U) U<|sg U U (fun h => qf U ty3 (gd h U)) U<|sg U U (fun h => qc U qa3 U) U<|sg U U (fun h => qf U ty3 (gd h U)) U<|sg U U (fun h => kq U (gd h U) (gd h U)) U<|sg U U (fun h => qj U U) U<|sg U U (fun h => zd U (gd h U) (gd h U)) U<|su (jg U U U U) U<|sa U U<|qd<|qo ?_;subst hR;exact za U (rv_g U)
def qls (a0 : S2062) : Int :=
 (bif !(s91 a0.Name) then 8 else (bif ((!decide (a0.Kind = (⟨#[65]⟩))) && (!decide (a0.Kind = (⟨#[68]⟩)))) && (!decide (a0.Kind = (⟨#[84]⟩))) then 13 else (bif !(qrb a0.Terminal) then 8 else (bif (((qg3 a0.Length 1 1440) || (qg3 a0.Step 1 1440)) || (qg3 a0.fFrom 0 1439)) || (qg3 a0.fTo 0 1439) then 3 else (bif decide (a0.fTo < a0.fFrom) then 11 else (bif decide ((s40 a0.Period) ≠ 0) then (s40 a0.Period) else (bif (qg3 a0.Most 0 999999999) then 3 else 0)))))))
theorem q7z {g : GL} (a0 : S2062)    : Con (EG g) 72 [G.agg (S2062.c a0)] (G.int (qls a0)) := by
 generalize hR : qls a0 = R;unfold qls at hR;refine qm Tryz.func72 U U fun w0 M0 => ?_;refine qb<|qa [.p, .p]<|su (zi U U) U<|sa U U<|qd<|qb<|qb<|qa [.p, .p, .p, .p]<|su (qc U qjg U) U<|su (qf U ty9 U) U<|su (qg U K91 U (c91 a0.Name) (qe U qk)) U<|su (jo U U) U<|qd ?_;refine ql _ U (fun h1 => ?_) (fun h1 => ?_)
 ·replace hR := zk hR h1;refine qb<|qa [.p]<|sa U U<|qd<|qo ?_;subst hR;exact za U (rv_g U)
 ·replace h1 : (!(s91 a0.Name)) = false := h1;replace hR := zl hR h1;(try simp only [bB] at h1);refine qn<|qb<|qb<|qa [.p, .p, .p, .p, .p, .p, .p, .p, .p, .p, .p, .p, .p]<|su (qc U qjh U) U<|su (qf U ty9 U) U<|su (qbn U U U) U<|sm U U<|sg U U (fun h => qc U qjh U) U<|sg U U (fun h => qf U ty9 (gd h U)) U<|sg U U (fun h => qbn U (gd h U) U) U<|su (zt U U U U) U<|sm U U<|sg U U (fun h => qc U qjh U) U<|sg U U (fun h => qf U ty9 (gd h U)) U<|sg U U (fun h => qbn U (gd h U) U) U<|su (zt U U U U) U<|qd ?_;refine ql _ U (fun h2 => ?_) (fun h2 => ?_)
  ·replace hR := zk hR h2;refine qb<|qa [.p]<|sa U U<|qd<|qo ?_;subst hR;exact za U (rv_g U)
  ·replace h2 : (((!decide (a0.Kind = (⟨#[65]⟩))) && (!decide (a0.Kind = (⟨#[68]⟩)))) && (!decide (a0.Kind = (⟨#[84]⟩)))) = false := h2;replace hR := zl hR h2;(try simp only [bB] at h2);refine qn<|qb<|qb<|qa [.p, .p, .p, .p]<|su (qc U qrq U) U<|su (qf U ty9 U) U<|su (qg U q89 U (zcy a0.Terminal) (qe U qk)) U<|su (jo U U) U<|qd ?_;refine ql _ U (fun h3 => ?_) (fun h3 => ?_)
   ·replace hR := zk hR h3;refine qb<|qa [.p]<|sa U U<|qd<|qo ?_;subst hR;exact za U (rv_g U)
   ·replace h3 : (!(qrb a0.Terminal)) = false := h3;replace hR := zl hR h3;(try simp only [bB] at h3);refine qn<|qb<|qb<|qa [.p, .p, .p, .p, .p, .p, .p, .p, .p, .p, .p, .p, .p, .p, .p, .p, .p, .p]<|su (qc U qyq U) U<|su (qf U ty3 U) U<|su (qg U qup U (qxr a0.Length 1 1440) (qe U (qe U (qe U qk)))) U<|sm U U<|sg U U (fun h => qc U qji U) U<|sg U U (fun h => qf U ty3 (gd h U)) U<|sg U U (fun h => qg U qup U (qxr a0.Step 1 1440) (qe (gd h U) (qe U (qe U qk)))) U<|su (jg U U U U) U<|sm U U<|sg U U (fun h => qc U qm9 U) U<|sg U U (fun h => qf U ty3 (gd h U)) U<|sg U U (fun h => qg U qup U (qxr a0.fFrom 0 1439) (qe (gd h U) (qe U (qe U qk)))) U<|su (jg U U U U) U<|sm U U<|sg U U (fun h => qc U qna U) U<|sg U U (fun h => qf U ty3 (gd h U)) U<|sg U U (fun h => qg U qup U (qxr a0.fTo 0 1439) (qe (gd h U) (qe U (qe U qk)))) U<|su (jg U U U U) U<|qd ?_;refine ql _ U (fun h4 => ?_) (fun h4 => ?_)
    ·replace hR := zk hR h4;refine qb<|qa [.p]<|sa U U<|qd<|qo ?_;subst hR;exact za U (rv_g U)
    ·replace h4 : ((((qg3 a0.Length 1 1440) || (qg3 a0.Step 1 1440)) || (qg3 a0.fFrom 0 1439)) || (qg3 a0.fTo 0 1439)) = false := h4;replace hR := zl hR h4;(try simp only [bB] at h4);refine qn<|qb<|qb<|qa [.p, .p, .p, .p, .p]<|su (qc U qm9 U) U<|su (qf U ty3 U) U<|su (qc U qna U) U<|su (qf U ty3 U) U<|su (zy U U U) U<|qd ?_;refine ql _ U (fun h5 => ?_) (fun h5 => ?_)
     ·replace hR := zk hR h5;refine qb<|qa [.p]<|sa U U<|qd<|qo ?_;subst hR;exact za U (rv_g U)
     ·replace h5 : (decide (a0.fTo < a0.fFrom)) = false := h5;replace hR := zl hR h5;(try simp only [bB] at h5);refine qn<|qb<|qb<|qa [.p, .p, .p, .p]<|su (qc U qnb U) U<|su (qr U ty46 U U U) U<|su (qg U K40 U (c40 a0.Period) (qe U qk)) U<|sa U U<|qd<|qb<|qa [.p, .p]<|sm U U<|su (zx U U U) U<|qd ?_;refine ql _ U (fun h6 => ?_) (fun h6 => ?_)
      ·replace hR := zk hR h6;refine qb<|qa [.p, .p]<|sm U U<|sa U U<|qd<|qo ?_;subst hR;exact za U (rv_g U)
      ·replace h6 : (decide ((s40 a0.Period) ≠ 0)) = false := h6;replace hR := zl hR h6;(try simp only [bB] at h6);refine qn<|qb<|qb<|qa [.p, .p, .p]<|su (qc U qyr U) U<|su (qf U ty3 U) U<|su (qg U qup U (qxr a0.Most 0 999999999) (qe U (qe U (qe U qk)))) U<|qd ?_;refine ql _ U (fun h7 => ?_) (fun h7 => ?_)
       ·replace hR := zk hR h7;refine qb<|qa [.p]<|sa U U<|qd<|qo ?_;subst hR;exact za U (rv_g U)
       ·replace hR := zl hR h7;refine qn<|qb<|qa [.p]<|sa U U<|qd<|qo ?_;subst hR;exact za U (rv_g U)
def qb8 (a1 : ByteArray) : List S2062 → Nat → Int
 | [], k2 => (-1)
 | y3 :: t4, k2 => (bif decide (y3.Name = a1) then ((k2 : Nat) : Int) else qb8 a1 t4 (k2 + 1))
def qt7 (a0 : List S2062) (a1 : ByteArray) : Int :=
 qb8 a1 a0 0
theorem zcz {g : GL} (a0 : List S2062) (a1 : ByteArray)    : Con (EG g) 74 [G.sl 11 (List.map S2062.c a0), G.str a1] (G.int (qt7 a0 a1)) := by
 generalize hR : qt7 a0 a1 = R;unfold qt7 at hR;refine qm Tryz.func74 U U fun w0 M0 => ?_;refine zu (f := S2062.c) (l := a0) 0 U fun hla0 => ?_;refine qb<|qa [.p]<|sa U U<|qd<|qb<|qb<|qa [.p]<|sa U U<|qd<|qp<|zf (γ := Nat × (List S2062)) (fun g => ([(0, .g (G.sl 11 (List.map S2062.c a0))), (1, .g (G.str a1)), (5, .g (G.int ((g.1 : Nat) : Int)))], [])) (fun g => a0.drop g.1 = g.2 ∧ qb8 a1 g.2 g.1 = R) (fun g => List.length g.2) ⟨U, (0, a0), ⟨U, U, U, O⟩, O, U, ⟨U, (by exact hR)⟩, O⟩ ?_
 ·rintro ⟨k2, t4⟩ ⟨hd, hR⟩;replace hd : a0.drop k2 = t4 := hd;replace hR : qb8 a1 t4 k2 = R := hR;refine qb<|qb<|qa [.p, .p, .p, .p]<|sm U U<|sm U U<|su (zb (f := S2062.c) (l := a0) U Tryz.underlying91 U) U<|su (zd U U U) U<|qd ?_;refine zu (f := S2062.c) (l := a0) 0 U fun hlz1 => ?_;refine ql _ U (fun h1 => ?_) (fun h1 => ?_)
  ·replace h1 : (decide (((k2 : Nat) : Int) < (List.length a0 : Int))) = true := h1;obtain ⟨y3, t4, rfl, hx1, hd⟩ := zq hd (decT h1);replace h1 := decT h1;rw [qb8] at hR;(try dsimp only at hR);refine qn<|qb<|qp<|qb<|qa [.p, .p, .p, .p, .p, .p, .p]<|sm U U<|sm U U<|su (z5 (f := S2062.c) (l := a0) (a := y3) U Tryz.underlying91 qcl U U (Int.natCast_nonneg _) hx1) U<|su (qc U qjg U) U<|su (qf U ty9 U) U<|sm U U<|su (vk U U U) U<|qd ?_;refine ql _ U (fun h3 => ?_) (fun h3 => ?_)
   ·replace hR := zk hR h3;refine qb<|qa [.p, .p]<|sm U U<|sa U U<|qd<|qo ?_;subst hR;exact za U (rv_g U)
   ·replace h3 : (decide (y3.Name = a1)) = false := h3;replace hR := zl hR h3;(try simp only [bB] at h3);refine qn<|qa [.p, .p, .p]<|sm U U<|su (zn U U U iE) U<|sa U U<|qd ?_;exact ⟨U, (k2 + 1, t4), ⟨U, U, U, O⟩, O, U, ⟨hd, hR⟩, by simp⟩
  ·replace h1 : (decide (((k2 : Nat) : Int) < (List.length a0 : Int))) = false := h1;obtain rfl := zz hd (decF h1);rw [qb8] at hR;refine zw<|qb<|qa [.p]<|sa U U<|qd<|qo ?_;subst hR;exact za U (rv_g U)
def qdb (a0 : List S2062) : List S2062 → Nat → Int
 | [], k2 => 0
 | y3 :: t4, k2 => (bif decide ((qls y3) ≠ 0) then (qls y3) else (bif decide (0 ≤ (qt7 (List.take (Int.toNat ((k2 : Nat) : Int)) a0) y3.Name)) then 9 else qdb a0 t4 (k2 + 1)))
def qnp (a0 : List S2062) : Int :=
 (bif decide (32 < (List.length a0 : Int)) then 5 else qdb a0 a0 0)
theorem zb5 {g : GL} (a0 : List S2062)    : Con (EG g) 33 [G.sl 11 (List.map S2062.c a0)] (G.int (qnp a0)) := by
 generalize hR : qnp a0 = R;unfold qnp at hR;refine qm Tryz.func33 U U fun w0 M0 => ?_;refine zu (f := S2062.c) (l := a0) 0 U fun hla0 => ?_;refine qb<|qa [.p]<|sa U U<|qd<|qb<|qb<|qa [.p, .p, .p]<|sm U U<|su (zb (f := S2062.c) (l := a0) U Tryz.underlying91 U) U<|su (zy U U U) U<|qd ?_;refine ql _ U (fun h1 => ?_) (fun h1 => ?_)
 ·replace hR := zk hR h1;refine qb<|qa [.p]<|sa U U<|qd<|qo ?_;subst hR;exact za U (rv_g U)
 ·replace h1 : (decide (32 < (List.length a0 : Int))) = false := h1;replace hR := zl hR h1;(try simp only [bB] at h1);refine qn<|qb<|qb<|qa [.p]<|sa U U<|qd<|qp<|zf (γ := Nat × (List S2062)) (fun g => ([(0, .g (G.sl 11 (List.map S2062.c a0))), (3, .g (G.int ((g.1 : Nat) : Int)))], [])) (fun g => a0.drop g.1 = g.2 ∧ qdb a0 g.2 g.1 = R) (fun g => List.length g.2) ⟨U, (0, a0), ⟨U, U, O⟩, O, U, ⟨U, (by exact hR)⟩, O⟩ ?_
  ·rintro ⟨k2, t4⟩ ⟨hd, hR⟩;replace hd : a0.drop k2 = t4 := hd;replace hR : qdb a0 t4 k2 = R := hR;refine qb<|qb<|qa [.p, .p, .p, .p]<|sm U U<|sm U U<|su (zb (f := S2062.c) (l := a0) U Tryz.underlying91 U) U<|su (zd U U U) U<|qd ?_;refine zu (f := S2062.c) (l := a0) 0 U fun hlz1 => ?_;refine ql _ U (fun h2 => ?_) (fun h2 => ?_)
   ·replace h2 : (decide (((k2 : Nat) : Int) < (List.length a0 : Int))) = true := h2;obtain ⟨y3, t4, rfl, hx1, hd⟩ := zq hd (decT h2);replace h2 := decT h2;rw [qdb] at hR;(try dsimp only at hR);refine qn<|qb<|qp<|qb<|qb<|qa [.p, .p, .p, .p, .p, .p]<|sm U U<|sm U U<|su (z5 (f := S2062.c) (l := a0) (a := y3) U Tryz.underlying91 qcl U U (Int.natCast_nonneg _) hx1) U<|su (qr U qcl U U U) U<|su (qg U q55 U (q7z y3) (qe U qk)) U<|sa U U<|qd<|qb<|qa [.p, .p]<|sm U U<|su (zx U U U) U<|qd ?_;refine ql _ U (fun h4 => ?_) (fun h4 => ?_)
    ·replace hR := zk hR h4;refine qb<|qa [.p, .p]<|sm U U<|sa U U<|qd<|qo ?_;subst hR;exact za U (rv_g U)
    ·replace h4 : (decide ((qls y3) ≠ 0)) = false := h4;replace hR := zl hR h4;(try simp only [bB] at h4);refine qn<|qb<|zr [.p, .p, .p, .p, .p, .p, .p, .p, .p, .p] (by kernel_rfl)<|sm U U<|sm U U<|su (qhn (f := S2062.c) (l := a0) U Tryz.underlying91 qcl U qc9 (qda U (Int.natCast_nonneg _)) (Nat.zero_le _) (qpa hx1)) U<|sm U U<|sm U U<|su (z5 (f := S2062.c) (l := a0) (a := y3) U Tryz.underlying91 qcl U U (Int.natCast_nonneg _) hx1) U<|su (qc U qjg U) U<|su (qf U ty9 U) U<|su (qg U q95 U (zcz (List.take (Int.toNat ((k2 : Nat) : Int)) a0) y3.Name) (qe U (qe U qk))) U<|su (xo U U U) U<|qd ?_;refine ql _ U (fun h5 => ?_) (fun h5 => ?_)
     ·replace hR := zk hR h5;refine qb<|qa [.p]<|sa U U<|qd<|qo ?_;subst hR;exact za U (rv_g U)
     ·replace h5 : (decide (0 ≤ (qt7 (List.take (Int.toNat ((k2 : Nat) : Int)) a0) y3.Name))) = false := h5;replace hR := zl hR h5;(try simp only [bB] at h5);refine qn<|qa [.p, .p, .p]<|sm U U<|su (zn U U U iE) U<|sa U U<|qd ?_;exact ⟨U, (k2 + 1, t4), ⟨U, U, O⟩, O, U, ⟨hd, hR⟩, by simp⟩
   ·replace h2 : (decide (((k2 : Nat) : Int) < (List.length a0 : Int))) = false := h2;obtain rfl := zz hd (decF h2);rw [qdb] at hR;refine zw<|qb<|qa [.p]<|sa U U<|qd<|qo ?_;subst hR;exact za U (rv_g U)
def qs1 (a1 : List S1079) : List S1079 → Nat → Option Bool
 | [], k2 => some true
 | y3 :: t4, k2 => zc (ixO a1 ((k2 : Nat) : Int)) fun y5 => (bif !(qit [decide (y3.Moment = y5.Moment), decide (y3.Kind = y5.Kind), decide (y3.Terminal = y5.Terminal), decide (y3.Seats = y5.Seats), decide (y3.Size = y5.Size), decide (y3.Noise = y5.Noise), decide (y3.Name = y5.Name)]) then some false else qs1 a1 t4 (k2 + 1))
def zbe (a0 : List S1079) (a1 : List S1079) : Option Bool :=
 (bif decide ((List.length a0 : Int) ≠ (List.length a1 : Int)) then some false else qs1 a1 a0 0)
structure LimR (l : S2062) : Prop where
 n : s147 l.Name = true
 k : l.Kind = (⟨#[65]⟩ : ByteArray) ∨ l.Kind = (⟨#[68]⟩ : ByteArray) ∨ l.Kind = (⟨#[84]⟩ : ByteArray)
 t : qrb l.Terminal = true
 le : 1 ≤ l.Length ∧ l.Length ≤ 1440
 st : 1 ≤ l.Step ∧ l.Step ≤ 1440
 f : 0 ≤ l.fFrom ∧ l.fFrom ≤ 1439
 o : 0 ≤ l.fTo ∧ l.fTo ≤ 1439
 ft : l.fFrom ≤ l.fTo
 per : s102 l.Period = 0
 mo : 0 ≤ l.Most ∧ l.Most ≤ 999999999
theorem qg4 {n a b : Int} : qg3 n a b = false ↔ a ≤ n ∧ n ≤ b := by
 unfold qg3
 simp
theorem q1v {l : S2062} (h : qls l = 0) : LimR l := by
 unfold qls at h;rw [cond_eq_ite] at h
 split at h
 ·cases h
 rename_i h1
 rw [cond_eq_ite] at h
 split at h
 ·cases h
 rename_i h2
 rw [cond_eq_ite] at h
 split at h
 ·cases h
 rename_i h3
 rw [cond_eq_ite] at h
 split at h
 ·cases h
 rename_i h4
 rw [cond_eq_ite] at h
 split at h
 ·cases h
 rename_i h5
 rw [cond_eq_ite] at h
 split at h
 ·rename_i h6; simp at h6; exact absurd h h6
 rename_i h6
 rw [cond_eq_ite] at h
 split at h
 ·cases h
 rename_i h7
 simp only [Bool.or_eq_true, not_or, Bool.not_eq_true] at h4;obtain ⟨⟨⟨a1, a2⟩, a3⟩, a4⟩ := h4;refine ⟨by rw [qdy]; simpa using h1, ?_, by simpa using h3, qg4.1 a1, qg4.1 a2, qg4.1 a3, qg4.1 a4, by simpa using h5, q17 (by simpa using h6), qg4.1 (by simpa using h7)⟩
 by_cases hA : l.Kind = (⟨#[65]⟩ : ByteArray)
 ·exact .inl hA
 ·by_cases hD : l.Kind = (⟨#[68]⟩ : ByteArray)
  ·exact .inr (.inl hD)
  ·by_cases hT : l.Kind = (⟨#[84]⟩ : ByteArray)
   ·exact .inr (.inr hT)
   ·simp [hA, hD, hT] at h2
structure ReqV (r : S115) : Prop where
 ok : RqOk r
 ne : (s69 r.Period).1 ≠ []
structure LeaseV (s : S5100) (l : S5102) : Prop where
 c : s147 l.Carrier = true
 f : 0 ≤ l.fFrom ∧ l.fFrom ≤ 99999
 t : 0 ≤ l.fTo ∧ l.fTo ≤ 99999
 o : l.fFrom ≤ l.fTo
 i : s.Request.Period.fFrom ≤ l.fFrom ∧ l.fTo ≤ s.Request.Period.fTo
 h : ¬ l.Carrier = s.Holder
structure SlotV (s : S5100) : Prop where
 rq : ReqV s.Request
 ho : s147 s.Holder = true
 ln : s.Leases.length ≤ 8
 ls : ∀ l ∈ s.Leases, LeaseV s l
 lp : s.Leases.Pairwise fun a b => a.fTo < b.fFrom
 sn : s.Shares.length ≤ 4
 ss : ∀ c ∈ s.Shares, s147 c = true ∧ ¬ c = s.Holder
 sd : s.Shares.Nodup
structure WishV (w : S5072) : Prop where
 rq : ReqV w.Request
 ra : 0 ≤ w.Rank ∧ w.Rank ≤ 999999999
def qra (a b : S5072) : Prop := a.Rank < b.Rank ∨ (a.Rank = b.Rank ∧ wu a.Request.Name b.Request.Name = true)
def ju (l : List S5100) : List ByteArray := l.map fun x => x.Request.Name
def qan (l : List S5072) : List ByteArray := l.map fun x => x.Request.Name
structure BookV (b : S5042) : Prop where
 sl : b.Slots.length ≤ 64
 wl : b.Waiting.length ≤ 64
 s : ∀ x ∈ b.Slots, SlotV x
 w : ∀ x ∈ b.Waiting, WishV x
 nd : (ju b.Slots ++ qan b.Waiting).Nodup
 or : b.Waiting.Pairwise qra
theorem wg {b : Bool} {e : Int} (he : e ≠ 0) : jv b e = 0 ↔ b = false := by unfold jv; cases b <;> simp [he]
theorem qe4 {s : ByteArray} : qct s = 0 ↔ s147 s = true := by unfold qct; rw [wg (by decide)]; simp
theorem qms {n a b : Int} : qqa n a b = 0 ↔ a ≤ n ∧ n ≤ b := by unfold qqa; rw [wg (by decide)]; simp
theorem qhz {n : Int} : qjb n = 0 ↔ 0 ≤ n ∧ n ≤ 99999 := by unfold qjb; exact qms
theorem qia {s : ByteArray} : qk9 s = 0 ↔ s147 s = true := by unfold qk9 qh3; cases s147 s <;> simp
theorem q0o {r : S115} (h : RqOk r) : qqb r = 0 := by
 unfold qqb;refine (quf _).2 fun x hx => ?_;simp only [List.mem_cons, List.not_mem_nil, or_false] at hx
 rcases hx with rfl | rfl | rfl | rfl | rfl | rfl | rfl | rfl | rfl | rfl | rfl | rfl
 ·exact qia.2 h.n
 ·exact qia.2 h.c
 ·exact qia.2 h.p
 ·exact q18 h.t
 ·exact q18 h.l
 ·have : qqc r.Kind = true := by unfold qqc; rcases h.k with e | e <;> simp [e]
  rw [this]; rfl
 ·rw [decide_eq_false h.lk]; rfl
 ·exact h.per
 ·exact qe7.2 h.m
 ·exact qe7.2 h.s
 ·exact qe7.2 h.z
 ·exact qe7.2 h.no
theorem qol {r : S115} (h : ReqV r) : qdt r = 0 := by
 unfold qdt;rw [q0o h.ok, decide_eq_false (by simp), cond_false];refine vx.2 fun x hx => ?_;simp only [List.mem_cons, List.not_mem_nil, or_false] at hx;unfold qa2 at hx
 rcases hx with rfl | rfl
 ·rw [qc7 h.ok.per]
 ·refine (wg (by decide)).2 (decide_eq_false ?_);have := List.length_pos_iff.2 h.ne;show ¬ ((List.length (s69 r.Period).1 : Int) = 0)
  omega
theorem qwm {r : S115} (h : RqOk r) : qcx r = 0 := by
 unfold qcx;refine j8.2 fun x hx => ?_;simp only [List.mem_cons, List.not_mem_nil, or_false] at hx
 rcases hx with rfl | rfl | rfl | rfl | rfl | rfl
 ·rw [h.n]; rfl
 ·exact qmb.2 h.k
 ·refine qhr.2 ?_;have ht := h.t;unfold qhv at ht;rw [qdy]
  simpa using ht
 ·exact h.per
 ·exact qdr.2 h.m
 ·have := h.z; exact qmd.2 ⟨h.s, by omega, h.no⟩
theorem qea {α : Type} {l : List α} {k : Nat} {y : α} {t : List α} (h : l.drop k = y :: t) : l[k]? = some y ∧ l.drop (k + 1) = t ∧ k < l.length := by
 have h1 : k < l.length := by
  by_cases hk : k < l.length
  ·exact hk
  ·rw [List.drop_eq_nil_of_le (by omega)] at h; cases h
 rw [List.drop_eq_getElem_cons h1] at h
 injection h with h2 h3
 exact ⟨by rw [List.getElem?_eq_getElem h1, h2], h3, h1⟩
theorem quh {s : S5100} {l : S5102} (h : LeaseV s l) : qlp l = 0 ∧ qlq l s = 0 := by
 constructor
 ·unfold qlp;refine vx.2 fun x hx => ?_;simp only [List.mem_cons, List.not_mem_nil, or_false] at hx
  rcases hx with rfl | rfl | rfl | rfl
  ·exact qe4.2 h.c
  ·exact qhz.2 h.f
  ·exact qhz.2 h.t
  ·exact (wg (by decide)).2 (decide_eq_false (by have := h.o; omega))
 ·unfold qlq;refine vx.2 fun x hx => ?_;simp only [List.mem_cons, List.not_mem_nil, or_false] at hx
  rcases hx with rfl | rfl
  ·refine (wg (by decide)).2 ?_;have := h.i;rw [decide_eq_false (by omega), decide_eq_false (by omega)]; rfl
  ·exact (wg (by decide)).2 (decide_eq_false h.h)
theorem qxs (a : ByteArray) : ∀ (l : List ByteArray) (k : Nat), 0 ≤ qd0 a l k ↔ a ∈ l
 | [], k => by rw [qd0]; simp
 | y :: t, k => by
  rw [qd0]
  by_cases h : a = y
  ·subst h; simp
  ·rw [decide_eq_false h, cond_false, qxs a t]; simp [h]
theorem q70 (l : List ByteArray) (a : ByteArray) : s88 l a = true ↔ a ∈ l := by
 unfold s88 s148;rw [decide_eq_true_iff]; exact qxs a l 0
theorem qla {s : S5100} (h : SlotV s) : ∀ (t : List ByteArray) (k : Nat), s.Shares.drop k = t → qdd s t k = some 0
 | [], _, _ => rfl
 | y :: t, k, hd => by
  obtain ⟨h1, h2, h3⟩ := qea hd;have hy := h.ss y (List.mem_of_getElem? h1)
  have hn : ¬ y ∈ s.Shares.take k := by
   intro hm;obtain ⟨j, hj1, hj2⟩ := List.mem_iff_getElem.1 hm;rw [List.length_take] at hj1;rw [List.getElem_take] at hj2;have e2 := (List.getElem?_eq_some_iff.1 h1).2;have := List.pairwise_iff_getElem.1 h.sd j k (by omega) h3 (by omega);exact this (hj2.trans e2.symm)
  have hz : vu [(qct y), (jv (decide (y = s.Holder)) 31), (jv (s88 (List.take (Int.toNat ((k : Nat) : Int)) s.Shares) y) 9)] = 0 := vx.2 fun x hx => by
   simp only [List.mem_cons, List.not_mem_nil, or_false] at hx
   rcases hx with rfl | rfl | rfl
   ·exact qe4.2 hy.1
   ·exact (wg (by decide)).2 (decide_eq_false hy.2)
   ·rw [Int.toNat_natCast, show s88 (s.Shares.take k) y = false from Bool.eq_false_iff.2 fun e => hn ((q70 _ _).1 e)]; rfl
  rw [qdd, hz, decide_eq_false (by simp), cond_false];exact qla h t (k + 1) h2
theorem qxt {α : Type} {l : List α} {k : Nat} (hk : k < l.length) (hl : l.length ≤ 1000) : ∃ q, (bif decide (0 < ((k : Nat) : Int)) then ixO l (max 0 (IntKind.i64.wrap (((k : Nat) : Int) - 1))) else some q) = some q ∧ (0 < k → l[k - 1]? = some q) := by
 by_cases h : 0 < k
 ·obtain ⟨q, hq⟩ : ∃ q, l[k - 1]? = some q := ⟨_, List.getElem?_eq_getElem (by omega)⟩;refine ⟨q, ?_, fun _ => hq⟩;rw [decide_eq_true (by omega), cond_true, wrap_i64 (by unfold I64; omega)];unfold ixO;rw [show max 0 (((k : Nat) : Int) - 1) = ((k - 1 : Nat) : Int) by omega, decide_eq_true (by omega), cond_true, Int.toNat_natCast, hq]
 ·refine ⟨l[k], ?_, fun h' => absurd h' h⟩;rw [decide_eq_false (by omega), cond_false]
theorem qlb {s : S5100} (h : SlotV s) : ∀ (t : List S5102) (k : Nat), s.Leases.drop k = t → qcf s t k = some 0
 | [], _, _ => by
  have := h.sn;rw [qcf, decide_eq_false (by omega), cond_false];exact qla h _ 0 U
 | y :: t, k, hd => by
  obtain ⟨h1, h2, h3⟩ := qea hd;obtain ⟨g1, g2⟩ := quh (h.ls y (List.mem_of_getElem? h1));have hln := h.ln
  have key : ∃ q, (bif decide (0 < ((k : Nat) : Int)) then ixO s.Leases (max 0 (IntKind.i64.wrap (((k : Nat) : Int) - 1))) else some default) = some q ∧ (0 < k → s.Leases[k - 1]? = some q) := by
   by_cases hk : 0 < k
   ·obtain ⟨q, q1, q2⟩ := qxt h3 (by omega);rw [decide_eq_true (by omega), cond_true] at q1 ⊢;exact ⟨q, q1, q2⟩
   ·rw [decide_eq_false (by omega), cond_false];exact ⟨default, U, fun h' => absurd h' hk⟩
  obtain ⟨q, q1, q2⟩ := key
  have hc : (decide (0 < ((k : Nat) : Int)) && decide (y.fFrom ≤ q.fTo)) = false := by
   by_cases hk : 0 < k
   ·have e1 := List.getElem?_eq_some_iff.1 (q2 hk);have e2 := List.getElem?_eq_some_iff.1 h1;obtain ⟨e1, e1'⟩ := e1;obtain ⟨e2, e2'⟩ := e2;have := List.pairwise_iff_getElem.1 h.lp (k - 1) k e1 e2 (by omega);rw [e1', e2'] at this;rw [decide_eq_false (show ¬ y.fFrom ≤ q.fTo by omega), Bool.and_false]
   ·rw [decide_eq_false (by omega), Bool.false_and]
  have hz : vu [(qlp y), (qlq y s), (jv ((decide (0 < ((k : Nat) : Int))) && (decide (y.fFrom ≤ q.fTo))) 15)] = 0 := vx.2 fun x hx => by
   simp only [List.mem_cons, List.not_mem_nil, or_false] at hx
   rcases hx with rfl | rfl | rfl
   ·exact g1
   ·exact g2
   ·rw [hc]; rfl
  rw [qcf, q1];simp only [zc];rw [hz, decide_eq_false (by simp), cond_false];exact qlb h t (k + 1) h2
theorem qxu {s : S5100} (h : SlotV s) : qxh s = some 0 := by
 have hln := h.ln
 have hz : vu [(qdt s.Request), (qct s.Holder), (jv (decide (8 < (List.length s.Leases : Int))) 5)] = 0 := vx.2 fun x hx => by
  simp only [List.mem_cons, List.not_mem_nil, or_false] at hx
  rcases hx with rfl | rfl | rfl
  ·exact qol h.rq
  ·exact qe4.2 h.ho
  ·exact (wg (by decide)).2 (decide_eq_false (by omega))
 unfold qxh;rw [hz, decide_eq_false (by simp), cond_false];exact qlb h _ 0 U
theorem qxv {w : S5072} (h : WishV w) : qlr w = 0 := by
 unfold qlr;refine vx.2 fun x hx => ?_;simp only [List.mem_cons, List.not_mem_nil, or_false] at hx
 rcases hx with rfl | rfl
 ·exact qol h.rq
 ·exact qms.2 h.ra
theorem qui {K V : Type} [DecidableEq K] (m : List (K × V)) (k j : K) (v : V) : mget (mset m k v) j = if k = j then some v else mget m j := by
 induction m with
 | nil => by_cases h : k = j <;> simp [mset, mget, h]
 | cons p m ih =>
  obtain ⟨a, b⟩ := p
  by_cases ha : a = k
  ·subst ha
   by_cases h : a = j <;> simp [mset, mget, h]
  ·by_cases h : a = j
   ·subst h;have hk : ¬ k = a := fun h => ha h.symm
    simp [mset, mget, ha, hk]
   ·simp [mset, mget, ha, h, ih]
theorem qrj {K V : Type} [DecidableEq K] (m : List (K × V)) (k j : K) (v z : V) : vd (mset m k v) j z = if k = j then v else vd m j z := by
 unfold vd;rw [qui]
 by_cases h : k = j <;> simp [h]
theorem qxw {a b : S5072} (h : qra a b) : 0 < qh9 b a := by
 unfold qh9;rw [show ∀ x y : Int, s176 [x, y] = bif decide (x ≠ 0) then x else bif decide (y ≠ 0) then y else 0 from fun _ _ => rfl, qxo, qri]
 rcases h with h | ⟨h1, h2⟩
 ·have h' : ¬ b.Rank < a.Rank := by omega
  simp [h, h']
 ·have h3 : wu b.Request.Name a.Request.Name = false := by
   cases hs : wu b.Request.Name a.Request.Name with
   | false => rfl
   | true => exact (zcu h2 hs).elim
  have h4 : ¬ b.Request.Name = a.Request.Name := fun e => by rw [e, qsz] at h2; cases h2
  simp [h1, h3, h4]
theorem qqd {x : List (ByteArray × Bool)} {S : List ByteArray} (h : ∀ n, vd x n false = true ↔ n ∈ S) (m : ByteArray) : ∀ n, vd (mset x m true) n false = true ↔ n ∈ S ++ [m] := by
 intro n;rw [qrj]
 by_cases e : m = n
 ·subst e; simp
 ·rw [if_neg e, h n];simp only [List.mem_append, List.mem_singleton];exact ⟨.inl, fun k => k.resolve_right fun e' => e e'.symm⟩
theorem qmt {b : S5042} (h : BookV b) : ∀ (t : List S5072) (k : Nat) (x : List (ByteArray × Bool)) (S : List ByteArray), b.Waiting.drop k = t → (∀ n, vd x n false = true ↔ n ∈ S) → (S ++ qan t).Nodup → qde b t k x = some 0
 | [], _, _, _, _, _, _ => rfl
 | y :: t, k, x, S, hd, hx, hn => by
  obtain ⟨h1, h2, h3⟩ := qea hd;have hw := h.w y (List.mem_of_getElem? h1);have hwl := h.wl
  have key : ∃ q, (bif decide (0 < ((k : Nat) : Int)) then ixO b.Waiting (max 0 (IntKind.i64.wrap (((k : Nat) : Int) - 1))) else some default) = some q ∧ (0 < k → b.Waiting[k - 1]? = some q) := by
   by_cases hk : 0 < k
   ·obtain ⟨q, q1, q2⟩ := qxt h3 (by omega);rw [decide_eq_true (by omega), cond_true] at q1 ⊢;exact ⟨q, q1, q2⟩
   ·rw [decide_eq_false (by omega), cond_false];exact ⟨default, U, fun h' => absurd h' hk⟩
  obtain ⟨q, q1, q2⟩ := key
  have hc : (decide (0 < ((k : Nat) : Int)) && decide (qh9 y q ≤ 0)) = false := by
   by_cases hk : 0 < k
   ·obtain ⟨e1, e1'⟩ := List.getElem?_eq_some_iff.1 (q2 hk);obtain ⟨e2, e2'⟩ := List.getElem?_eq_some_iff.1 h1;have := List.pairwise_iff_getElem.1 h.or (k - 1) k e1 e2 (by omega);rw [e1', e2'] at this;have := qxw this;rw [decide_eq_false (show ¬ qh9 y q ≤ 0 by omega), Bool.and_false]
   ·rw [decide_eq_false (by omega), Bool.false_and]
  have hns : ¬ y.Request.Name ∈ S := by
   intro hm;have := (List.nodup_append.1 hn).2.2 _ hm y.Request.Name (by simp [qan]);exact this U
  have hz : vu [(qlr y), (jv (vd x y.Request.Name false) 9), (jv ((decide (0 < ((k : Nat) : Int))) && (decide ((qh9 y q) ≤ 0))) 11)] = 0 := vx.2 fun z hz => by
   simp only [List.mem_cons, List.not_mem_nil, or_false] at hz
   rcases hz with rfl | rfl | rfl
   ·exact qxv hw
   ·rw [show vd x y.Request.Name false = false from Bool.eq_false_iff.2 fun e => hns ((hx _).1 e)]; rfl
   ·rw [hc]; rfl
  rw [qde, q1];simp only [zc];rw [hz, decide_eq_false (by simp), cond_false];exact qmt h t (k + 1) _ (S ++ [y.Request.Name]) h2 (qqd hx _) (by rw [List.append_assoc]; exact hn)
theorem qmu {b : S5042} (h : BookV b) : ∀ (t : List S5100) (k : Nat) (x : List (ByteArray × Bool)) (S : List ByteArray), (∀ s ∈ t, SlotV s) → (∀ n, vd x n false = true ↔ n ∈ S) → (S ++ (ju t ++ qan b.Waiting)).Nodup → qcg b t k x = some 0
 | [], k, x, S, _, hx, hn => by
  have := h.wl;rw [qcg, decide_eq_false (by omega), cond_false];exact qmt h _ 0 x S U hx (by simpa [ju] using hn)
 | y :: t, k, x, S, hs, hx, hn => by
  have hns : ¬ y.Request.Name ∈ S := by
   intro hm;have := (List.nodup_append.1 hn).2.2 _ hm y.Request.Name (by simp [ju]);exact this U
  have hz : vu [0, (jv (vd x y.Request.Name false) 9)] = 0 := vx.2 fun z hz => by
   simp only [List.mem_cons, List.not_mem_nil, or_false] at hz
   rcases hz with rfl | rfl
   ·rfl
   ·rw [show vd x y.Request.Name false = false from Bool.eq_false_iff.2 fun e => hns ((hx _).1 e)]; rfl
  rw [qcg, qxu (hs y List.mem_cons_self)];simp only [zc];rw [hz, decide_eq_false (by simp), cond_false];exact qmu h t (k + 1) _ (S ++ [y.Request.Name]) (fun s hm => hs s (List.mem_cons_of_mem _ hm)) (qqd hx _) (by rw [List.append_assoc]; exact hn)
theorem qk2 {b : S5042} (h : BookV b) : qp2 b = some 0 := by
 have := h.sl;unfold qp2;rw [decide_eq_false (by omega), cond_false];exact qmu h _ 0 [] [] h.s (fun n => by simp [vd, mget]) (by simpa using h.nd)
theorem qhy (f : S5100 → Bool) : ∀ (l : List S5100) (k : Nat), 0 ≤ xc f l k ↔ ∃ x ∈ l, f x = true
 | [], k => by rw [xc]; simp
 | y :: t, k => by
  rw [xc]
  cases h : f y with
  | true => simp [h]
  | false => rw [cond_false, qhy f t]; simp [h]
theorem qmv (f : S5072 → Bool) : ∀ (l : List S5072) (k : Nat), 0 ≤ qce f l k ↔ ∃ x ∈ l, f x = true
 | [], k => by rw [qce]; simp
 | y :: t, k => by
  rw [qce]
  cases h : f y with
  | true => simp [h]
  | false => rw [cond_false, qmv f t]; simp [h]
theorem qw4 (b : S5042) (n : ByteArray) : qfg b n = true ↔ n ∈ ju b.Slots ++ qan b.Waiting := by
 unfold qfg wv qp1 qxg qxf;rw [Bool.or_eq_true, decide_eq_true_iff, decide_eq_true_iff, qhy, qmv, List.mem_append];unfold qhw qug ju qan
 simp [List.mem_map]
def qxx (a0 : S2062) : Int :=
 IntKind.i64.wrap ((IntKind.i64.wrap ((IntKind.i64.wrap (Int.tdiv a0.fTo a0.Step)) - (IntKind.i64.wrap (Int.tdiv (IntKind.i64.wrap ((IntKind.i64.wrap (a0.fFrom + a0.Step)) - 1)) a0.Step)))) + 1)
theorem zc0 {g : GL} (a0 : S2062)  (hst : 1 ≤ a0.Step ∧ a0.Step ≤ 1440) (hf : 0 ≤ a0.fFrom ∧ a0.fFrom ≤ 1439) (hto : 0 ≤ a0.fTo ∧ a0.fTo ≤ 1439)  : Con (EG g) 73 [G.agg (S2062.c a0)] (G.int (qxx a0)) := by
 generalize hR : qxx a0 = R;unfold qxx at hR;refine qm Tryz.func73 U U fun w0 M0 => ?_;refine qb<|qa [.p, .p]<|su (zi U U) U<|sa U U<|qd<|qb<|zr [.p, .p, .p, .p, .p, .p, .p, .p, .p, .p, .p, .p, .p, .p, .p, .p, .p] (by kernel_rfl)<|su (qc U qna U) U<|su (qf U ty3 U) U<|su (qc U qji U) U<|su (qf U ty3 U) U<|su (qgj U U U (by omega)) U<|su (qc U qm9 U) U<|su (qf U ty3 U) U<|su (qc U qji U) U<|su (qf U ty3 U) U<|su (kl U U U) U<|su (kq U U U) U<|su (qc U qji U) U<|su (qf U ty3 U) U<|su (qgj U U U (by omega)) U<|su (kq U U U) U<|su (kl U U U) U<|sa U U<|qd<|qo ?_;subst hR;exact za U (rv_g U)
def qg5 (rec1 : Nat → Int → Bool) (k3 : Nat) (x6 : Int) : Bool :=
 rec1 (k3 + 1) x6
def qch  : List S2062 → Nat → Int → Bool
 | [], k3, x1 => decide (x1 ≤ 400)
 | y4 :: t5, k3, x1 => (bif (((decide (40 < (ByteArray.size y4.Name : Int))) || (decide (40 < (ByteArray.size y4.Kind : Int)))) || (decide (40 < (ByteArray.size y4.Terminal : Int)))) || (!(qxq y4.Period 24)) then false else (bif decide ((qls y4) = 0) then qg5 (fun k_ z0_ => qch  t5 k_ z0_) k3 (IntKind.i64.wrap (x1 + (IntKind.i64.wrap ((qxx y4) * (List.length (s104 y4.Period) : Int))))) else qg5 (fun k_ z0_ => qch  t5 k_ z0_) k3 x1))
def qte (a0 : List S2062) (a1 : Int) : Bool :=
 (bif ((decide (a1 < (List.length a0 : Int))) && (decide ((List.length a0 : Int) ≤ 32))) || (decide (34 < (List.length a0 : Int))) then false else qch a0 0 0)
theorem zb4 {g : GL} (a0 : List S2062) (a1 : Int)    : Con (EG g) 31 [G.sl 11 (List.map S2062.c a0), G.int a1] (G.bool (qte a0 a1)) := by
 generalize hR : qte a0 a1 = R;unfold qte at hR;refine qm Tryz.func31 U U fun w0 M0 => ?_;refine zu (f := S2062.c) (l := a0) 0 U fun hla0 => ?_;refine qb<|qa [.p]<|sa U U<|qd<|qb<|qb<|qa [.p, .p, .p, .p, .p, .p, .p, .p, .p, .p, .p, .p, .p, .p]<|sm U U<|su (zb (f := S2062.c) (l := a0) U Tryz.underlying91 U) U<|sm U U<|su (zy U U U) U<|sm U U<|sg U U (fun h => qj U U) U<|sg U U (fun h => zb (f := S2062.c) (l := a0) U Tryz.underlying91 (gd h U)) U<|sg U U (fun h => vj U (gd h U) U) U<|su (zt U U U U) U<|sm U U<|sg U U (fun h => qj U U) U<|sg U U (fun h => zb (f := S2062.c) (l := a0) U Tryz.underlying91 (gd h U)) U<|sg U U (fun h => zy U (gd h U) U) U<|su (jg U U U U) U<|qd ?_;refine ql _ U (fun h1 => ?_) (fun h1 => ?_)
 ·replace hR := zk hR h1;refine qb<|qa [.p]<|sa U U<|qd<|qo ?_;subst hR;exact za U (rv_g U)
 ·replace h1 : (((decide (a1 < (List.length a0 : Int))) && (decide ((List.length a0 : Int) ≤ 32))) || (decide (34 < (List.length a0 : Int)))) = false := h1;replace hR := zl hR h1;(try simp only [bB] at h1);refine qn<|qb<|qa [.p]<|sa U U<|qd<|qb<|qb<|qa [.p]<|sa U U<|qd<|qp<|zf (γ := Nat × (List S2062) × Int) (fun g => ([(0, .g (G.sl 11 (List.map S2062.c a0))), (5, .g (G.int g.2.2)), (6, .g (G.int ((g.1 : Nat) : Int)))], [])) (fun g => a0.drop g.1 = g.2.1 ∧ qch  g.2.1 g.1 g.2.2 = R) (fun g => List.length g.2.1) ⟨U, (0, a0, 0), ⟨U, U, U, O⟩, O, U, ⟨U, (by exact hR)⟩, O⟩ ?_
  ·rintro ⟨k3, t5, x1⟩ ⟨hd, hR⟩;replace hd : a0.drop k3 = t5 := hd;replace hR : qch  t5 k3 x1 = R := hR;refine qb<|qb<|qa [.p, .p, .p, .p]<|sm U U<|sm U U<|su (zb (f := S2062.c) (l := a0) U Tryz.underlying91 U) U<|su (zd U U U) U<|qd ?_;refine zu (f := S2062.c) (l := a0) 0 U fun hlz1 => ?_;refine ql _ U (fun h2 => ?_) (fun h2 => ?_)
   ·replace h2 : (decide (((k3 : Nat) : Int) < (List.length a0 : Int))) = true := h2;obtain ⟨y4, t5, rfl, hx1, hd⟩ := zq hd (decT h2);replace h2 := decT h2;rw [qch] at hR;(try dsimp only at hR);refine qn ?_;refine ko (γ := Int) (fun g => ([(0, .g (G.sl 11 (List.map S2062.c a0))), (5, .g (G.int g)), (6, .g (G.int ((k3 : Nat) : Int)))], [])) (fun g => qg5 (fun k_ z0_ => qch  t5 k_ z0_) k3 g = R) ?_ ?_
    ·refine qp<|qb<|qb<|qa [.p, .p, .p, .p, .p, .p, .p, .p, .p, .p, .p, .p, .p, .p, .p, .p, .p, .p, .p, .p, .p, .p, .p, .p, .p, .p, .p, .p, .p, .p, .p, .p, .p, .p]<|sm U U<|sm U U<|su (z5 (f := S2062.c) (l := a0) (a := y4) U Tryz.underlying91 qcl U U (Int.natCast_nonneg _) hx1) U<|su (qc U qjg U) U<|su (qf U ty9 U) U<|su (vz U Tryz.underlying9 U) U<|su (zy U U U) U<|sm U U<|sg U U (fun h => qj U U) U<|sg U U (fun h => qj U U) U<|sg U U (fun h => z5 (f := S2062.c) (l := a0) (a := y4) U Tryz.underlying91 qcl (gd h U) (gd h U) (Int.natCast_nonneg _) hx1) U<|sg U U (fun h => qc U qjh (gd h U)) U<|sg U U (fun h => qf U ty9 (gd h U)) U<|sg U U (fun h => vz U Tryz.underlying9 (gd h U)) U<|sg U U (fun h => zy U (gd h U) U) U<|su (jg U U U U) U<|sm U U<|sg U U (fun h => qj U U) U<|sg U U (fun h => qj U U) U<|sg U U (fun h => z5 (f := S2062.c) (l := a0) (a := y4) U Tryz.underlying91 qcl (gd h U) (gd h U) (Int.natCast_nonneg _) hx1) U<|sg U U (fun h => qc U qrq (gd h U)) U<|sg U U (fun h => qf U ty9 (gd h U)) U<|sg U U (fun h => vz U Tryz.underlying9 (gd h U)) U<|sg U U (fun h => zy U (gd h U) U) U<|su (jg U U U U) U<|sm U U<|sg U U (fun h => qj U U) U<|sg U U (fun h => qj U U) U<|sg U U (fun h => z5 (f := S2062.c) (l := a0) (a := y4) U Tryz.underlying91 qcl (gd h U) (gd h U) (Int.natCast_nonneg _) hx1) U<|sg U U (fun h => qc U qnb (gd h U)) U<|sg U U (fun h => qr U ty46 (gd h U) U U) U<|sg U U (fun h => qg U q93 U (zcx y4.Period 24) (qe (gd h U) (qe U qk))) U<|sg U U (fun h => jo U (gd h U)) U<|su (jg U U U U) U<|qd ?_;refine ql _ U (fun h4 => ?_) (fun h4 => ?_)
     ·replace hR := zk hR h4;refine qb<|qa [.p]<|sa U U<|qd<|qo ?_;subst hR;exact za U (rv_g U)
     ·replace h4 : ((((decide (40 < (ByteArray.size y4.Name : Int))) || (decide (40 < (ByteArray.size y4.Kind : Int)))) || (decide (40 < (ByteArray.size y4.Terminal : Int)))) || (!(qxq y4.Period 24))) = false := h4;replace hR := zl hR h4;(try simp only [bB] at h4);refine qn<|qb<|qa [.p, .p, .p, .p, .p, .p]<|sm U U<|sm U U<|su (z5 (f := S2062.c) (l := a0) (a := y4) U Tryz.underlying91 qcl U U (Int.natCast_nonneg _) hx1) U<|su (qr U qcl U U U) U<|su (qg U q55 U (q7z y4) (qe U qk)) U<|su (jn U U U) U<|qd ?_;refine ql _ U (fun h5 => ?_) (fun h5 => ?_)
      ·replace h5 : (decide ((qls y4) = 0)) = true := h5;replace hR := zk hR h5;(try simp only [bB] at h5);have hl := q1v h5;have hp := j7 _ hl.per;have hs1 := hl.st;have hs2 := hl.f;have hs3 := hl.o;refine zr [.p, .p, .p, .p, .p, .p, .p, .p, .p, .p, .p, .p, .p, .p, .p, .p] (by kernel_rfl)<|sm rfl rfl<|sm rfl rfl<|sm rfl rfl<|su (z5 (f := S2062.c) (l := a0) (a := y4) rfl Tryz.underlying91 qcl rfl rfl (Int.natCast_nonneg _) hx1) rfl<|su (qr rfl qcl rfl rfl rfl) rfl<|su (qg rfl q94 rfl (zc0 y4 (by first | assumption | omega | (simp [qi]; done) | (simp [qi]; omega)) (by first | assumption | omega | (simp [qi]; done) | (simp [qi]; omega)) (by first | assumption | omega | (simp [qi]; done) | (simp [qi]; omega))) (qe rfl qk)) rfl<|sm rfl rfl<|sm rfl rfl<|su (z5 (f := S2062.c) (l := a0) (a := y4) rfl Tryz.underlying91 qcl rfl rfl (Int.natCast_nonneg _) hx1) rfl<|su (qc rfl qnb rfl) rfl<|su (qr rfl ty46 rfl rfl rfl) rfl<|su (qg rfl K104 rfl (c104 y4.Period (by omega) (by omega)) (qe rfl qk)) rfl<|su (zb (f := cInt) (l := (s104 y4.Period)) rfl Tryz.underlying38 rfl) rfl<|su (qc4 rfl rfl rfl) rfl<|su (kl rfl rfl rfl) rfl<|sa rfl rfl<|qd ?_;exact ⟨U, IntKind.i64.wrap (x1 + (IntKind.i64.wrap ((qxx y4) * (List.length (s104 y4.Period) : Int)))), ⟨U, U, U, O⟩, O, U, hR, O⟩
      ·replace hR := zl hR h5;refine qn ?_;exact ⟨U, x1, ⟨U, U, U, O⟩, O, U, hR, O⟩
    ·rintro x6 hR;replace hR : qg5 (fun k_ z0_ => qch  t5 k_ z0_) k3 x6 = R := hR;unfold qg5 at hR;refine qa [.p, .p, .p]<|sm U U<|su (zn U U U iE) U<|sa U U<|qd ?_;exact ⟨U, (k3 + 1, t5, x6), ⟨U, U, U, O⟩, O, U, ⟨hd, hR⟩, by simp⟩
   ·replace h2 : (decide (((k3 : Nat) : Int) < (List.length a0 : Int))) = false := h2;obtain rfl := zz hd (decF h2);rw [qch] at hR;refine zw<|qb<|qa [.p, .p, .p]<|sm U U<|su (vj U U U) U<|sa U U<|qd<|qo ?_;subst hR;exact za U (rv_g U)
def qcb (a0 : S115) : List Int → Nat → (List S1079) → List S1079
 | [], k3, x1 => x1
 | y4 :: t5, k3, x1 => qcb a0 t5 (k3 + 1) (x1 ++ [(S1079.mk (IntKind.i64.wrap ((IntKind.i64.wrap (1440 * y4)) + a0.Minute)) a0.Kind a0.Terminal a0.Seats a0.Size a0.Noise a0.Name)])
def qcq (a0 : S115) : List S1079 :=
 qcb a0 (s104 a0.Period) 0 []
set_option maxHeartbeats 4000000 in
theorem zbb {g : GL} (a0 : S115)  (hp : s102 a0.Period = 0)  : Con (EG g) 12 [G.agg (S115.c a0)] (G.sl 7 (List.map S1079.c (qcq a0))) := by
 generalize hR : qcq a0 = R;unfold qcq at hR;refine qm Tryz.func12 U U fun w0 M0 => ?_;have hl := q0i hp;have hp0 := j7 _ hp;refine qb<|qa [.p, .w]<|su (zi U U) U<|sw (xa 2 53 7 U U U) U<|qd<|qb<|qa [.p, .p, .p, .p]<|su (qc U vt U) U<|su (qr U ty46 U U U) U<|su (qg U K104 U (c104 a0.Period (by omega) (by omega)) (qe U qk)) U<|sa U U<|qd<|qb<|qa [.w]<|sw (xa 4 53 7 U U U) U<|qd<|qb<|qb<|qa [.p]<|sa U U<|qd<|qp<|zf (γ := Nat × (List Int) × (List S1079)) (fun g => ([(1, .g (G.ref (S115.c a0))), (3, .g (G.sl 1 (List.map cInt (s104 a0.Period)))), (4, .osl 4 7 0 (List.length g.2.2)), (5, .g (G.int ((g.1 : Nat) : Int)))], [(4, .arr 53 7 (List.map S1079.c g.2.2))])) (fun g => g.2.2.length ≤ g.1 ∧ g.1 ≤ (s104 a0.Period).length ∧ g.2.2.length ≤ g.1 ∧ (s104 a0.Period).drop g.1 = g.2.1 ∧ qcb a0 g.2.1 g.1 g.2.2 = R) (fun g => List.length g.2.1) ⟨U, (0, (s104 a0.Period), []), jA, ⟨U, O⟩, U, ⟨iH, iH, iH, U, (by exact hR)⟩, O⟩ ?_
 ·rintro ⟨k3, t5, x1⟩ ⟨iv1_0, iv1_1, iv1_2, hd, hR⟩;replace hd : (s104 a0.Period).drop k3 = t5 := hd;replace hR : qcb a0 t5 k3 x1 = R := hR;replace iv1_0 : x1.length ≤ k3 := iv1_0;replace iv1_1 : k3 ≤ (s104 a0.Period).length := iv1_1;replace iv1_2 : x1.length ≤ k3 := iv1_2;refine qb<|qb<|qa [.p, .p, .p, .p]<|sm U U<|sm U U<|su (zb (f := cInt) (l := (s104 a0.Period)) U Tryz.underlying38 U) U<|su (zd U U U) U<|qd ?_;refine zu (f := cInt) (l := (s104 a0.Period)) 3 U fun hlz1 => ?_;refine ql _ U (fun h1 => ?_) (fun h1 => ?_)
  ·replace h1 : (decide (((k3 : Nat) : Int) < (List.length (s104 a0.Period) : Int))) = true := h1;obtain ⟨y4, t5, rfl, hx1, hd⟩ := zq hd (decT h1);replace h1 := decT h1;rw [qcb] at hR;(try dsimp only at hR);refine qn<|qb<|qp<|q0p [.p, .pn 4, .pn 4, .pn 4, .pn 4, .pn 4, .pn 4, .pn 4, .pn 4, .pn 4, .pn 4, .pn 4, .pn 4, .pn 4, .pn 4, .pn 4, .pn 4, .pn 4, .pn 4, .pn 4, .pn 4, .pn 4, .pn 4, .kn 4, .p] (by kernel_rfl)<|su (zg U U) U<|qcw U U (qj U U) U U U<|qcw U U (qj U U) U U U<|qcw U U (z5 (f := cInt) (l := (s104 a0.Period)) (a := y4) U Tryz.underlying38 ty3 U U (Int.natCast_nonneg _) hx1) U U U<|qcw U U (qf U ty3 U) U U U<|qcw U U (qc4 U U U) U U U<|qcw U U (qc U qha U) U U U<|qcw U U (qf U ty3 U) U U U<|qcw U U (kl U U U) U U U<|qcw U U (qc U qd3 U) U U U<|qcw U U (qf U ty9 U) U U U<|qcw U U (qc U qfn U) U U U<|qcw U U (qf U ty9 U) U U U<|qcw U U (qc U qj1 U) U U U<|qcw U U (qf U ty3 U) U U U<|qcw U U (qc U qj2 U) U U U<|qcw U U (qf U ty3 U) U U U<|qcw U U (qc U qf3 U) U U U<|qcw U U (qf U ty3 U) U U U<|qcw U U (qc U kh U) U U U<|qcw U U (qf U ty9 U) U U U<|qcw U U (jk U qlj U qrs (zp U (zp U (zp U (zp U (zp U (zp U (zp U kx))))))) U) U U U ?_;refine qcw U U (qt U Tryz.underlying48 z7 qlj U (qx U jp) U (by exact lens rfl) (by decide)) U U U ?_;refine zbj U U (xb (f := S1079.c) (out := x1) (new := [(S1079.mk (IntKind.i64.wrap ((IntKind.i64.wrap (1440 * y4)) + a0.Minute)) a0.Kind a0.Terminal a0.Seats a0.Size a0.Noise a0.Name)]) U qm5 U U (qa6 U (qa5 (by decide) (by simp [S1079.c]))) (qkq U) (by simp; omega)) U ?_;refine su (ja U U) U<|qd<|qa [.p, .p, .p]<|sm U U<|su (zn U U U iE) U<|sa U U<|qd ?_;exact ⟨U, (k3 + 1, t5, x1 ++ [(S1079.mk (IntKind.i64.wrap ((IntKind.i64.wrap (1440 * y4)) + a0.Minute)) a0.Kind a0.Terminal a0.Seats a0.Size a0.Noise a0.Name)]), jA, ⟨U, O⟩, U, ⟨iB, iB, iB, hd, hR⟩, by simp⟩
  ·replace h1 : (decide (((k3 : Nat) : Int) < (List.length (s104 a0.Period) : Int))) = false := h1;obtain rfl := zz hd (decF h1);rw [qcb] at hR;refine zw<|qb<|qa [.p, .p]<|su (zg U U) U<|su (ja U U) U<|qd<|qo ?_;subst hR;exact za U (qc8 U U)
def qe1  (x1 : Int) : Int :=
 x1
def qhu (a0 : S115) : Int :=
 (bif (decide ((qon a0) = 0)) && (decide ((List.length (s104 a0.Period) : Int) = 0)) then qe1 12 else qe1 (qon a0))
theorem q71 {g : GL} (a0 : S115)    : Con (EG g) 134 [G.agg (S115.c a0)] (G.int (qhu a0)) := by
 generalize hR : qhu a0 = R;unfold qhu at hR;refine qm Tryz.func134 U U fun w0 M0 => ?_;refine qb<|qa [.p, .p]<|su (zi U U) U<|sa U U<|qd<|qb<|qa [.p, .p, .p]<|su (qr U qab U U U) U<|su (qg U q9j U (zc1 a0) (qe U qk)) U<|sa U U<|qd ?_;refine ko (γ := Int) (fun g => ([(3, .g (G.int g))], [])) (fun g => qe1 g = R) ?_ ?_
 ·refine qb<|qa [.p, .p, .p, .p, .p, .p, .p, .p, .p]<|sm U U<|su (jn U U U) U<|sm U U<|sg U U (fun h => qc U vt U) U<|sg U U (fun h => qr U ty46 (gd h U) U U) U<|sg U U (fun h => qg U K104 U (c104 a0.Period (rq_g h).1 (rq_g h).2) (qe (gd h U) qk)) U<|sg U U (fun h => zb (f := cInt) (l := (s104 a0.Period)) U Tryz.underlying38 (gd h U)) U<|sg U U (fun h => jn U (gd h U) U) U<|su (zt U U U U) U<|qd ?_;refine ql _ U (fun h1 => ?_) (fun h1 => ?_)
  ·replace hR := zk hR h1;refine qa [.p]<|sa U U<|qd ?_;exact ⟨U, 12, ⟨U, O⟩, O, U, hR, O⟩
  ·replace hR := zl hR h1;refine qn ?_;exact ⟨U, (qon a0), ⟨U, O⟩, O, U, hR, O⟩
 ·rintro x1 hR;replace hR : qe1 x1 = R := hR;unfold qe1 at hR;refine qb<|qa [.p, .p]<|sm U U<|sa U U<|qd<|qo ?_;subst hR;exact za U (rv_g U)
def qdg (a0 : ByteArray) : Int :=
 (bif !(s91 a0) then 8 else 0)
theorem q46 {g : GL} (a0 : ByteArray)    : Con (EG g) 135 [G.str a0] (G.int (qdg a0)) := by
 generalize hR : qdg a0 = R;unfold qdg at hR;refine qm Tryz.func135 U U fun w0 M0 => ?_;refine qb<|qa [.p]<|sa U U<|qd<|qb<|qb<|qa [.p, .p, .p]<|sm U U<|su (qg U K91 U (c91 a0) (qe U qk)) U<|su (jo U U) U<|qd ?_;refine ql _ U (fun h1 => ?_) (fun h1 => ?_)
 ·replace hR := zk hR h1;refine qb<|qa [.p]<|sa U U<|qd<|qo ?_;subst hR;exact za U (rv_g U)
 ·replace hR := zl hR h1;refine qn<|qb<|qa [.p]<|sa U U<|qd<|qo ?_;subst hR;exact za U (rv_g U)
def qe2  (x1 : Int) : Int :=
 x1
def qgf (a0 : S5102) : Int :=
 (bif (decide ((s89 [(qdg a0.Carrier), (s109 a0.fFrom), (s109 a0.fTo)]) = 0)) && (decide (a0.fTo < a0.fFrom)) then qe2 11 else qe2 (s89 [(qdg a0.Carrier), (s109 a0.fFrom), (s109 a0.fTo)]))
theorem zc2 {g : GL} (a0 : S5102)    : Con (EG g) 136 [G.agg (S5102.c a0)] (G.int (qgf a0)) := by
 generalize hR : qgf a0 = R;unfold qgf at hR;refine qm Tryz.func136 U U fun w0 M0 => ?_;refine qb<|qa [.p, .p]<|su (zi U U) U<|sa U U<|qd<|qb<|zr [.p, .p, .p, .p, .p, .p, .p, .p, .p, .p, .p, .p] (by kernel_rfl)<|su (qc U qm6 U) U<|su (qf U ty9 U) U<|su (qg U q25 U (q46 a0.Carrier) (qe U qk)) U<|su (qc U qje U) U<|su (qf U ty3 U) U<|su (qg U K109 U (c109 a0.fFrom) (qe U qk)) U<|su (qc U qjf U) U<|su (qf U ty3 U) U<|su (qg U K109 U (c109 a0.fTo) (qe U qk)) U ?_;refine su (qt U Tryz.underlying38 ty3 z3 U (qx U (qx U (qx U jp))) U (by simp []) (by decide)) U ?_;refine su (qg U K89 U (c89 [(qdg a0.Carrier), (s109 a0.fFrom), (s109 a0.fTo)]) (qe U qk)) U<|sa U U<|qd ?_;refine ko (γ := Int) (fun g => ([(3, .g (G.int g))], [])) (fun g => qe2 g = R) ?_ ?_
 ·refine qb<|qa [.p, .p, .p, .p, .p, .p, .p, .p, .p]<|sm U U<|su (jn U U U) U<|sm U U<|sg U U (fun h => qc U qje U) U<|sg U U (fun h => qf U ty3 (gd h U)) U<|sg U U (fun h => qc U qjf U) U<|sg U U (fun h => qf U ty3 (gd h U)) U<|sg U U (fun h => zy U (gd h U) (gd h U)) U<|su (zt U U U U) U<|qd ?_;refine ql _ U (fun h1 => ?_) (fun h1 => ?_)
  ·replace hR := zk hR h1;refine qa [.p]<|sa U U<|qd ?_;exact ⟨U, 11, ⟨U, O⟩, O, U, hR, O⟩
  ·replace hR := zl hR h1;refine qn ?_;exact ⟨U, (s89 [(qdg a0.Carrier), (s109 a0.fFrom), (s109 a0.fTo)]), ⟨U, O⟩, O, U, hR, O⟩
 ·rintro x1 hR;replace hR : qe2 x1 = R := hR;unfold qe2 at hR;refine qb<|qa [.p, .p]<|sm U U<|sa U U<|qd<|qo ?_;subst hR;exact za U (rv_g U)
def qgg (a0 : S5036) (a1 : S5102) : Int :=
 (bif (decide (a1.fFrom < a0.Request.Period.fFrom)) || (decide (a0.Request.Period.fTo < a1.fTo)) then 30 else (bif decide (a1.Carrier = a0.Holder) then 31 else 0))
theorem zc3 {g : GL} (a0 : S5036) (a1 : S5102)    : Con (EG g) 137 [G.agg [G.str a0.Request.Name, G.str a0.Request.Carrier, G.str a0.Request.Kind, G.str a0.Request.Terminal, G.str a0.Request.Partner, G.str a0.Request.Link, G.int a0.Request.Period.fFrom, G.int a0.Request.Period.fTo, G.int a0.Request.Period.Days, G.int a0.Request.Minute, G.int a0.Request.Seats, G.int a0.Request.Size, G.int a0.Request.Noise, G.str a0.Holder, G.sl 3 (List.map S5102.c a0.Leases), G.sl 1 (List.map cStr a0.Shares)], G.agg (S5102.c a1)] (G.int (qgg a0 a1)) := by
 generalize hR : qgg a0 a1 = R;unfold qgg at hR;refine qm Tryz.func137 U U fun w0 M0 => ?_;refine qb<|qa [.p, .p, .p]<|su (zi U U) U<|su (zi U U) U<|sa U U<|qd<|qb<|qb<|qa [.p, .p, .p, .p, .p, .p, .p, .p, .p, .p, .p, .p, .p, .p, .p, .p]<|su (qc U qje U) U<|su (qf U ty3 U) U<|su (qc U xe U) U<|su (qc U vt U) U<|su (qc U qa3 U) U<|su (qf U ty3 U) U<|su (zd U U U) U<|sm U U<|sg U U (fun h => qc U qjf U) U<|sg U U (fun h => qf U ty3 (gd h U)) U<|sg U U (fun h => qc U xe U) U<|sg U U (fun h => qc U vt (gd h U)) U<|sg U U (fun h => qc U qa4 (gd h U)) U<|sg U U (fun h => qf U ty3 (gd h U)) U<|sg U U (fun h => zy U (gd h U) (gd h U)) U<|su (jg U U U U) U<|qd ?_;refine ql _ U (fun h1 => ?_) (fun h1 => ?_)
 ·replace hR := zk hR h1;refine qb<|qa [.p]<|sa U U<|qd<|qo ?_;subst hR;exact za U (rv_g U)
 ·replace h1 : ((decide (a1.fFrom < a0.Request.Period.fFrom)) || (decide (a0.Request.Period.fTo < a1.fTo))) = false := h1;replace hR := zl hR h1;(try simp only [bB] at h1);refine qn<|qb<|qb<|qa [.p, .p, .p, .p, .p]<|su (qc U qm6 U) U<|su (qf U ty9 U) U<|su (qc U qep U) U<|su (qf U ty9 U) U<|su (vk U U U) U<|qd ?_;refine ql _ U (fun h2 => ?_) (fun h2 => ?_)
  ·replace hR := zk hR h2;refine qb<|qa [.p]<|sa U U<|qd<|qo ?_;subst hR;exact za U (rv_g U)
  ·replace hR := zl hR h2;refine qn<|qb<|qa [.p]<|sa U U<|qd<|qo ?_;subst hR;exact za U (rv_g U)
def qc6 (rec1 : Int → Int → Option Int) (x3 : Int) (x5 : Int) : Option Int :=
 rec1 x5 (x3 + 1)
def qe0 (rec2 : Int → Int → Option Int) (x12 : Int) (x14 : Int) : Option Int :=
 rec2 x14 (x12 + 1)
def qbd (rec2 : Int → Int → Option Int) (a0 : S5036) (x12 : Int) (x16 : Int) : Option Int :=
 zc (bif decide (x16 = 0) then ixO a0.Shares x12 else some default) fun y17 => (bif (decide (x16 = 0)) && (s92 (List.take (Int.toNat x12) a0.Shares) y17) then qe0 rec2 x12 9 else qe0 rec2 x12 x16)
def jy (a0 : S5036) : Nat → Int → Int → Option Int
 | 0, _, _ => none
 | k13 + 1, x11, x12 => (bif (decide (x12 < (List.length a0.Shares : Int))) && (decide (x11 = 0)) then zc (ixO a0.Shares x12) fun y15 => zc (bif decide ((qdg y15) = 0) then ixO a0.Shares x12 else some default) fun y18 => (bif (decide ((qdg y15) = 0)) && (decide (y18 = a0.Holder)) then qbd (fun z0_ z1_ => jy a0 k13 z0_ z1_) a0 x12 31 else qbd (fun z0_ z1_ => jy a0 k13 z0_ z1_) a0 x12 (qdg y15)) else some x11)
def qbv (a0 : S5036) (x10 : Int) : Option Int :=
 jy a0 ((((List.length a0.Shares : Int) - 0).toNat) + 1) x10 0
def vc (a0 : S5036) : Nat → Int → Int → Option Int
 | 0, _, _ => none
 | k4 + 1, x2, x3 => (bif (decide (x3 < (List.length a0.Leases : Int))) && (decide (x2 = 0)) then zc (ixO a0.Leases x3) fun y6 => zc (ixO a0.Leases x3) fun y7 => zc (bif (decide ((s89 [(qgf y6), (qgg a0 y7)]) = 0)) && (decide (0 < x3)) then ixO a0.Leases x3 else some default) fun y8 => zc (bif (decide ((s89 [(qgf y6), (qgg a0 y7)]) = 0)) && (decide (0 < x3)) then ixO a0.Leases (x3 - 1) else some default) fun y9 => (bif ((decide ((s89 [(qgf y6), (qgg a0 y7)]) = 0)) && (decide (0 < x3))) && (decide (y8.fFrom ≤ y9.fTo)) then qc6 (fun z0_ z1_ => vc a0 k4 z0_ z1_) x3 15 else qc6 (fun z0_ z1_ => vc a0 k4 z0_ z1_) x3 (s89 [(qgf y6), (qgg a0 y7)])) else (bif (decide (x2 = 0)) && (decide (4 < (List.length a0.Shares : Int))) then qbv a0 5 else qbv a0 x2))
def qao (a0 : S5036) (x1 : Int) : Option Int :=
 vc a0 ((((List.length a0.Leases : Int) - 0).toNat) + 1) x1 0
def qo8 (a0 : S5036) : Option Int :=
 (bif (decide ((s89 [(qhu a0.Request), (qdg a0.Holder)]) = 0)) && (decide (8 < (List.length a0.Leases : Int))) then qao a0 5 else qao a0 (s89 [(qhu a0.Request), (qdg a0.Holder)]))
theorem zc4 {g : GL} (a0 : S5036) {R : Int}  (hb0 : a0.Leases.length ≤ 1000) (hb1 : a0.Shares.length ≤ 1000) (hR : qo8 a0 = some R) : Con (EG g) 77 [G.agg [G.str a0.Request.Name, G.str a0.Request.Carrier, G.str a0.Request.Kind, G.str a0.Request.Terminal, G.str a0.Request.Partner, G.str a0.Request.Link, G.int a0.Request.Period.fFrom, G.int a0.Request.Period.fTo, G.int a0.Request.Period.Days, G.int a0.Request.Minute, G.int a0.Request.Seats, G.int a0.Request.Size, G.int a0.Request.Noise, G.str a0.Holder, G.sl 3 (List.map S5102.c a0.Leases), G.sl 1 (List.map cStr a0.Shares)]] (G.int R) := by
 unfold qo8 at hR;refine qm Tryz.func77 U U fun w0 M0 => ?_;refine qb<|qa [.p, .p]<|su (zi U U) U<|sa U U<|qd<|qb<|zr [.p, .p, .p, .p, .p, .p, .p, .p, .p] (by kernel_rfl)<|su (qc U xe U) U<|su (qr U qab U U U) U<|su (qg U q58 U (q71 a0.Request) (qe U qk)) U<|su (qc U qep U) U<|su (qf U ty9 U) U<|su (qg U q25 U (q46 a0.Holder) (qe U qk)) U ?_;refine su (qt U Tryz.underlying38 ty3 z3 U (qx U (qx U jp)) U (by simp []) (by decide)) U ?_;refine su (qg U K89 U (c89 [(qhu a0.Request), (qdg a0.Holder)]) (qe U qk)) U<|sa U U<|qd ?_;refine ko (γ := Int) (fun g => ([(1, .g (G.ref [G.str a0.Request.Name, G.str a0.Request.Carrier, G.str a0.Request.Kind, G.str a0.Request.Terminal, G.str a0.Request.Partner, G.str a0.Request.Link, G.int a0.Request.Period.fFrom, G.int a0.Request.Period.fTo, G.int a0.Request.Period.Days, G.int a0.Request.Minute, G.int a0.Request.Seats, G.int a0.Request.Size, G.int a0.Request.Noise, G.str a0.Holder, G.sl 3 (List.map S5102.c a0.Leases), G.sl 1 (List.map cStr a0.Shares)])), (3, .g (G.int g))], [])) (fun g => qao a0 g = some R) ?_ ?_
 ·refine qb<|qa [.p, .p, .p, .p, .p, .p, .p, .p]<|sm U U<|su (jn U U U) U<|sm U U<|sg U U (fun h => qc U qai U) U<|sg U U (fun h => qf U qd6 (gd h U)) U<|sg U U (fun h => zb (f := S5102.c) (l := a0.Leases) U Tryz.underlying34 (gd h U)) U<|sg U U (fun h => zy U (gd h U) U) U<|su (zt U U U U) U<|qd ?_;refine ql _ U (fun h7 => ?_) (fun h7 => ?_)
  ·replace hR := zk hR h7;refine qa [.p]<|sa U U<|qd ?_;exact ⟨U, 5, ⟨U, U, O⟩, O, U, hR, O⟩
  ·replace hR := zl hR h7;refine qn ?_;exact ⟨U, (s89 [(qhu a0.Request), (qdg a0.Holder)]), ⟨U, U, O⟩, O, U, hR, O⟩
 ·rintro x1 hR;replace hR : qao a0 x1 = some R := hR;unfold qao at hR;refine qb<|qb<|qa [.p]<|sa U U<|qd<|qp<|zf (γ := Nat × Int × Int) (fun g => ([(1, .g (G.ref [G.str a0.Request.Name, G.str a0.Request.Carrier, G.str a0.Request.Kind, G.str a0.Request.Terminal, G.str a0.Request.Partner, G.str a0.Request.Link, G.int a0.Request.Period.fFrom, G.int a0.Request.Period.fTo, G.int a0.Request.Period.Days, G.int a0.Request.Minute, G.int a0.Request.Seats, G.int a0.Request.Size, G.int a0.Request.Noise, G.str a0.Holder, G.sl 3 (List.map S5102.c a0.Leases), G.sl 1 (List.map cStr a0.Shares)])), (3, .g (G.int g.2.1)), (4, .g (G.int g.2.2))], [])) (fun g => ((List.length a0.Leases : Int) - g.2.2).toNat < g.1 ∧ 0 ≤ g.2.2 ∧ g.2.2 ≤ (List.length a0.Leases : Int) ∧ vc a0 g.1 g.2.1 g.2.2 = some R) (fun g => g.1) ⟨U, ((((List.length a0.Leases : Int) - 0).toNat) + 1, x1, 0), ⟨U, U, U, O⟩, O, U, ⟨Nat.lt_succ_self _, iD, iD, (by exact hR)⟩, O⟩ ?_
  ·rintro ⟨k4, x2, x3⟩ ⟨hk1, iv1_0, iv1_1, hR⟩;replace hk1 : ((List.length a0.Leases : Int) - x3).toNat < k4 := hk1;replace hR : vc a0 k4 x2 x3 = some R := hR;replace iv1_0 : 0 ≤ x3 := iv1_0;replace iv1_1 : x3 ≤ (List.length a0.Leases : Int) := iv1_1;obtain ⟨k4, rfl⟩ : ∃ m, k4 = m + 1 := ⟨k4 - 1, by omega⟩;rw [vc] at hR;(try dsimp only at hR);refine qb<|qb<|qa [.p, .p, .p, .p, .p, .p, .p, .p, .p]<|sm U U<|su (qc U qai U) U<|su (qf U qd6 U) U<|su (zb (f := S5102.c) (l := a0.Leases) U Tryz.underlying34 U) U<|su (zd U U U) U<|sm U U<|sg U U (fun h => qj U U) U<|sg U U (fun h => jn U (gd h U) U) U<|su (zt U U U U) U<|qd ?_;refine ql _ U (fun h1 => ?_) (fun h1 => ?_)
   ·replace h1 : ((decide (x3 < (List.length a0.Leases : Int))) && (decide (x2 = 0))) = true := h1;replace hR := zk hR h1;(try simp only [bB] at h1);refine qn ?_;refine ko (γ := Int) (fun g => ([(1, .g (G.ref [G.str a0.Request.Name, G.str a0.Request.Carrier, G.str a0.Request.Kind, G.str a0.Request.Terminal, G.str a0.Request.Partner, G.str a0.Request.Link, G.int a0.Request.Period.fFrom, G.int a0.Request.Period.fTo, G.int a0.Request.Period.Days, G.int a0.Request.Minute, G.int a0.Request.Seats, G.int a0.Request.Size, G.int a0.Request.Noise, G.str a0.Holder, G.sl 3 (List.map S5102.c a0.Leases), G.sl 1 (List.map cStr a0.Shares)])), (3, .g (G.int g)), (4, .g (G.int x3))], [])) (fun g => qc6 (fun z0_ z1_ => vc a0 k4 z0_ z1_) x3 g = some R) ?_ ?_
    ·refine qp<|qb ?_;obtain ⟨y6, by6, hR⟩ := qh hR;obtain ⟨y7, by7, hR⟩ := qh hR;refine zr [.p, .p, .p, .p, .p, .p, .p, .p, .p, .p, .p, .p, .p, .p, .p, .p] (by kernel_rfl)<|su (qc U qai U) U<|su (qf U qd6 U) U<|sm U U<|su (z5 (f := S5102.c) (l := a0.Leases) (a := y6) U Tryz.underlying34 qd4 U U (jj by6) (zh by6)) U<|su (qr U qd4 U U U) U<|su (qg U zao U (zc2 y6) (qe U qk)) U<|su (qr U qc0 U U U) U<|su (qc U qai U) U<|su (qf U qd6 U) U<|sm U U<|su (z5 (f := S5102.c) (l := a0.Leases) (a := y7) U Tryz.underlying34 qd4 U U (jj by7) (zh by7)) U<|su (qr U qd4 U U U) U<|su (qg U zap U (zc3 a0 y7) (qe U (qe U qk))) U ?_;refine su (qt U Tryz.underlying38 ty3 z3 U (qx U (qx U jp)) U (by simp []) (by decide)) U ?_;refine su (qg U K89 U (c89 [(qgf y6), (qgg a0 y7)]) (qe U qk)) U<|sa U U<|qd<|qb ?_;obtain ⟨y8, by8, hR⟩ := qh hR;obtain ⟨y9, by9, hR⟩ := qh hR;refine zr [.p, .p, .p, .p, .p, .p, .p, .p, .p, .p, .p, .p, .p, .p, .p, .p, .p, .p, .p, .p, .p, .p] (by kernel_rfl)<|sm U U<|su (jn U U U) U<|sm U U<|sg U U (fun h => qj U U) U<|sg U U (fun h => zy U (gd h U) U) U<|su (zt U U U U) U<|sm U U<|sg U U (fun h => qc U qai U) U<|sg U U (fun h => qf U qd6 (gd h U)) U<|sg U U (fun h => qj U U) U<|sg U U (fun h => z5 (f := S5102.c) (l := a0.Leases) (a := y8) U Tryz.underlying34 qd4 (gd h U) (gd h U) (jj (xm by8 h)) (zh (xm by8 h))) U<|sg U U (fun h => qc U qje (gd h U)) U<|sg U U (fun h => qf U ty3 (gd h U)) U<|sg U U (fun h => qc U qai U) U<|sg U U (fun h => qf U qd6 (gd h U)) U<|sg U U (fun h => qj U U) U<|sg U U (fun h => kz U (gd h U) U iF) U<|sg U U (fun h => z5 (f := S5102.c) (l := a0.Leases) (a := y9) U Tryz.underlying34 qd4 (gd h U) (gd h U) (jj (xm by9 h)) (zh (xm by9 h))) U<|sg U U (fun h => qc U qjf (gd h U)) U<|sg U U (fun h => qf U ty3 (gd h U)) U<|sg U U (fun h => vj U (gd h U) (gd h U)) U<|su (zt U U U U) U<|qd ?_;refine ql _ U (fun h2 => ?_) (fun h2 => ?_)
     ·replace hR := zk hR h2;refine qa [.p]<|sa U U<|qd ?_;exact ⟨U, 15, ⟨U, U, U, O⟩, O, U, hR, O⟩
     ·replace hR := zl hR h2;refine qn ?_;exact ⟨U, (s89 [(qgf y6), (qgg a0 y7)]), ⟨U, U, U, O⟩, O, U, hR, O⟩
    ·rintro x5 hR;replace hR : qc6 (fun z0_ z1_ => vc a0 k4 z0_ z1_) x3 x5 = some R := hR;unfold qc6 at hR;refine qa [.p, .p, .p]<|sm U U<|su (zn U U U iF) U<|sa U U<|qd ?_;exact ⟨U, (k4, x5, x3 + 1), ⟨U, U, U, O⟩, O, U, ⟨iB, iB, iB, hR⟩, by simp⟩
   ·replace h1 : ((decide (x3 < (List.length a0.Leases : Int))) && (decide (x2 = 0))) = false := h1;replace hR := zl hR h1;(try simp only [bB] at h1);refine zw ?_;refine ko (γ := Int) (fun g => ([(1, .g (G.ref [G.str a0.Request.Name, G.str a0.Request.Carrier, G.str a0.Request.Kind, G.str a0.Request.Terminal, G.str a0.Request.Partner, G.str a0.Request.Link, G.int a0.Request.Period.fFrom, G.int a0.Request.Period.fTo, G.int a0.Request.Period.Days, G.int a0.Request.Minute, G.int a0.Request.Seats, G.int a0.Request.Size, G.int a0.Request.Noise, G.str a0.Holder, G.sl 3 (List.map S5102.c a0.Leases), G.sl 1 (List.map cStr a0.Shares)])), (3, .g (G.int g))], [])) (fun g => qbv a0 g = some R) ?_ ?_
    ·refine qb<|qa [.p, .p, .p, .p, .p, .p, .p, .p]<|sm U U<|su (jn U U U) U<|sm U U<|sg U U (fun h => qc U qbb U) U<|sg U U (fun h => qf U ty22 (gd h U)) U<|sg U U (fun h => zb (f := cStr) (l := a0.Shares) U Tryz.underlying35 (gd h U)) U<|sg U U (fun h => zy U (gd h U) U) U<|su (zt U U U U) U<|qd ?_;refine ql _ U (fun h6 => ?_) (fun h6 => ?_)
     ·replace hR := zk hR h6;refine qa [.p]<|sa U U<|qd ?_;exact ⟨U, 5, ⟨U, U, O⟩, O, U, hR, O⟩
     ·replace hR := zl hR h6;refine qn ?_;exact ⟨U, x2, ⟨U, U, O⟩, O, U, hR, O⟩
    ·rintro x10 hR;replace hR : qbv a0 x10 = some R := hR;unfold qbv at hR;refine qb<|qb<|qa [.p]<|sa U U<|qd<|qp<|zf (γ := Nat × Int × Int) (fun g => ([(1, .g (G.ref [G.str a0.Request.Name, G.str a0.Request.Carrier, G.str a0.Request.Kind, G.str a0.Request.Terminal, G.str a0.Request.Partner, G.str a0.Request.Link, G.int a0.Request.Period.fFrom, G.int a0.Request.Period.fTo, G.int a0.Request.Period.Days, G.int a0.Request.Minute, G.int a0.Request.Seats, G.int a0.Request.Size, G.int a0.Request.Noise, G.str a0.Holder, G.sl 3 (List.map S5102.c a0.Leases), G.sl 1 (List.map cStr a0.Shares)])), (3, .g (G.int g.2.1)), (5, .g (G.int g.2.2))], [])) (fun g => ((List.length a0.Shares : Int) - g.2.2).toNat < g.1 ∧ 0 ≤ g.2.2 ∧ g.2.2 ≤ (List.length a0.Shares : Int) ∧ jy a0 g.1 g.2.1 g.2.2 = some R) (fun g => g.1) ⟨U, ((((List.length a0.Shares : Int) - 0).toNat) + 1, x10, 0), ⟨U, U, U, O⟩, O, U, ⟨Nat.lt_succ_self _, iD, iD, (by exact hR)⟩, O⟩ ?_
     ·rintro ⟨k13, x11, x12⟩ ⟨hk2, iv2_0, iv2_1, hR⟩;replace hk2 : ((List.length a0.Shares : Int) - x12).toNat < k13 := hk2;replace hR : jy a0 k13 x11 x12 = some R := hR;replace iv2_0 : 0 ≤ x12 := iv2_0;replace iv2_1 : x12 ≤ (List.length a0.Shares : Int) := iv2_1;obtain ⟨k13, rfl⟩ : ∃ m, k13 = m + 1 := ⟨k13 - 1, by omega⟩;rw [jy] at hR;(try dsimp only at hR);refine qb<|qb<|qa [.p, .p, .p, .p, .p, .p, .p, .p, .p]<|sm U U<|su (qc U qbb U) U<|su (qf U ty22 U) U<|su (zb (f := cStr) (l := a0.Shares) U Tryz.underlying35 U) U<|su (zd U U U) U<|sm U U<|sg U U (fun h => qj U U) U<|sg U U (fun h => jn U (gd h U) U) U<|su (zt U U U U) U<|qd ?_;refine ql _ U (fun h3 => ?_) (fun h3 => ?_)
      ·replace h3 : ((decide (x12 < (List.length a0.Shares : Int))) && (decide (x11 = 0))) = true := h3;replace hR := zk hR h3;(try simp only [bB] at h3);refine qn ?_;refine ko (γ := Int) (fun g => ([(1, .g (G.ref [G.str a0.Request.Name, G.str a0.Request.Carrier, G.str a0.Request.Kind, G.str a0.Request.Terminal, G.str a0.Request.Partner, G.str a0.Request.Link, G.int a0.Request.Period.fFrom, G.int a0.Request.Period.fTo, G.int a0.Request.Period.Days, G.int a0.Request.Minute, G.int a0.Request.Seats, G.int a0.Request.Size, G.int a0.Request.Noise, G.str a0.Holder, G.sl 3 (List.map S5102.c a0.Leases), G.sl 1 (List.map cStr a0.Shares)])), (3, .g (G.int g)), (5, .g (G.int x12))], [])) (fun g => qe0 (fun z0_ z1_ => jy a0 k13 z0_ z1_) x12 g = some R) ?_ ?_
       ·refine qp<|qb ?_;obtain ⟨y15, by15, hR⟩ := qh hR;refine qa [.p, .p, .p, .p, .p, .p, .p]<|su (qc U qbb U) U<|su (qf U ty22 U) U<|sm U U<|su (z5 (f := cStr) (l := a0.Shares) (a := y15) U Tryz.underlying35 ty9 U U (jj by15) (zh by15)) U<|su (qf U ty9 U) U<|su (qg U q25 U (q46 y15) (qe U qk)) U<|sa U U<|qd ?_;refine ko (γ := Int) (fun g => ([(1, .g (G.ref [G.str a0.Request.Name, G.str a0.Request.Carrier, G.str a0.Request.Kind, G.str a0.Request.Terminal, G.str a0.Request.Partner, G.str a0.Request.Link, G.int a0.Request.Period.fFrom, G.int a0.Request.Period.fTo, G.int a0.Request.Period.Days, G.int a0.Request.Minute, G.int a0.Request.Seats, G.int a0.Request.Size, G.int a0.Request.Noise, G.str a0.Holder, G.sl 3 (List.map S5102.c a0.Leases), G.sl 1 (List.map cStr a0.Shares)])), (3, .g (G.int g)), (5, .g (G.int x12))], [])) (fun g => qbd (fun z0_ z1_ => jy a0 k13 z0_ z1_) a0 x12 g = some R) ?_ ?_
        ·refine qb ?_;obtain ⟨y18, by18, hR⟩ := qh hR;refine zr [.p, .p, .p, .p, .p, .p, .p, .p, .p, .p, .p, .p] (by kernel_rfl)<|sm U U<|su (jn U U U) U<|sm U U<|sg U U (fun h => qc U qbb U) U<|sg U U (fun h => qf U ty22 (gd h U)) U<|sg U U (fun h => qj U U) U<|sg U U (fun h => z5 (f := cStr) (l := a0.Shares) (a := y18) U Tryz.underlying35 ty9 (gd h U) (gd h U) (jj (xm by18 h)) (zh (xm by18 h))) U<|sg U U (fun h => qf U ty9 (gd h U)) U<|sg U U (fun h => qc U qep U) U<|sg U U (fun h => qf U ty9 (gd h U)) U<|sg U U (fun h => vk U (gd h U) (gd h U)) U<|su (zt U U U U) U<|qd ?_;refine ql _ U (fun h5 => ?_) (fun h5 => ?_)
         ·replace hR := zk hR h5;refine qa [.p]<|sa U U<|qd ?_;exact ⟨U, 31, ⟨U, U, U, O⟩, O, U, hR, O⟩
         ·replace hR := zl hR h5;refine qn ?_;exact ⟨U, (qdg y15), ⟨U, U, U, O⟩, O, U, hR, O⟩
        ·rintro x16 hR;replace hR : qbd (fun z0_ z1_ => jy a0 k13 z0_ z1_) a0 x12 x16 = some R := hR;unfold qbd at hR;refine qb ?_;obtain ⟨y17, by17, hR⟩ := qh hR;refine zr [.p, .p, .p, .p, .p, .p, .p, .p, .p, .p, .p, .p, .p, .p] (by kernel_rfl)<|sm U U<|su (jn U U U) U<|sm U U<|sg U U (fun h => qc U qbb U) U<|sg U U (fun h => qf U ty22 (gd h U)) U<|sg U U (fun h => qj U U) U<|sg U U (fun h => qhn (f := cStr) (l := a0.Shares) U Tryz.underlying35 ty9 (gd h U) qc9 (qda (gd h U) (by omega)) (by omega) (by omega)) U<|sg U U (fun h => qc U qbb U) U<|sg U U (fun h => qf U ty22 (gd h U)) U<|sg U U (fun h => qj U U) U<|sg U U (fun h => z5 (f := cStr) (l := a0.Shares) (a := y17) U Tryz.underlying35 ty9 (gd h U) (gd h U) (jj (xm by17 h)) (zh (xm by17 h))) U<|sg U U (fun h => qf U ty9 (gd h U)) U<|sg U U (fun h => qg U K92 U (c92 (List.take (Int.toNat x12) a0.Shares) y17) (qe (gd h U) (qe (gd h U) qk))) U<|su (zt U U U U) U<|qd ?_;refine ql _ U (fun h4 => ?_) (fun h4 => ?_)
         ·replace hR := zk hR h4;refine qa [.p]<|sa U U<|qd ?_;exact ⟨U, 9, ⟨U, U, U, O⟩, O, U, hR, O⟩
         ·replace hR := zl hR h4;refine qn ?_;exact ⟨U, x16, ⟨U, U, U, O⟩, O, U, hR, O⟩
       ·rintro x14 hR;replace hR : qe0 (fun z0_ z1_ => jy a0 k13 z0_ z1_) x12 x14 = some R := hR;unfold qe0 at hR;refine qa [.p, .p, .p]<|sm U U<|su (zn U U U iF) U<|sa U U<|qd ?_;exact ⟨U, (k13, x14, x12 + 1), ⟨U, U, U, O⟩, O, U, ⟨iB, iB, iB, hR⟩, by simp⟩
      ·replace hR := zl hR h3;refine zw<|qb<|qa [.p, .p]<|sm U U<|sa U U<|qd<|qo ?_;obtain rfl := Option.some.inj hR;exact za U (rv_g U)
def qpy (a0 : S5072) : Int :=
 (s89 [(qhu a0.Request), (s90 a0.Rank 0 999999999)])
theorem zc5 {g : GL} (a0 : S5072)    : Con (EG g) 78 [G.agg (S5072.c a0)] (G.int (qpy a0)) := by
 generalize hR : qpy a0 = R;unfold qpy at hR;refine qm Tryz.func78 U U fun w0 M0 => ?_;refine qb<|qa [.p, .p]<|su (zi U U) U<|sa U U<|qd<|qb<|zr [.p, .p, .p, .p, .p, .p, .p, .p, .p] (by kernel_rfl)<|su (qc U qdu U) U<|su (qr U qab U U U) U<|su (qg U q58 U (q71 a0.Request) (qe U qk)) U<|su (qc U qf8 U) U<|su (qf U ty3 U) U<|su (qg U K90 U (c90 a0.Rank 0 999999999) (qe U (qe U (qe U qk)))) U ?_;refine su (qt U Tryz.underlying38 ty3 z3 U (qx U (qx U jp)) U (by simp []) (by decide)) U ?_;refine su (qg U K89 U (c89 [(qhu a0.Request), (s90 a0.Rank 0 999999999)]) (qe U qk)) U<|sa U U<|qd<|qo ?_;subst hR;exact za U (rv_g U)
def qq9 (a0 : S5072) (a1 : S5072) : Bool :=
 (decide (a0.Rank < a1.Rank)) || ((decide (a0.Rank = a1.Rank)) && (wu a0.Request.Name a1.Request.Name))
theorem zc6 {g : GL} (a0 : S5072) (a1 : S5072)    : Con (EG g) 79 [G.agg (S5072.c a0), G.agg (S5072.c a1)] (G.bool (qq9 a0 a1)) := by
 generalize hR : qq9 a0 a1 = R;unfold qq9 at hR;refine qm Tryz.func79 U U fun w0 M0 => ?_;refine qb<|qa [.p, .p, .p]<|su (zi U U) U<|su (zi U U) U<|sa U U<|qd<|qb<|qa [.p, .p, .p, .p, .p, .p, .p, .p, .p, .p, .p, .p, .p, .p, .p, .p, .p, .p, .p, .p, .p, .p]<|su (qc U qf8 U) U<|su (qf U ty3 U) U<|su (qc U qf8 U) U<|su (qf U ty3 U) U<|su (zd U U U) U<|sm U U<|sg U U (fun h => qc U qf8 U) U<|sg U U (fun h => qf U ty3 (gd h U)) U<|sg U U (fun h => qc U qf8 U) U<|sg U U (fun h => qf U ty3 (gd h U)) U<|sg U U (fun h => jn U (gd h U) (gd h U)) U<|sg U U (fun h => qj U (gd h U)) U<|st_g U U U (jl _ _ _) (fun h => qc U qdu U) U<|st_g U U U (jl _ _ _) (fun h => qc U kh (gd h U)) U<|st_g U U U (jl _ _ _) (fun h => qf U ty9 (gd h U)) U<|st_g U U U (jl _ _ _) (fun h => qc U qdu U) U<|st_g U U U (jl _ _ _) (fun h => qc U kh (gd h U)) U<|st_g U U U (jl _ _ _) (fun h => qf U ty9 (gd h U)) U<|st_g U U U (jl _ _ _) (fun h => qu0 U (gd h U) (gd h U)) U<|sg U U (fun h => zt U (gd h U) U (gd2 h U)) U<|su (jg U U U U) U<|sa U U<|qd<|qo ?_;subst hR;exact za U (rv_g U)
def qb5 (a1 : ByteArray) : List S5036 → Nat → Int
 | [], k2 => (-1)
 | y3 :: t4, k2 => (bif decide (y3.Request.Name = a1) then ((k2 : Nat) : Int) else qb5 a1 t4 (k2 + 1))
def qfq (a0 : List S5036) (a1 : ByteArray) : Int :=
 qb5 a1 a0 0
theorem q3h {g : GL} (a0 : List S5036) (a1 : ByteArray)    : Con (EG g) 16 [G.sl 16 (List.map S5036.c a0), G.str a1] (G.int (qfq a0 a1)) := by
 generalize hR : qfq a0 a1 = R;unfold qfq at hR;refine qm Tryz.func16 U U fun w0 M0 => ?_;refine zu (f := S5036.c) (l := a0) 0 U fun hla0 => ?_;refine qb<|qa [.p]<|sa U U<|qd<|qb<|qb<|qa [.p]<|sa U U<|qd<|qp<|zf (γ := Nat × (List S5036)) (fun g => ([(0, .g (G.sl 16 (List.map S5036.c a0))), (1, .g (G.str a1)), (5, .g (G.int ((g.1 : Nat) : Int)))], [])) (fun g => a0.drop g.1 = g.2 ∧ qb5 a1 g.2 g.1 = R) (fun g => List.length g.2) ⟨U, (0, a0), ⟨U, U, U, O⟩, O, U, ⟨U, (by exact hR)⟩, O⟩ ?_
 ·rintro ⟨k2, t4⟩ ⟨hd, hR⟩;replace hd : a0.drop k2 = t4 := hd;replace hR : qb5 a1 t4 k2 = R := hR;refine qb<|qb<|qa [.p, .p, .p, .p]<|sm U U<|sm U U<|su (zb (f := S5036.c) (l := a0) U Tryz.underlying23 U) U<|su (zd U U U) U<|qd ?_;refine zu (f := S5036.c) (l := a0) 0 U fun hlz1 => ?_;refine ql _ U (fun h1 => ?_) (fun h1 => ?_)
  ·replace h1 : (decide (((k2 : Nat) : Int) < (List.length a0 : Int))) = true := h1;obtain ⟨y3, t4, rfl, hx1, hd⟩ := zq hd (decT h1);replace h1 := decT h1;rw [qb5] at hR;(try dsimp only at hR);refine qn<|qb<|qp<|qb<|qa [.p, .p, .p, .p, .p, .p, .p, .p]<|sm U U<|sm U U<|su (z5 (f := S5036.c) (l := a0) (a := y3) U Tryz.underlying23 qc0 U U (Int.natCast_nonneg _) hx1) U<|su (qc U xe U) U<|su (qc U kh U) U<|su (qf U ty9 U) U<|sm U U<|su (vk U U U) U<|qd ?_;refine ql _ U (fun h3 => ?_) (fun h3 => ?_)
   ·replace hR := zk hR h3;refine qb<|qa [.p, .p]<|sm U U<|sa U U<|qd<|qo ?_;subst hR;exact za U (rv_g U)
   ·replace h3 : (decide (y3.Request.Name = a1)) = false := h3;replace hR := zl hR h3;(try simp only [bB] at h3);refine qn<|qa [.p, .p, .p]<|sm U U<|su (zn U U U iE) U<|sa U U<|qd ?_;exact ⟨U, (k2 + 1, t4), ⟨U, U, U, O⟩, O, U, ⟨hd, hR⟩, by simp⟩
  ·replace h1 : (decide (((k2 : Nat) : Int) < (List.length a0 : Int))) = false := h1;obtain rfl := zz hd (decF h1);rw [qb5] at hR;refine zw<|qb<|qa [.p]<|sa U U<|qd<|qo ?_;subst hR;exact za U (rv_g U)
def qb6 (a1 : ByteArray) : List S5072 → Nat → Int
 | [], k2 => (-1)
 | y3 :: t4, k2 => (bif decide (y3.Request.Name = a1) then ((k2 : Nat) : Int) else qb6 a1 t4 (k2 + 1))
def qke (a0 : List S5072) (a1 : ByteArray) : Int :=
 qb6 a1 a0 0
theorem q6m {g : GL} (a0 : List S5072) (a1 : ByteArray)    : Con (EG g) 17 [G.sl 14 (List.map S5072.c a0), G.str a1] (G.int (qke a0 a1)) := by
 generalize hR : qke a0 a1 = R;unfold qke at hR;refine qm Tryz.func17 U U fun w0 M0 => ?_;refine zu (f := S5072.c) (l := a0) 0 U fun hla0 => ?_;refine qb<|qa [.p]<|sa U U<|qd<|qb<|qb<|qa [.p]<|sa U U<|qd<|qp<|zf (γ := Nat × (List S5072)) (fun g => ([(0, .g (G.sl 14 (List.map S5072.c a0))), (1, .g (G.str a1)), (5, .g (G.int ((g.1 : Nat) : Int)))], [])) (fun g => a0.drop g.1 = g.2 ∧ qb6 a1 g.2 g.1 = R) (fun g => List.length g.2) ⟨U, (0, a0), ⟨U, U, U, O⟩, O, U, ⟨U, (by exact hR)⟩, O⟩ ?_
 ·rintro ⟨k2, t4⟩ ⟨hd, hR⟩;replace hd : a0.drop k2 = t4 := hd;replace hR : qb6 a1 t4 k2 = R := hR;refine qb<|qb<|qa [.p, .p, .p, .p]<|sm U U<|sm U U<|su (zb (f := S5072.c) (l := a0) U Tryz.underlying24 U) U<|su (zd U U U) U<|qd ?_;refine zu (f := S5072.c) (l := a0) 0 U fun hlz1 => ?_;refine ql _ U (fun h1 => ?_) (fun h1 => ?_)
  ·replace h1 : (decide (((k2 : Nat) : Int) < (List.length a0 : Int))) = true := h1;obtain ⟨y3, t4, rfl, hx1, hd⟩ := zq hd (decT h1);replace h1 := decT h1;rw [qb6] at hR;(try dsimp only at hR);refine qn<|qb<|qp<|qb<|qa [.p, .p, .p, .p, .p, .p, .p, .p]<|sm U U<|sm U U<|su (z5 (f := S5072.c) (l := a0) (a := y3) U Tryz.underlying24 qc2 U U (Int.natCast_nonneg _) hx1) U<|su (qc U qdu U) U<|su (qc U kh U) U<|su (qf U ty9 U) U<|sm U U<|su (vk U U U) U<|qd ?_;refine ql _ U (fun h3 => ?_) (fun h3 => ?_)
   ·replace hR := zk hR h3;refine qb<|qa [.p, .p]<|sm U U<|sa U U<|qd<|qo ?_;subst hR;exact za U (rv_g U)
   ·replace h3 : (decide (y3.Request.Name = a1)) = false := h3;replace hR := zl hR h3;(try simp only [bB] at h3);refine qn<|qa [.p, .p, .p]<|sm U U<|su (zn U U U iE) U<|sa U U<|qd ?_;exact ⟨U, (k2 + 1, t4), ⟨U, U, U, O⟩, O, U, ⟨hd, hR⟩, by simp⟩
  ·replace h1 : (decide (((k2 : Nat) : Int) < (List.length a0 : Int))) = false := h1;obtain rfl := zz hd (decF h1);rw [qb6] at hR;refine zw<|qb<|qa [.p]<|sa U U<|qd<|qo ?_;subst hR;exact za U (rv_g U)
def qk1 (a0 : S115) : Bool :=
 (q0q a0) && ((decide ((s40 a0.Period) ≠ 0)) || (decide (IntKind.i64.wrap (a0.Period.fTo - a0.Period.fFrom) < 14)))
theorem q72 {g : GL} (a0 : S115)    : Con (EG g) 76 [G.agg (S115.c a0)] (G.bool (qk1 a0)) := by
 generalize hR : qk1 a0 = R;unfold qk1 at hR;refine qm Tryz.func76 U U fun w0 M0 => ?_;refine qb<|qa [.p, .p]<|su (zi U U) U<|sa U U<|qd<|qb<|qa [.p, .p, .p, .p, .p, .p, .p, .p, .p, .p, .p, .p, .p, .p, .p, .p, .p, .p, .p]<|su (qr U qab U U U) U<|su (qg U q9i U (zc7 a0) (qe U qk)) U<|sm U U<|sg U U (fun h => qc U vt U) U<|sg U U (fun h => qr U ty46 (gd h U) U U) U<|sg U U (fun h => qg U K40 U (c40 a0.Period) (qe (gd h U) qk)) U<|sg U U (fun h => zx U (gd h U) U) U<|sg U U (fun h => qj U (gd h U)) U<|st_g U U U (jl _ _ _) (fun h => qc U vt U) U<|st_g U U U (jl _ _ _) (fun h => qc U qa4 (gd h U)) U<|st_g U U U (jl _ _ _) (fun h => qf U ty3 (gd h U)) U<|st_g U U U (jl _ _ _) (fun h => qc U vt U) U<|st_g U U U (jl _ _ _) (fun h => qc U qa3 (gd h U)) U<|st_g U U U (jl _ _ _) (fun h => qf U ty3 (gd h U)) U<|st_g U U U (jl _ _ _) (fun h => kq U (gd h U) (gd h U)) U<|st_g U U U (jl _ _ _) (fun h => zd U (gd h U) U) U<|sg U U (fun h => jg U (gd h U) U (gd2 h U)) U<|su (zt U U U U) U<|sa U U<|qd<|qo ?_;subst hR;exact za U (rv_g U)
def qe9  : List ByteArray → Nat → Bool
 | [], k6 => true
 | y7 :: t8, k6 => (bif decide (40 < (ByteArray.size y7 : Int)) then false else qe9  t8 (k6 + 1))
def qfa (a0 : S5036) : List S5102 → Nat → Bool
 | [], k2 => qe9 a0.Shares 0
 | y3 :: t4, k2 => (bif decide (40 < (ByteArray.size y3.Carrier : Int)) then false else qfa a0 t4 (k2 + 1))
def qoh (a0 : S5036) : Bool :=
 (bif (((!(qk1 a0.Request)) || (decide (40 < (ByteArray.size a0.Holder : Int)))) || ((decide (4 < (List.length a0.Leases : Int))) && (decide ((List.length a0.Leases : Int) ≠ 9)))) || (decide (5 < (List.length a0.Shares : Int))) then false else qfa a0 a0.Leases 0)
theorem zc8 {g : GL} (a0 : S5036)    : Con (EG g) 75 [G.agg [G.str a0.Request.Name, G.str a0.Request.Carrier, G.str a0.Request.Kind, G.str a0.Request.Terminal, G.str a0.Request.Partner, G.str a0.Request.Link, G.int a0.Request.Period.fFrom, G.int a0.Request.Period.fTo, G.int a0.Request.Period.Days, G.int a0.Request.Minute, G.int a0.Request.Seats, G.int a0.Request.Size, G.int a0.Request.Noise, G.str a0.Holder, G.sl 3 (List.map S5102.c a0.Leases), G.sl 1 (List.map cStr a0.Shares)]] (G.bool (qoh a0)) := by
 generalize hR : qoh a0 = R;unfold qoh at hR;refine qm Tryz.func75 U U fun w0 M0 => ?_;refine qb<|qa [.p, .p]<|su (zi U U) U<|sa U U<|qd<|qb<|qb<|qa [.p, .p, .p, .p, .p, .p, .p, .p, .p, .p, .p, .p, .p, .p, .p, .p, .p, .p, .p, .p, .p, .p, .p, .p, .p, .p, .p, .p]<|su (qc U xe U) U<|su (qr U qab U U U) U<|su (qg U q56 U (q72 a0.Request) (qe U qk)) U<|su (jo U U) U<|sm U U<|sg U U (fun h => qc U qep U) U<|sg U U (fun h => qf U ty9 (gd h U)) U<|sg U U (fun h => vz U Tryz.underlying9 (gd h U)) U<|sg U U (fun h => zy U (gd h U) U) U<|su (jg U U U U) U<|sm U U<|sg U U (fun h => qc U qai U) U<|sg U U (fun h => qf U qd6 (gd h U)) U<|sg U U (fun h => zb (f := S5102.c) (l := a0.Leases) U Tryz.underlying34 (gd h U)) U<|sg U U (fun h => zy U (gd h U) U) U<|sg U U (fun h => qj U (gd h U)) U<|st_g U U U (jl _ _ _) (fun h => qc U qai U) U<|st_g U U U (jl _ _ _) (fun h => qf U qd6 (gd h U)) U<|st_g U U U (jl _ _ _) (fun h => zb (f := S5102.c) (l := a0.Leases) U Tryz.underlying34 (gd h U)) U<|st_g U U U (jl _ _ _) (fun h => zx U (gd h U) U) U<|sg U U (fun h => zt U (gd h U) U (gd2 h U)) U<|su (jg U U U U) U<|sm U U<|sg U U (fun h => qc U qbb U) U<|sg U U (fun h => qf U ty22 (gd h U)) U<|sg U U (fun h => zb (f := cStr) (l := a0.Shares) U Tryz.underlying35 (gd h U)) U<|sg U U (fun h => zy U (gd h U) U) U<|su (jg U U U U) U<|qd ?_;refine ql _ U (fun h1 => ?_) (fun h1 => ?_)
 ·replace hR := zk hR h1;refine qb<|qa [.p]<|sa U U<|qd<|qo ?_;subst hR;exact za U (rv_g U)
 ·replace h1 : ((((!(qk1 a0.Request)) || (decide (40 < (ByteArray.size a0.Holder : Int)))) || ((decide (4 < (List.length a0.Leases : Int))) && (decide ((List.length a0.Leases : Int) ≠ 9)))) || (decide (5 < (List.length a0.Shares : Int)))) = false := h1;replace hR := zl hR h1;(try simp only [bB] at h1);refine qn<|qb<|qb<|qa [.p]<|sa U U<|qd<|qp<|zf (γ := Nat × (List S5102)) (fun g => ([(1, .g (G.ref [G.str a0.Request.Name, G.str a0.Request.Carrier, G.str a0.Request.Kind, G.str a0.Request.Terminal, G.str a0.Request.Partner, G.str a0.Request.Link, G.int a0.Request.Period.fFrom, G.int a0.Request.Period.fTo, G.int a0.Request.Period.Days, G.int a0.Request.Minute, G.int a0.Request.Seats, G.int a0.Request.Size, G.int a0.Request.Noise, G.str a0.Holder, G.sl 3 (List.map S5102.c a0.Leases), G.sl 1 (List.map cStr a0.Shares)])), (3, .g (G.int ((g.1 : Nat) : Int)))], [])) (fun g => a0.Leases.drop g.1 = g.2 ∧ qfa a0 g.2 g.1 = R) (fun g => List.length g.2) ⟨U, (0, a0.Leases), ⟨U, U, O⟩, O, U, ⟨U, (by exact hR)⟩, O⟩ ?_
  ·rintro ⟨k2, t4⟩ ⟨hd, hR⟩;replace hd : a0.Leases.drop k2 = t4 := hd;replace hR : qfa a0 t4 k2 = R := hR;refine qb<|qb<|qa [.p, .p, .p, .p, .p]<|sm U U<|su (qc U qai U) U<|su (qf U qd6 U) U<|su (zb (f := S5102.c) (l := a0.Leases) U Tryz.underlying34 U) U<|su (zd U U U) U<|qd ?_;refine zu (f := S5102.c) (l := a0.Leases) 35 U fun hlz1 => ?_;refine ql _ U (fun h2 => ?_) (fun h2 => ?_)
   ·replace h2 : (decide (((k2 : Nat) : Int) < (List.length a0.Leases : Int))) = true := h2;obtain ⟨y3, t4, rfl, hx1, hd⟩ := zq hd (decT h2);replace h2 := decT h2;rw [qfa] at hR;(try dsimp only at hR);refine qn<|qb<|qp<|qb<|qa [.p, .p, .p, .p, .p, .p, .p, .p]<|su (qc U qai U) U<|su (qf U qd6 U) U<|sm U U<|su (z5 (f := S5102.c) (l := a0.Leases) (a := y3) U Tryz.underlying34 qd4 U U (Int.natCast_nonneg _) hx1) U<|su (qc U qm6 U) U<|su (qf U ty9 U) U<|su (vz U Tryz.underlying9 U) U<|su (zy U U U) U<|qd ?_;refine ql _ U (fun h7 => ?_) (fun h7 => ?_)
    ·replace hR := zk hR h7;refine qb<|qa [.p]<|sa U U<|qd<|qo ?_;subst hR;exact za U (rv_g U)
    ·replace h7 : (decide (40 < (ByteArray.size y3.Carrier : Int))) = false := h7;replace hR := zl hR h7;(try simp only [bB] at h7);refine qn<|qa [.p, .p, .p]<|sm U U<|su (zn U U U iE) U<|sa U U<|qd ?_;exact ⟨U, (k2 + 1, t4), ⟨U, U, O⟩, O, U, ⟨hd, hR⟩, by simp⟩
   ·replace h2 : (decide (((k2 : Nat) : Int) < (List.length a0.Leases : Int))) = false := h2;obtain rfl := zz hd (decF h2);rw [qfa] at hR;refine zw<|qb<|qb<|qa [.p]<|sa U U<|qd<|qp<|zf (γ := Nat × (List ByteArray)) (fun g => ([(1, .g (G.ref [G.str a0.Request.Name, G.str a0.Request.Carrier, G.str a0.Request.Kind, G.str a0.Request.Terminal, G.str a0.Request.Partner, G.str a0.Request.Link, G.int a0.Request.Period.fFrom, G.int a0.Request.Period.fTo, G.int a0.Request.Period.Days, G.int a0.Request.Minute, G.int a0.Request.Seats, G.int a0.Request.Size, G.int a0.Request.Noise, G.str a0.Holder, G.sl 3 (List.map S5102.c a0.Leases), G.sl 1 (List.map cStr a0.Shares)])), (4, .g (G.int ((g.1 : Nat) : Int)))], [])) (fun g => a0.Shares.drop g.1 = g.2 ∧ qe9  g.2 g.1 = R) (fun g => List.length g.2) ⟨U, (0, a0.Shares), ⟨U, U, O⟩, O, U, ⟨U, (by exact hR)⟩, O⟩ ?_
    ·rintro ⟨k6, t8⟩ ⟨hd, hR⟩;replace hd : a0.Shares.drop k6 = t8 := hd;replace hR : qe9  t8 k6 = R := hR;refine qb<|qb<|qa [.p, .p, .p, .p, .p]<|sm U U<|su (qc U qbb U) U<|su (qf U ty22 U) U<|su (zb (f := cStr) (l := a0.Shares) U Tryz.underlying35 U) U<|su (zd U U U) U<|qd ?_;refine zu (f := cStr) (l := a0.Shares) 50 U fun hlz2 => ?_;refine ql _ U (fun h4 => ?_) (fun h4 => ?_)
     ·replace h4 : (decide (((k6 : Nat) : Int) < (List.length a0.Shares : Int))) = true := h4;obtain ⟨y7, t8, rfl, hx2, hd⟩ := zq hd (decT h4);replace h4 := decT h4;rw [qe9] at hR;(try dsimp only at hR);refine qn<|qb<|qp<|qb<|qa [.p, .p, .p, .p, .p, .p, .p]<|su (qc U qbb U) U<|su (qf U ty22 U) U<|sm U U<|su (z5 (f := cStr) (l := a0.Shares) (a := y7) U Tryz.underlying35 ty9 U U (Int.natCast_nonneg _) hx2) U<|su (qf U ty9 U) U<|su (vz U Tryz.underlying9 U) U<|su (zy U U U) U<|qd ?_;refine ql _ U (fun h6 => ?_) (fun h6 => ?_)
      ·replace hR := zk hR h6;refine qb<|qa [.p]<|sa U U<|qd<|qo ?_;subst hR;exact za U (rv_g U)
      ·replace h6 : (decide (40 < (ByteArray.size y7 : Int))) = false := h6;replace hR := zl hR h6;(try simp only [bB] at h6);refine qn<|qa [.p, .p, .p]<|sm U U<|su (zn U U U iE) U<|sa U U<|qd ?_;exact ⟨U, (k6 + 1, t8), ⟨U, U, O⟩, O, U, ⟨hd, hR⟩, by simp⟩
     ·replace h4 : (decide (((k6 : Nat) : Int) < (List.length a0.Shares : Int))) = false := h4;obtain rfl := zz hd (decF h4);rw [qe9] at hR;refine zw<|qb<|qa [.p]<|sa U U<|qd<|qo ?_;subst hR;exact za U (rv_g U)
def qb9  : List S5072 → Nat → Bool
 | [], k6 => true
 | y7 :: t8, k6 => (bif !(qk1 y7.Request) then false else qb9  t8 (k6 + 1))
def qbi (a0 : S5025) : List S5036 → Nat → Bool
 | [], k2 => qb9 a0.Waiting 0
 | y3 :: t4, k2 => (bif !(qoh y3) then false else qbi a0 t4 (k2 + 1))
def qkg (a0 : S5025) : Bool :=
 (bif ((decide (5 < (List.length a0.Slots : Int))) && (decide ((List.length a0.Slots : Int) ≠ 65))) || ((decide (5 < (List.length a0.Waiting : Int))) && (decide ((List.length a0.Waiting : Int) ≠ 65))) then false else qbi a0 a0.Slots 0)
theorem zb6 {g : GL} (a0 : S5025)    : Con (EG g) 34 [G.agg [G.sl 16 (List.map S5036.c a0.Slots), G.sl 14 (List.map S5072.c a0.Waiting)]] (G.bool (qkg a0)) := by
 generalize hR : qkg a0 = R;unfold qkg at hR;refine qm Tryz.func34 U U fun w0 M0 => ?_;refine qb<|qa [.p, .p]<|su (zi U U) U<|sa U U<|qd<|qb<|qb<|qa [.p, .p, .p, .p, .p, .p, .p, .p, .p, .p, .p, .p, .p, .p, .p, .p, .p, .p, .p, .p, .p, .p]<|su (qc U xn U) U<|su (qf U qcm U) U<|su (zb (f := S5036.c) (l := a0.Slots) U Tryz.underlying23 U) U<|su (zy U U U) U<|sm U U<|sg U U (fun h => qc U xn U) U<|sg U U (fun h => qf U qcm (gd h U)) U<|sg U U (fun h => zb (f := S5036.c) (l := a0.Slots) U Tryz.underlying23 (gd h U)) U<|sg U U (fun h => zx U (gd h U) U) U<|su (zt U U U U) U<|sm U U<|sg U U (fun h => qc U qah U) U<|sg U U (fun h => qf U qd5 (gd h U)) U<|sg U U (fun h => zb (f := S5072.c) (l := a0.Waiting) U Tryz.underlying24 (gd h U)) U<|sg U U (fun h => zy U (gd h U) U) U<|sg U U (fun h => qj U (gd h U)) U<|st_g U U U (jl _ _ _) (fun h => qc U qah U) U<|st_g U U U (jl _ _ _) (fun h => qf U qd5 (gd h U)) U<|st_g U U U (jl _ _ _) (fun h => zb (f := S5072.c) (l := a0.Waiting) U Tryz.underlying24 (gd h U)) U<|st_g U U U (jl _ _ _) (fun h => zx U (gd h U) U) U<|sg U U (fun h => zt U (gd h U) U (gd2 h U)) U<|su (jg U U U U) U<|qd ?_;refine ql _ U (fun h1 => ?_) (fun h1 => ?_)
 ·replace hR := zk hR h1;refine qb<|qa [.p]<|sa U U<|qd<|qo ?_;subst hR;exact za U (rv_g U)
 ·replace h1 : (((decide (5 < (List.length a0.Slots : Int))) && (decide ((List.length a0.Slots : Int) ≠ 65))) || ((decide (5 < (List.length a0.Waiting : Int))) && (decide ((List.length a0.Waiting : Int) ≠ 65)))) = false := h1;replace hR := zl hR h1;(try simp only [bB] at h1);refine qn<|qb<|qb<|qa [.p]<|sa U U<|qd<|qp<|zf (γ := Nat × (List S5036)) (fun g => ([(1, .g (G.ref [G.sl 16 (List.map S5036.c a0.Slots), G.sl 14 (List.map S5072.c a0.Waiting)])), (3, .g (G.int ((g.1 : Nat) : Int)))], [])) (fun g => a0.Slots.drop g.1 = g.2 ∧ qbi a0 g.2 g.1 = R) (fun g => List.length g.2) ⟨U, (0, a0.Slots), ⟨U, U, O⟩, O, U, ⟨U, (by exact hR)⟩, O⟩ ?_
  ·rintro ⟨k2, t4⟩ ⟨hd, hR⟩;replace hd : a0.Slots.drop k2 = t4 := hd;replace hR : qbi a0 t4 k2 = R := hR;refine qb<|qb<|qa [.p, .p, .p, .p, .p]<|sm U U<|su (qc U xn U) U<|su (qf U qcm U) U<|su (zb (f := S5036.c) (l := a0.Slots) U Tryz.underlying23 U) U<|su (zd U U U) U<|qd ?_;refine zu (f := S5036.c) (l := a0.Slots) 29 U fun hlz1 => ?_;refine ql _ U (fun h2 => ?_) (fun h2 => ?_)
   ·replace h2 : (decide (((k2 : Nat) : Int) < (List.length a0.Slots : Int))) = true := h2;obtain ⟨y3, t4, rfl, hx1, hd⟩ := zq hd (decT h2);replace h2 := decT h2;rw [qbi] at hR;(try dsimp only at hR);refine qn<|qb<|qp<|qb<|qa [.p, .p, .p, .p, .p, .p, .p]<|su (qc U xn U) U<|su (qf U qcm U) U<|sm U U<|su (z5 (f := S5036.c) (l := a0.Slots) (a := y3) U Tryz.underlying23 qc0 U U (Int.natCast_nonneg _) hx1) U<|su (qr U qc0 U U U) U<|su (qg U q96 U (zc8 y3) (qe U qk)) U<|su (jo U U) U<|qd ?_;refine ql _ U (fun h7 => ?_) (fun h7 => ?_)
    ·replace hR := zk hR h7;refine qb<|qa [.p]<|sa U U<|qd<|qo ?_;subst hR;exact za U (rv_g U)
    ·replace h7 : (!(qoh y3)) = false := h7;replace hR := zl hR h7;(try simp only [bB] at h7);refine qn<|qa [.p, .p, .p]<|sm U U<|su (zn U U U iE) U<|sa U U<|qd ?_;exact ⟨U, (k2 + 1, t4), ⟨U, U, O⟩, O, U, ⟨hd, hR⟩, by simp⟩
   ·replace h2 : (decide (((k2 : Nat) : Int) < (List.length a0.Slots : Int))) = false := h2;obtain rfl := zz hd (decF h2);rw [qbi] at hR;refine zw<|qb<|qb<|qa [.p]<|sa U U<|qd<|qp<|zf (γ := Nat × (List S5072)) (fun g => ([(1, .g (G.ref [G.sl 16 (List.map S5036.c a0.Slots), G.sl 14 (List.map S5072.c a0.Waiting)])), (4, .g (G.int ((g.1 : Nat) : Int)))], [])) (fun g => a0.Waiting.drop g.1 = g.2 ∧ qb9  g.2 g.1 = R) (fun g => List.length g.2) ⟨U, (0, a0.Waiting), ⟨U, U, O⟩, O, U, ⟨U, (by exact hR)⟩, O⟩ ?_
    ·rintro ⟨k6, t8⟩ ⟨hd, hR⟩;replace hd : a0.Waiting.drop k6 = t8 := hd;replace hR : qb9  t8 k6 = R := hR;refine qb<|qb<|qa [.p, .p, .p, .p, .p]<|sm U U<|su (qc U qah U) U<|su (qf U qd5 U) U<|su (zb (f := S5072.c) (l := a0.Waiting) U Tryz.underlying24 U) U<|su (zd U U U) U<|qd ?_;refine zu (f := S5072.c) (l := a0.Waiting) 43 U fun hlz2 => ?_;refine ql _ U (fun h4 => ?_) (fun h4 => ?_)
     ·replace h4 : (decide (((k6 : Nat) : Int) < (List.length a0.Waiting : Int))) = true := h4;obtain ⟨y7, t8, rfl, hx2, hd⟩ := zq hd (decT h4);replace h4 := decT h4;rw [qb9] at hR;(try dsimp only at hR);refine qn<|qb<|qp<|qb<|qa [.p, .p, .p, .p, .p, .p, .p, .p]<|su (qc U qah U) U<|su (qf U qd5 U) U<|sm U U<|su (z5 (f := S5072.c) (l := a0.Waiting) (a := y7) U Tryz.underlying24 qc2 U U (Int.natCast_nonneg _) hx2) U<|su (qc U qdu U) U<|su (qr U qab U U U) U<|su (qg U q56 U (q72 y7.Request) (qe U qk)) U<|su (jo U U) U<|qd ?_;refine ql _ U (fun h6 => ?_) (fun h6 => ?_)
      ·replace hR := zk hR h6;refine qb<|qa [.p]<|sa U U<|qd<|qo ?_;subst hR;exact za U (rv_g U)
      ·replace h6 : (!(qk1 y7.Request)) = false := h6;replace hR := zl hR h6;(try simp only [bB] at h6);refine qn<|qa [.p, .p, .p]<|sm U U<|su (zn U U U iE) U<|sa U U<|qd ?_;exact ⟨U, (k6 + 1, t8), ⟨U, U, O⟩, O, U, ⟨hd, hR⟩, by simp⟩
     ·replace h4 : (decide (((k6 : Nat) : Int) < (List.length a0.Waiting : Int))) = false := h4;obtain rfl := zz hd (decF h4);rw [qb9] at hR;refine zw<|qb<|qa [.p]<|sa U U<|qd<|qo ?_;subst hR;exact za U (rv_g U)
def qbw (rec2 : Nat → Option Int) (k6 : Nat) (x10 : Int) : Option Int :=
 (bif decide (x10 ≠ 0) then some x10 else rec2 (k6 + 1))
def qbx (rec2 : Nat → Option Int) (a0 : S5025) (k6 : Nat) (y7 : S5072) (x9 : Int) : Option Int :=
 zc (bif (decide (x9 = 0)) && (decide (0 < ((k6 : Nat) : Int))) then ixO a0.Waiting (IntKind.i64.wrap (((k6 : Nat) : Int) - 1)) else some default) fun y11 => (bif ((decide (x9 = 0)) && (decide (0 < ((k6 : Nat) : Int)))) && (!(qq9 y11 y7)) then qbw rec2 k6 11 else qbw rec2 k6 x9)
def kp (a0 : S5025) : List S5072 → Nat → Option Int
 | [], k6 => some 0
 | y7 :: t8, k6 => (bif (decide ((qpy y7) = 0)) && ((decide (0 ≤ (qfq a0.Slots y7.Request.Name))) || (decide (0 ≤ (qke (List.take (Int.toNat ((k6 : Nat) : Int)) a0.Waiting) y7.Request.Name)))) then qbx (fun k_ => kp a0 t8 k_) a0 k6 y7 9 else qbx (fun k_ => kp a0 t8 k_) a0 k6 y7 (qpy y7))
def qby (rec1 : Nat → Option Int) (k2 : Nat) (x13 : Int) : Option Int :=
 (bif decide (x13 ≠ 0) then some x13 else rec1 (k2 + 1))
def vn (a0 : S5025) : List S5036 → Nat → Option Int
 | [], k2 => (bif decide (64 < (List.length a0.Waiting : Int)) then some 5 else kp a0 a0.Waiting 0)
 | y3 :: t4, k2 => zc (qo8 y3) fun r12 => (bif (decide (r12 = 0)) && (decide (0 ≤ (qfq (List.take (Int.toNat ((k2 : Nat) : Int)) a0.Slots) y3.Request.Name))) then qby (fun k_ => vn a0 t4 k_) k2 9 else qby (fun k_ => vn a0 t4 k_) k2 r12)
def qqx (a0 : S5025) : Option Int :=
 (bif decide (64 < (List.length a0.Slots : Int)) then some 5 else vn a0 a0.Slots 0)
theorem zb7 {g : GL} (a0 : S5025) {R : Int}  (hb : ∀ x ∈ a0.Slots, x.Leases.length ≤ 1000 ∧ x.Shares.length ≤ 1000) (hR : qqx a0 = some R) : Con (EG g) 35 [G.agg [G.sl 16 (List.map S5036.c a0.Slots), G.sl 14 (List.map S5072.c a0.Waiting)]] (G.int R) := by
 unfold qqx at hR;refine qm Tryz.func35 U U fun w0 M0 => ?_;refine qb<|qa [.p, .p]<|su (zi U U) U<|sa U U<|qd<|qb<|qb<|qa [.p, .p, .p, .p]<|su (qc U xn U) U<|su (qf U qcm U) U<|su (zb (f := S5036.c) (l := a0.Slots) U Tryz.underlying23 U) U<|su (zy U U U) U<|qd ?_;refine ql _ U (fun h1 => ?_) (fun h1 => ?_)
 ·replace hR := zk hR h1;refine qb<|qa [.p]<|sa U U<|qd<|qo ?_;obtain rfl := Option.some.inj hR;exact za U (rv_g U)
 ·replace h1 : (decide (64 < (List.length a0.Slots : Int))) = false := h1;replace hR := zl hR h1;(try simp only [bB] at h1);refine qn<|qb<|qb<|qa [.p]<|sa U U<|qd<|qp<|zf (γ := Nat × (List S5036)) (fun g => ([(1, .g (G.ref [G.sl 16 (List.map S5036.c a0.Slots), G.sl 14 (List.map S5072.c a0.Waiting)])), (3, .g (G.int ((g.1 : Nat) : Int)))], [])) (fun g => a0.Slots.drop g.1 = g.2 ∧ vn a0 g.2 g.1 = some R) (fun g => List.length g.2) ⟨U, (0, a0.Slots), ⟨U, U, O⟩, O, U, ⟨U, (by exact hR)⟩, O⟩ ?_
  ·rintro ⟨k2, t4⟩ ⟨hd, hR⟩;replace hd : a0.Slots.drop k2 = t4 := hd;replace hR : vn a0 t4 k2 = some R := hR;refine qb<|qb<|qa [.p, .p, .p, .p, .p]<|sm U U<|su (qc U xn U) U<|su (qf U qcm U) U<|su (zb (f := S5036.c) (l := a0.Slots) U Tryz.underlying23 U) U<|su (zd U U U) U<|qd ?_;refine zu (f := S5036.c) (l := a0.Slots) 14 U fun hlz1 => ?_;refine ql _ U (fun h2 => ?_) (fun h2 => ?_)
   ·replace h2 : (decide (((k2 : Nat) : Int) < (List.length a0.Slots : Int))) = true := h2;obtain ⟨y3, t4, rfl, hx1, hd⟩ := zq hd (decT h2);replace h2 := decT h2;rw [vn] at hR;(try dsimp only at hR);refine qn<|qb<|qp<|qb ?_;obtain ⟨r12, br12, hR⟩ := qh hR;refine qa [.p, .p, .p, .p, .p, .p, .p]<|su (qc U xn U) U<|su (qf U qcm U) U<|sm U U<|su (z5 (f := S5036.c) (l := a0.Slots) (a := y3) U Tryz.underlying23 qc0 U U (Int.natCast_nonneg _) hx1) U<|su (qr U qc0 U U U) U<|su (qg U q97 U (zc4 y3 (hb _ (List.mem_of_getElem? hx1)).1 (hb _ (List.mem_of_getElem? hx1)).2 br12) (qe U qk)) U<|sa U U<|qd ?_;refine ko (γ := Int) (fun g => ([(1, .g (G.ref [G.sl 16 (List.map S5036.c a0.Slots), G.sl 14 (List.map S5072.c a0.Waiting)])), (3, .g (G.int ((k2 : Nat) : Int))), (4, .g (G.int g))], [])) (fun g => qby (fun k_ => vn a0 t4 k_) k2 g = some R) ?_ ?_
    ·refine qb<|zr [.p, .p, .p, .p, .p, .p, .p, .p, .p, .p, .p, .p, .p, .p, .p, .p, .p] (by kernel_rfl)<|sm U U<|su (jn U U U) U<|sm U U<|sg U U (fun h => qc U xn U) U<|sg U U (fun h => qf U qcm (gd h U)) U<|sg U U (fun h => qj U U) U<|sg U U (fun h => qhn (f := S5036.c) (l := a0.Slots) U Tryz.underlying23 qc0 (gd h U) qc9 (qda (gd h U) (Int.natCast_nonneg _)) (Nat.zero_le _) (qpa hx1)) U<|sg U U (fun h => qc U xn U) U<|sg U U (fun h => qf U qcm (gd h U)) U<|sg U U (fun h => qj U U) U<|sg U U (fun h => z5 (f := S5036.c) (l := a0.Slots) (a := y3) U Tryz.underlying23 qc0 (gd h U) (gd h U) (Int.natCast_nonneg _) hx1) U<|sg U U (fun h => qc U xe (gd h U)) U<|sg U U (fun h => qc U kh (gd h U)) U<|sg U U (fun h => qf U ty9 (gd h U)) U<|sg U U (fun h => qg U q20 U (q3h (List.take (Int.toNat ((k2 : Nat) : Int)) a0.Slots) y3.Request.Name) (qe (gd h U) (qe (gd h U) qk))) U<|sg U U (fun h => xo U (gd h U) U) U<|su (zt U U U U) U<|qd ?_;refine ql _ U (fun h11 => ?_) (fun h11 => ?_)
     ·replace hR := zk hR h11;refine qa [.p]<|sa U U<|qd ?_;exact ⟨U, 9, ⟨U, U, U, O⟩, O, U, hR, O⟩
     ·replace hR := zl hR h11;refine qn ?_;exact ⟨U, r12, ⟨U, U, U, O⟩, O, U, hR, O⟩
    ·rintro x13 hR;replace hR : qby (fun k_ => vn a0 t4 k_) k2 x13 = some R := hR;unfold qby at hR;refine qb<|qa [.p, .p]<|sm U U<|su (zx U U U) U<|qd ?_;refine ql _ U (fun h10 => ?_) (fun h10 => ?_)
     ·replace hR := zk hR h10;refine qb<|qa [.p, .p]<|sm U U<|sa U U<|qd<|qo ?_;obtain rfl := Option.some.inj hR;exact za U (rv_g U)
     ·replace h10 : (decide (x13 ≠ 0)) = false := h10;replace hR := zl hR h10;(try simp only [bB] at h10);refine qn<|qa [.p, .p, .p]<|sm U U<|su (zn U U U iE) U<|sa U U<|qd ?_;exact ⟨U, (k2 + 1, t4), ⟨U, U, O⟩, O, U, ⟨hd, hR⟩, by simp⟩
   ·replace h2 : (decide (((k2 : Nat) : Int) < (List.length a0.Slots : Int))) = false := h2;obtain rfl := zz hd (decF h2);rw [vn] at hR;refine zw<|qb<|qb<|qa [.p, .p, .p, .p]<|su (qc U qah U) U<|su (qf U qd5 U) U<|su (zb (f := S5072.c) (l := a0.Waiting) U Tryz.underlying24 U) U<|su (zy U U U) U<|qd ?_;refine ql _ U (fun h4 => ?_) (fun h4 => ?_)
    ·replace hR := zk hR h4;refine qb<|qa [.p]<|sa U U<|qd<|qo ?_;obtain rfl := Option.some.inj hR;exact za U (rv_g U)
    ·replace h4 : (decide (64 < (List.length a0.Waiting : Int))) = false := h4;replace hR := zl hR h4;(try simp only [bB] at h4);refine qn<|qb<|qb<|qa [.p]<|sa U U<|qd<|qp<|zf (γ := Nat × (List S5072)) (fun g => ([(1, .g (G.ref [G.sl 16 (List.map S5036.c a0.Slots), G.sl 14 (List.map S5072.c a0.Waiting)])), (5, .g (G.int ((g.1 : Nat) : Int)))], [])) (fun g => a0.Waiting.drop g.1 = g.2 ∧ kp a0 g.2 g.1 = some R) (fun g => List.length g.2) ⟨U, (0, a0.Waiting), ⟨U, U, O⟩, O, U, ⟨U, (by exact hR)⟩, O⟩ ?_
     ·rintro ⟨k6, t8⟩ ⟨hd, hR⟩;replace hd : a0.Waiting.drop k6 = t8 := hd;replace hR : kp a0 t8 k6 = some R := hR;refine qb<|qb<|qa [.p, .p, .p, .p, .p]<|sm U U<|su (qc U qah U) U<|su (qf U qd5 U) U<|su (zb (f := S5072.c) (l := a0.Waiting) U Tryz.underlying24 U) U<|su (zd U U U) U<|qd ?_;refine zu (f := S5072.c) (l := a0.Waiting) 51 U fun hlz2 => ?_;refine ql _ U (fun h5 => ?_) (fun h5 => ?_)
      ·replace h5 : (decide (((k6 : Nat) : Int) < (List.length a0.Waiting : Int))) = true := h5;obtain ⟨y7, t8, rfl, hx2, hd⟩ := zq hd (decT h5);replace h5 := decT h5;rw [kp] at hR;(try dsimp only at hR);refine qn<|qb<|qp<|qb<|qa [.p, .p, .p, .p, .p, .w, .w]<|su (qc U qah U) U<|su (qf U qd5 U) U<|sm U U<|su (z5 (f := S5072.c) (l := a0.Waiting) (a := y7) U Tryz.underlying24 qc2 U U (Int.natCast_nonneg _) hx2) U<|su (qr U qc2 U U U) U<|sw (zm 6 U q6f U U) U<|je U U (qw (tv := .g (G.agg (S5072.c y7))) U qc2 U U U U U)<|qd<|qb<|qa [.r, .p, .p]<|sr (zj U qc2 U U U U) U<|su (qg U q98 U (zc5 y7) (qe U qk)) U<|sa U U<|qd ?_;refine ko (γ := Int) (fun g => ([(1, .g (G.ref [G.sl 16 (List.map S5036.c a0.Slots), G.sl 14 (List.map S5072.c a0.Waiting)])), (5, .g (G.int ((k6 : Nat) : Int))), (6, .ptr 6 0), (7, .g (G.int g))], [(6, .box [.g (G.str y7.Request.Name), .g (G.str y7.Request.Carrier), .g (G.str y7.Request.Kind), .g (G.str y7.Request.Terminal), .g (G.str y7.Request.Partner), .g (G.str y7.Request.Link), .g (G.int y7.Request.Period.fFrom), .g (G.int y7.Request.Period.fTo), .g (G.int y7.Request.Period.Days), .g (G.int y7.Request.Minute), .g (G.int y7.Request.Seats), .g (G.int y7.Request.Size), .g (G.int y7.Request.Noise), .g (G.int y7.Rank)])])) (fun g => qbx (fun k_ => kp a0 t8 k_) a0 k6 y7 g = some R) ?_ ?_
       ·refine qb<|zr [.p, .p, .p, .p, .p, .p, .p, .r, .p, .p, .p, .p, .p, .p, .p, .p, .p, .r, .p, .p, .p, .p] (by kernel_rfl)<|sm U U<|su (jn U U U) U<|sm U U<|sg U U (fun h => qc U xn U) U<|sg U U (fun h => qf U qcm (gd h U)) U<|sg U U (fun h => qu U qdu U) U<|sg U U (fun h => qu U kh (gd h U)) U<|qff U U U (jf _ _) (fun h => zo U ty9 (gd h U) U U) U<|sg U U (fun h => qg U q20 U (q3h a0.Slots y7.Request.Name) (qe (gd h U) (qe (gd h U) qk))) U<|sg U U (fun h => xo U (gd h U) U) U<|sg U U (fun h => qj U (gd h U)) U<|st_g U U U (jl _ _ _) (fun h => qc U qah U) U<|st_g U U U (jl _ _ _) (fun h => qf U qd5 (gd h U)) U<|st_g U U U (jl _ _ _) (fun h => qj U U) U<|st_g U U U (jl _ _ _) (fun h => qhn (f := S5072.c) (l := a0.Waiting) U Tryz.underlying24 qc2 (gd h U) qc9 (qda (gd h U) (Int.natCast_nonneg _)) (Nat.zero_le _) (qpa hx2)) U<|st_g U U U (jl _ _ _) (fun h => qu U qdu U) U<|st_g U U U (jl _ _ _) (fun h => qu U kh (gd h U)) U<|qff U U U (jl _ _ _) (fun h => zo U ty9 (gd h U) U U) U<|st_g U U U (jl _ _ _) (fun h => qg U q52 U (q6m (List.take (Int.toNat ((k6 : Nat) : Int)) a0.Waiting) y7.Request.Name) (qe (gd h U) (qe (gd h U) qk))) U<|st_g U U U (jl _ _ _) (fun h => xo U (gd h U) U) U<|sg U U (fun h => jg U (gd h U) U (gd2 h U)) U<|su (zt U U U U) U<|qd ?_;refine ql _ U (fun h9 => ?_) (fun h9 => ?_)
        ·replace hR := zk hR h9;refine qa [.p]<|sa U U<|qd ?_;exact ⟨U, 9, jA, ⟨U, O⟩, U, hR, O⟩
        ·replace hR := zl hR h9;refine qn ?_;exact ⟨U, (qpy y7), jA, ⟨U, O⟩, U, hR, O⟩
       ·rintro x9 hR;replace hR : qbx (fun k_ => kp a0 t8 k_) a0 k6 y7 x9 = some R := hR;unfold qbx at hR;refine ko (γ := Int) (fun g => ([(1, .g (G.ref [G.sl 16 (List.map S5036.c a0.Slots), G.sl 14 (List.map S5072.c a0.Waiting)])), (5, .g (G.int ((k6 : Nat) : Int))), (7, .g (G.int g))], [])) (fun g => qbw (fun k_ => kp a0 t8 k_) k6 g = some R) ?_ ?_
        ·refine qb ?_;obtain ⟨y11, by11, hR⟩ := qh hR;refine zr [.p, .p, .p, .p, .p, .p, .p, .p, .p, .p, .p, .p, .p, .r, .p, .p, .p] (by kernel_rfl)<|sm U U<|su (jn U U U) U<|sm U U<|sg U U (fun h => qj U U) U<|sg U U (fun h => zy U (gd h U) U) U<|su (zt U U U U) U<|sm U U<|sg U U (fun h => qc U qah U) U<|sg U U (fun h => qf U qd5 (gd h U)) U<|sg U U (fun h => qj U U) U<|sg U U (fun h => kq U (gd h U) U) U<|sg U U (fun h => z5 (f := S5072.c) (l := a0.Waiting) (a := y11) U Tryz.underlying24 qc2 (gd h U) (gd h U) (jj (xm by11 h)) (zh (xm by11 h))) U<|sg U U (fun h => qr U qc2 (gd h U) U U) U<|qff U U U (jf _ _) (fun h => zj U qc2 U U U U) U<|sg U U (fun h => qg U q99 U (zc6 y11 y7) (qe (gd h U) (qe (gd h U) qk))) U<|sg U U (fun h => jo U (gd h U)) U<|su (zt U U U U) U<|qd ?_;refine ql _ U (fun h8 => ?_) (fun h8 => ?_)
         ·replace hR := zk hR h8;refine qa [.p]<|sa U U<|qd ?_;exact ⟨U, 11, ⟨U, U, U, O⟩, O, U, hR, O⟩
         ·replace hR := zl hR h8;refine qn ?_;exact ⟨U, x9, ⟨U, U, U, O⟩, O, U, hR, O⟩
        ·rintro x10 hR;replace hR : qbw (fun k_ => kp a0 t8 k_) k6 x10 = some R := hR;unfold qbw at hR;refine qb<|qa [.p, .p]<|sm U U<|su (zx U U U) U<|qd ?_;refine ql _ U (fun h7 => ?_) (fun h7 => ?_)
         ·replace hR := zk hR h7;refine qb<|qa [.p, .p]<|sm U U<|sa U U<|qd<|qo ?_;obtain rfl := Option.some.inj hR;exact za U (rv_g U)
         ·replace h7 : (decide (x10 ≠ 0)) = false := h7;replace hR := zl hR h7;(try simp only [bB] at h7);refine qn<|qa [.p, .p, .p]<|sm U U<|su (zn U U U iE) U<|sa U U<|qd ?_;exact ⟨U, (k6 + 1, t8), ⟨U, U, O⟩, O, U, ⟨hd, hR⟩, by simp⟩
      ·replace h5 : (decide (((k6 : Nat) : Int) < (List.length a0.Waiting : Int))) = false := h5;obtain rfl := zz hd (decF h5);rw [kp] at hR;refine zw<|qb<|qa [.p]<|sa U U<|qd<|qo ?_;obtain rfl := Option.some.inj hR;exact za U (rv_g U)
end Go.Sim
