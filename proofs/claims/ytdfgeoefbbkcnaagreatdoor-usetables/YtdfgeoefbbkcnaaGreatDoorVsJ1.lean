/-
  What is proved: the states of the slots written out; the order of the records, and one record more.
-/
import Derived.Test.YtdfgeoefbbkcnaaGreatDoorVsF7
import Derived.Test.YtdfgeoefbbkcnaaGreatDoorVsF2
import Derived.Test.YtdfgeoefbbkcnaaGreatDoorVaA9
import Derived.Test.YtdfgeoefbbkcnaaGreatDoorVaA4
set_option linter.unusedSectionVars false
set_option linter.unusedSimpArgs false
set_option linter.unusedVariables false
set_option linter.unnecessarySimpa false
set_option linter.deprecated false
namespace Go.Sim
theorem qql : ∀ x : List UInt8, Op.bytesLess x x = false
 | [] => rfl
 | a :: x => by simp [Op.bytesLess, qql x]
theorem qvg : ∀ x y z : List UInt8, Op.bytesLess x y = true → Op.bytesLess y z = true → Op.bytesLess x z = true
 | _, _, [], _, h => by cases ‹List UInt8› <;> simp [Op.bytesLess] at h
 | _, [], _ :: _, h, _ => by cases ‹List UInt8› <;> simp [Op.bytesLess] at h
 | [], _ :: _, _ :: _, _, _ => rfl
 | a :: x, b :: y, c :: z, h, k => by
  simp only [Op.bytesLess, Bool.or_eq_true, decide_eq_true_eq, Bool.and_eq_true, beq_iff_eq] at h k ⊢
  rcases h with h | ⟨rfl, h⟩
  ·rcases k with k | ⟨rfl, k⟩
   ·exact .inl (UInt8.lt_trans h k)
   ·exact .inl h
  ·rcases k with k | ⟨rfl, k⟩
   ·exact .inl k
   ·exact .inr ⟨rfl, qvg x y z h k⟩
theorem qqm : ∀ x y : List UInt8, Op.bytesLess x y = false → Op.bytesLess y x = false → x = y
 | [], [], _, _ => rfl
 | [], _ :: _, h, _ => by simp [Op.bytesLess] at h
 | _ :: _, [], _, h => by simp [Op.bytesLess] at h
 | a :: x, b :: y, h, k => by
  simp only [Op.bytesLess, Bool.or_eq_false_iff, decide_eq_false_iff_not, Bool.and_eq_false_iff, beq_eq_false_iff_ne] at h k
  have e : a = b := UInt8.le_antisymm (UInt8.not_lt.1 k.1) (UInt8.not_lt.1 h.1)
  subst e
  rw [qqm x y (h.2.resolve_left fun g => g rfl) (k.2.resolve_left fun g => g rfl)]
theorem qb1 (a : ByteArray) : strLt a a = false := qql _
theorem qnw {a b c : ByteArray} (h : strLt a b = true) (k : strLt b c = true) : strLt a c = true := qvg _ _ _ h k
theorem qb2 {a b : ByteArray} (h : strLt a b = false) (k : strLt b a = false) : a = b := by
 have := qqm _ _ h k
 have e := toList_inj (s := a) (s' := b)
 rw [this] at e
 simpa using e.symm
theorem qlo {a b : ByteArray} (h : strLt a b = true) (k : strLt b a = true) : False := by
 have := qnw h k
 rw [qb1] at this; cases this
theorem xd (a b : S151) : s127 a b = true ↔ a.Moment < b.Moment ∨ (a.Moment = b.Moment ∧ (strLt a.Name b.Name = true ∨ (a.Name = b.Name ∧ (strLt a.Kind b.Kind = true ∨ a.Kind = b.Kind)))) := by
 unfold s127
 by_cases h : a.Moment = b.Moment
 ·rw [decide_eq_false (by simpa using h), cond_false]
  by_cases g : a.Name = b.Name
  ·simp [h, g, qb1]
  ·simp [h, g]
 ·rw [decide_eq_true h, cond_true]
  simp [h]
theorem qkf {a b : S151} (h : s127 a b = false) : s127 b a = true := by
 have h' : ¬ s127 a b = true := by rw [h]; decide
 rw [xd] at h' ⊢
 by_cases hm : a.Moment = b.Moment
 ·by_cases hn : a.Name = b.Name
  ·by_cases hk : a.Kind = b.Kind
   ·exact .inr ⟨hm.symm, .inr ⟨hn.symm, .inr hk.symm⟩⟩
   ·refine .inr ⟨hm.symm, .inr ⟨hn.symm, .inl ?_⟩⟩
    cases h1 : strLt b.Kind a.Kind
    ·cases h2 : strLt a.Kind b.Kind
     ·exact absurd (qb2 h2 h1) hk
     ·exact absurd (.inr ⟨hm, .inr ⟨hn, .inl h2⟩⟩) h'
    ·rfl
  ·refine .inr ⟨hm.symm, .inl ?_⟩
   cases h1 : strLt b.Name a.Name
   ·cases h2 : strLt a.Name b.Name
    ·exact absurd (qb2 h2 h1) hn
    ·exact absurd (.inr ⟨hm, .inl h2⟩) h'
   ·rfl
 ·left
  have : ¬ a.Moment < b.Moment := fun g => h' (.inl g)
  omega
theorem qnx (a b c : S151) (h : s127 a b = true) (k : s127 b c = true) : s127 a c = true := by
 rw [xd] at h k ⊢
 rcases h with h | ⟨h, h2⟩
 ·rcases k with k | ⟨k, _⟩
  ·left; omega
  ·left; omega
 ·rcases k with k | ⟨k, k2⟩
  ·left; omega
  ·refine .inr ⟨h.trans k, ?_⟩
   rcases h2 with h2 | ⟨h2, h3⟩
   ·rcases k2 with k2 | ⟨k2, _⟩
    ·exact .inl (qnw h2 k2)
    ·exact .inl (k2 ▸ h2)
   ·rcases k2 with k2 | ⟨k2, k3⟩
    ·exact .inl (h2 ▸ k2)
    ·refine .inr ⟨h2.trans k2, ?_⟩
     rcases h3 with h3 | h3
     ·rcases k3 with k3 | k3
      ·exact .inl (qnw h3 k3)
      ·exact .inl (k3 ▸ h3)
     ·rcases k3 with k3 | k3
      ·exact .inl (h3 ▸ k3)
      ·exact .inr (h3.trans k3)
theorem qst {a b : S151} (h : s127 a b = true) (k : s127 b a = true) : a = b := by
 rw [xd] at h k
 have hm : a.Moment = b.Moment := by omega
 have h := (h.resolve_left (by omega)).2
 have k := (k.resolve_left (by omega)).2
 have hn : a.Name = b.Name := by
  rcases h with h | h
  ·rcases k with k | k
   ·exact (qlo h k).elim
   ·exact k.1.symm
  ·exact h.1
 have hk : a.Kind = b.Kind := by
  rcases h with h | ⟨_, h | h⟩
  ·rw [hn, qb1] at h; cases h
  ·rcases k with k | ⟨_, k | k⟩
   ·rw [hn, qb1] at k; cases k
   ·exact (qlo h k).elim
   ·exact k.symm
  ·exact h
 cases a; cases b
 simp only at hm hn hk
 subst hm hn hk
 rfl
theorem qi4 (a b : ByteArray) : s133 a b = bif strLt a b then -1 else bif decide (a = b) then 0 else 1 := by
 have h : ∀ x, s183 x = false := fun x => by unfold s183; simp
 unfold s133
 rw [h, h]
 cases h1 : strLt a b
 ·by_cases h2 : a = b <;> simp [h2]
 ·rfl
theorem qsu (a b : S151) : decide (s175 a b < 0) = !(s127 b a) := by
 have h0 : ∀ x, s202 x = false := fun x => by unfold s202; simp
 have hm : s167 a.Moment b.Moment = bif decide (a.Moment < b.Moment) then -1 else bif decide (b.Moment < a.Moment) then 1 else 0 := by
  unfold s167
  rw [h0, h0]
  simp
 unfold s175 s176
 rw [hm, qi4, qi4]
 by_cases hlt : a.Moment < b.Moment
 ·have : s127 b a = false := by
   cases hc : s127 b a
   ·rfl
   ·rw [xd] at hc; omega
  rw [this]
  simp [s176_l1, hlt]
 ·by_cases hgt : b.Moment < a.Moment
  ·have : s127 b a = true := by rw [xd]; exact .inl hgt
   rw [this]
   simp [s176_l1, hlt, hgt]
  ·have he : b.Moment = a.Moment := by omega
   simp only [decide_eq_false hlt, decide_eq_false hgt, cond_false]
   cases h1 : strLt a.Name b.Name
   ·by_cases hn : a.Name = b.Name
    ·cases h2 : strLt a.Kind b.Kind
     ·have : s127 b a = true := by
       rw [xd]
       refine .inr ⟨he, .inr ⟨hn.symm, ?_⟩⟩
       cases h3 : strLt b.Kind a.Kind
       ·exact .inr (qb2 h3 h2)
       ·exact .inl rfl
      rw [this]
      by_cases hk : a.Kind = b.Kind <;> simp [s176_l1, hn, hk]
     ·have : s127 b a = false := by
       cases hc : s127 b a
       ·rfl
       ·rw [xd] at hc
        have hc := (hc.resolve_left (by omega)).2
        rcases hc with hc | ⟨_, hc | hc⟩
        ·rw [hn, qb1] at hc; cases hc
        ·exact (qlo h2 hc).elim
        ·rw [hc, qb1] at h2; cases h2
      rw [this]
      simp [s176_l1, hn]
    ·have : s127 b a = true := by
      rw [xd]
      refine .inr ⟨he, .inl ?_⟩
      cases h3 : strLt b.Name a.Name
      ·exact absurd (qb2 h1 h3) hn
      ·rfl
     rw [this]
     simp [s176_l1, hn]
   ·have : s127 b a = false := by
     cases hc : s127 b a
     ·rfl
     ·rw [xd] at hc
      have hc := (hc.resolve_left (by omega)).2
      rcases hc with hc | ⟨hc, _⟩
      ·exact (qlo h1 hc).elim
      ·rw [hc, qb1] at h1; cases h1
    rw [this]
    simp [s176_l1]
def flyL (l : List S104) : List S151 := isort (fun a b => !(s127 b a)) ((l.filter s172).map s173)
theorem qny (l : List S104) : (flyL l).Perm ((l.filter s172).map s173) := vx _ _
theorem qi5 (l : List S104) : (flyL l).Pairwise (fun a b => s127 a b = true) := by
 refine w5 qnx ?_
 refine List.pairwise_of_forall fun y x => ?_
 refine ⟨fun h => qkf (by simpa using h), fun h => by simpa using h⟩
theorem qsv (l : List S104) : s121 l = some (flyL l) := by
 unfold s121
 rw [qnz, qn0, qsw (lt := fun a b => !(s127 b a)) (fun y _ x _ => ⟨_, rfl, qsu x y⟩)]
 rfl
theorem qn1 (rec1 : Nat → List S151 → Option (List S151)) (k3 : Nat) (y : S104) : ∀ (B C : List S151) (k : Nat), B.length < k → (∀ c ∈ C, s127 c (s173 y) = true) →
  ∃ C' D, C ++ B = C' ++ D ∧ (∀ c ∈ C', s127 c (s173 y) = true) ∧ (∀ d D', D = d :: D' → s127 d (s173 y) = false) ∧ s59_l2 rec1 (C ++ B) k3 y k (C.length : Int) = rec1 (k3 + 1) (C' ++ s173 y :: D)
 | [], C, 0, h, _ => by simp at h
 | [], C, k + 1, _, hC => by
  refine ⟨C, [], rfl, hC, (fun d D' h => by cases h), ?_⟩
  rw [s59_l2]
  have e : decide ((C.length : Int) < ((C ++ ([] : List S151)).length : Int)) = false := by simp
  simp only [e, cond_false, bindO, Bool.false_and, s59_j1]
  simp [s173]
 | b :: B, C, 0, h, _ => by simp at h
 | b :: B, C, k + 1, h, hC => by
  have e : decide ((C.length : Int) < ((C ++ b :: B).length : Int)) = true := by simp; omega
  rw [s59_l2]
  simp only [e, cond_true, qip, bindO, Bool.true_and, s59_j1]
  show ∃ C' D, C ++ b :: B = C' ++ D ∧ (∀ c ∈ C', s127 c (s173 y) = true) ∧ (∀ d D', D = d :: D' → s127 d (s173 y) = false) ∧ (bif s127 b (s173 y) then s59_l2 rec1 (C ++ b :: B) k3 y k ((C.length : Int) + 1) else rec1 (k3 + 1) ((([] ++ List.take (Int.toNat (C.length : Int)) (C ++ b :: B)) ++ [s173 y]) ++ List.drop (Int.toNat (C.length : Int)) (C ++ b :: B))) = rec1 (k3 + 1) (C' ++ s173 y :: D)
  cases hm : s127 b (s173 y)
  ·refine ⟨C, b :: B, rfl, hC, ?_, ?_⟩
   ·intro d D' h; cases h; exact hm
   ·rw [cond_false]
    simp
  ·obtain ⟨C', D, h1, h2, h3, h4⟩ := qn1 rec1 k3 y B (C ++ [b]) k (by simp at h; omega) (fun c hc => by
    rcases List.mem_append.1 hc with hc | hc
    ·exact hC c hc
    ·rw [List.mem_singleton.1 hc]; exact hm)
   refine ⟨C', D, by rw [← h1]; simp, h2, h3, ?_⟩
   rw [cond_true, ← h4]
   simp
theorem qi6 {C D : List S151} {y : S151} (hs : (C ++ D).Pairwise (fun a b => s127 a b = true)) (hC : ∀ c ∈ C, s127 c y = true) (hD : ∀ d D', D = d :: D' → s127 d y = false) :
  (C ++ y :: D).Pairwise (fun a b => s127 a b = true) := by
 obtain ⟨h1, h2, h3⟩ := List.pairwise_append.1 hs
 refine List.pairwise_append.2 ⟨h1, List.pairwise_cons.2 ⟨fun d hd => ?_, h2⟩, fun c hc z hz => ?_⟩
 ·cases D with
  | nil => cases hd
  | cons d0 D' =>
   have h4 := qkf (hD d0 D' rfl)
   rcases List.mem_cons.1 hd with rfl | hd
   ·exact h4
   ·exact qnx _ _ _ h4 ((List.pairwise_cons.1 h2).1 d hd)
 ·rcases List.mem_cons.1 hz with rfl | hz
  ·exact hC c hc
  ·exact h3 c hc z hz
theorem qfh : ∀ (rest : List S104) (k : Nat) (P : List S151), P.Pairwise (fun a b => s127 a b = true) → ∃ Q, s59_l1 rest k P = some Q ∧ Q.Perm (P ++ (rest.filter s172).map s173) ∧ Q.Pairwise (fun a b => s127 a b = true)
 | [], k, P, hs => ⟨P, by rw [s59_l1], by simp, hs⟩
 | y :: rest, k, P, hs => by
  rw [s59_l1]
  cases hf : decide (y.Kind = (⟨#[102, 108, 121]⟩ : ByteArray))
  ·obtain ⟨Q, q1, q2, q3⟩ := qfh rest (k + 1) P hs
   refine ⟨Q, ?_, ?_, q3⟩
   ·rw [Bool.not_false, cond_true, s59_j1, q1]
   ·rw [List.filter_cons, if_neg (by show ¬ s172 y = true; unfold s172; rw [hf]; decide)]; exact q2
  ·obtain ⟨C', D, h1, h2, h3, h4⟩ := qn1 (fun k_ z0_ => s59_l1 rest k_ z0_) k y P [] (((List.length P : Int) - 0).toNat + 1) (by simp) (fun c hc => by cases hc)
   simp only [List.nil_append] at h1 h4
   have h5 := qi6 (by rw [← h1]; exact hs) h2 h3
   obtain ⟨Q, q1, q2, q3⟩ := qfh rest (k + 1) _ h5
   refine ⟨Q, ?_, ?_, q3⟩
   ·rw [Bool.not_true, cond_false]
    have : s59_l2 (fun k_ z0_ => s59_l1 rest k_ z0_) P k y (((List.length P : Int) - 0).toNat + 1) 0 = s59_l1 rest (k + 1) (C' ++ s173 y :: D) := by simpa using h4
    rw [this, q1]
   ·rw [List.filter_cons, if_pos (by show s172 y = true; unfold s172; rw [hf]), List.map_cons]
    refine q2.trans ?_
    have g : (C' ++ s173 y :: D).Perm (s173 y :: P) := by
     rw [h1]; exact List.perm_middle
    exact (g.append_right _).trans List.perm_middle.symm
theorem qvh (l : List S104) : s59 l = some (flyL l) := by
 obtain ⟨Q, h1, h2, h3⟩ := qfh l 0 [] List.Pairwise.nil
 unfold s59
 rw [h1]
 congr 1
 refine xc (h2.trans (qny l).symm) h3 (qi5 l) fun x _ y _ h k => qst h k
end Go.Sim
namespace Go.Sim
theorem qkg (f : S104 → Bool) (l : List S104) : s206 l f = l.any f := by
 have key : ∀ (l : List S104) (k : Nat), decide (0 ≤ s242_l1 f l k) = l.any f := by
  intro l
  induction l with
  | nil => intro k; rfl
  | cons y l ih =>
   intro k
   rw [s242_l1, List.any_cons]
   cases h : f y
   ·rw [cond_false, ih]; simp
   ·rw [cond_true]; simp
 unfold s206 s242; exact key l 0
theorem qsx (a : S23) (s : S151) (l : List S104) : s177 a s l = s128 a s l := by
 unfold s177 s128
 rw [qkg]
 have key : ∀ (l : List S104) (k : Nat), l.any (fun x0 => s207 x0 s (IntKind.i64.wrap (Int.tdiv s.Moment 1440)) a) = s128_l1 a s l k := by
  intro l
  induction l with
  | nil => intro k; rfl
  | cons y l ih =>
   intro k
   rw [List.any_cons, s128_l1, ← ih (k + 1)]
   have : s207 y s (IntKind.i64.wrap (Int.tdiv s.Moment 1440)) a = (((decide (y.Kind = (⟨#[98, 97, 99, 107]⟩))) && (s179 y s)) && (decide (IntKind.i64.wrap (y.Told + a.Notice) ≤ IntKind.i64.wrap (Int.tdiv s.Moment 1440)))) := by
    unfold s207 s179 s208
    by_cases h : y.Kind = (⟨#[98, 97, 99, 107]⟩ : ByteArray)
    ·have h2 : ¬ (⟨#[98, 97, 99, 107]⟩ : ByteArray) = ⟨#[119, 101, 97, 116, 104, 101, 114]⟩ := by decide
     rw [h]
     simp [h2, Bool.and_assoc]
    ·simp [h]
   rw [this]
   cases (((decide (y.Kind = (⟨#[98, 97, 99, 107]⟩))) && (s179 y s)) && (decide (IntKind.i64.wrap (y.Told + a.Notice) ≤ IntKind.i64.wrap (Int.tdiv s.Moment 1440)))) <;> simp
 exact key l 0
theorem qlp (a : S23) (s : S151) (l : List S104) : s178 a s l = s129 a s l := by
 unfold s178 s129
 rw [qkg]
 have key : ∀ (l : List S104) (k : Nat), l.any (fun x0 => s209 x0 (IntKind.i64.wrap (Int.tdiv s.Moment 1440)) s a) = s129_l1 a s l k := by
  intro l
  induction l with
  | nil => intro k; rfl
  | cons y l ih =>
   intro k
   rw [List.any_cons, s129_l1, ← ih (k + 1)]
   have : s209 y (IntKind.i64.wrap (Int.tdiv s.Moment 1440)) s a = ((s179 y s) && ((decide (y.Kind = (⟨#[119, 101, 97, 116, 104, 101, 114]⟩))) || ((decide (y.Kind = (⟨#[99, 97, 110, 99, 101, 108]⟩))) && (s92 a.Causes y.Cause)))) := by
    unfold s209 s179 s208
    rw [qif]
    by_cases h : y.Kind = (⟨#[119, 101, 97, 116, 104, 101, 114]⟩ : ByteArray)
    ·simp [h]
    ·by_cases h2 : y.Name = s.Name
     ·simp [h, h2]
     ·simp [h, h2]
   rw [this]
   cases ((s179 y s) && ((decide (y.Kind = (⟨#[119, 101, 97, 116, 104, 101, 114]⟩))) || ((decide (y.Kind = (⟨#[99, 97, 110, 99, 101, 108]⟩))) && (s92 a.Causes y.Cause)))) <;> simp
 exact key l 0
def stW (c : Int) : ByteArray := (statL[c.toNat]?).getD ⟨#[]⟩
def isC (c : Int) : Prop := c = 0 ∨ c = 1 ∨ c = 2 ∨ c = 3
theorem qd7 (at_ : List Int) (n : Nat) (hat : ∀ p ∈ at_, p ∈ idxs n) : ∀ (l : List S154) (k k' : Nat) (cs : List Int), cs.length = n → (∀ c ∈ cs, isC c) → (∀ e ∈ l, e.Slot ∈ idxs at_.length) →
  ∃ r, s124_l2 at_ l k cs = some r ∧ s61_l2 at_ l k' (cs.map stW) = some (r.map stW) ∧ r.length = n ∧ ∀ c ∈ r, isC c
 | [], k, k', cs, hn, hc, _ => ⟨cs, rfl, rfl, hn, hc⟩
 | e :: l, k, k', cs, hn, hc, hl => by
  obtain ⟨p, hp, hp'⟩ := xp (hl e List.mem_cons_self)
  have hpn := hat p (List.mem_of_getElem? hp')
  obtain ⟨c, h1, _⟩ := xp (l := cs) (by rw [hn]; exact hpn)
  obtain ⟨w, h2, _⟩ := xp (l := cs.map stW) (by rw [List.length_map, hn]; exact hpn)
  rw [s124_l2, s61_l2, hp]
  simp only [bindO, h1, h2]
  have e1 : List.set (cs.map stW) p.toNat (⟨#[102, 108, 111, 119, 110]⟩) = (List.set cs p.toNat 1).map stW := by
   rw [List.map_set]; rfl
  rw [e1]
  refine qd7 at_ n hat l (k + 1) (k' + 1) _ (by rw [List.length_set]; exact hn) (fun c hc' => ?_) fun z hz => hl z (List.mem_cons_of_mem _ hz)
  rcases List.mem_or_eq_of_mem_set hc' with h | h
  ·exact hc c h
  ·exact .inr (.inl h)
theorem wm (a0 : S23) (a2 : List S104) (n : Nat) : ∀ (l : List S151) (k k' : Nat) (due : List S151) (at_ cs : List Int), k = cs.length → k + l.length = n → (∀ c ∈ cs, isC c) → due.length = at_.length → (∀ p ∈ at_, p ∈ idxs k) →
  ∃ r, s124_l1 a0 a2 l k due at_ (cs ++ List.replicate l.length 0) = some r ∧ s61_l1 a0 a2 l k due at_ (cs.map stW) = some (r.map stW) ∧ r.length = n ∧ ∀ c ∈ r, isC c
 | [], k, k', due, at_, cs, hk, hn, hc, hd, hp => by
  obtain ⟨M, h1, h2, _, h4, _⟩ := qpg a0 due (flyL a2)
  have hk0 : k = n := by simpa using hn
  obtain ⟨r, g1, g2, g3, g4⟩ := qd7 at_ n (by rw [← hk0]; exact hp) M 0 0 cs (by omega) hc (by rw [← hd]; exact h4)
  refine ⟨r, ?_, ?_, g3, g4⟩
  ·rw [s124_l1, qsv]
   simp only [bindO, h1]
   simpa using g1
  ·rw [s61_l1, qvh]
   simp only [bindO, h2]
   exact g2
 | y :: l, k, k', due, at_, cs, hk, hn, hc, hd, hp => by
  have hix : ∀ v : Int, List.set (cs ++ List.replicate (y :: l).length (0 : Int)) (Int.toNat ((k : Nat) : Int)) v = (cs ++ [v]) ++ List.replicate l.length 0 := fun v => by
   rw [List.length_cons, List.replicate_succ, w6 (by rw [hk]; simp)]
   simp
  have hi : ixO (cs ++ List.replicate (y :: l).length (0 : Int)) ((k : Nat) : Int) = some 0 := by
   rw [List.length_cons, List.replicate_succ]; exact vn (by rw [hk])
  have hn' : k + 1 + l.length = n := by simp at hn; omega
  have hcs : ∀ v, isC v → ∀ c ∈ cs ++ [v], isC c := fun v hv c h => by
   rcases List.mem_append.1 h with h | h
   ·exact hc c h
   ·rw [List.mem_singleton.1 h]; exact hv
  have hp1 : ∀ p ∈ at_, p ∈ idxs (k + 1) := fun p h => qan (hp p h)
  have hp2 : ∀ p ∈ at_ ++ [((k : Nat) : Int)], p ∈ idxs (k + 1) := fun p h => by
   rcases List.mem_append.1 h with h | h
   ·exact hp1 p h
   ·rw [List.mem_singleton.1 h]; exact wl k
  rw [s124_l1, s61_l1, qsx, qlp, hi]
  simp only [bindO, hix, s124_j1, s124_j2, s61_j1]
  cases s128 a0 y a2
  ·simp only [cond_false]
   cases s129 a0 y a2
   ·simp only [cond_false]
    have := wm a0 a2 n l (k + 1) (k' + 1) (due ++ [y]) (at_ ++ [((k : Nat) : Int)]) (cs ++ [3]) (by simp [hk]) hn' (hcs 3 (.inr (.inr (.inr rfl)))) (by simp [hd]) hp2
    simpa [stW, statL] using this
   ·simp only [cond_true]
    have := wm a0 a2 n l (k + 1) (k' + 1) (due ++ [y]) (at_ ++ [((k : Nat) : Int)]) (cs ++ [2]) (by simp [hk]) hn' (hcs 2 (.inr (.inr (.inl rfl)))) (by simp [hd]) hp2
    simpa [stW, statL] using this
  ·simp only [cond_true]
   have := wm a0 a2 n l (k + 1) (k' + 1) due at_ (cs ++ [0]) (by simp [hk]) hn' (hcs 0 (.inl rfl)) hd hp1
   simpa [stW, statL] using this
theorem qn2 (a0 : S23) (a1 : List S151) (a2 : List S104) : ∃ r, s124 a0 a1 a2 = some r ∧ s61 a0 a1 a2 = some (r.map stW) ∧ r.length = a1.length ∧ ∀ c ∈ r, isC c := by
 have := wm a0 a2 a1.length a1 0 0 [] [] [] rfl (by simp) (by simp) rfl (by simp)
 simpa [s124, s61] using this
end Go.Sim
namespace Go.Sim
end Go.Sim
set_option linter.unusedSimpArgs false
set_option linter.unusedVariables false
set_option maxRecDepth 10000
namespace Go.Sim
open Go.Proofs
def s44 (a0 : S23) (a1 : List S151) (a2 : List S151) : Option ((List S154) × Int) :=
 (bif decide ((s113 a0 a1 a2) ≠ 0) then some ([], (s113 a0 a1 a2)) else bindO (s115 a0 a1 a2) fun r1 => bindO (s114 r1) fun r2 => some (r2, 0))
def s45 (a0 : S23) (a1 : List S151) (a2 : List S151) : Option ((List Int) × Int) :=
 (bif decide ((s113 a0 a1 a2) ≠ 0) then some ([], (s113 a0 a1 a2)) else bindO (s115 a0 a1 a2) fun r1 => some ((s116 (List.length a1 : Int) (s117 r1 s118)), 0))
def s46 (a0 : S23) (a1 : List S151) (a2 : List S151) : Option ((List Int) × Int) :=
 (bif decide ((s113 a0 a1 a2) ≠ 0) then some ([], (s113 a0 a1 a2)) else bindO (s115 a0 a1 a2) fun r1 => some ((s116 (List.length a2 : Int) (s117 r1 s119)), 0))
def s47_j1 (rec1 : Nat → Int → Option (Bool × Int)) (a0 : S23) (k4 : Nat) (x9 : Int) : Option (Bool × Int) :=
 (bif decide (x9 = a0.Run) then some (true, 0) else rec1 (k4 + 1) x9)
def s47_l1 (a0 : S23) (a1 : List S151) (a2 : List S151) : List S154 → Nat → Int → Option (Bool × Int)
 | [], k4, x2 => some (false, 0)
 | y5 :: t6, k4, x2 => bindO (ixO a2 y5.Record) fun y7 => bindO (ixO a1 y5.Slot) fun y8 => (bif decide (a0.Off < max (IntKind.i64.wrap (y7.Moment - y8.Moment)) (IntKind.i64.wrap (0 - (IntKind.i64.wrap (y7.Moment - y8.Moment))))) then s47_j1 (fun k_ z0_ => s47_l1 a0 a1 a2 t6 k_ z0_) a0 k4 (IntKind.i64.wrap (x2 + 1)) else s47_j1 (fun k_ z0_ => s47_l1 a0 a1 a2 t6 k_ z0_) a0 k4 0)
def s47 (a0 : S23) (a1 : List S151) (a2 : List S151) : Option (Bool × Int) :=
 (bif decide ((s113 a0 a1 a2) ≠ 0) then some (false, (s113 a0 a1 a2)) else bindO (s115 a0 a1 a2) fun r1 => s47_l1 a0 a1 a2 r1 0 0)
end Go.Sim
namespace Go.Sim
end Go.Sim
set_option linter.unusedSimpArgs false
set_option linter.unusedVariables false
set_option maxRecDepth 10000
namespace Go.Sim
open Go.Proofs
def s52_j1 (rec2 : Nat → (List S154) → Option (List S154)) (k9 : Nat) (x12 : List S154) : Option (List S154) :=
 rec2 (k9 + 1) x12
def s52_l2 (rec1 : Nat → (List S154) → Option (List S154)) (k4 : Nat) : List S154 → Nat → (List S154) → Option (List S154)
 | [], k9, x7 => rec1 (k4 + 1) x7
 | y10 :: t11, k9, x7 => (bif decide (y10.Slot = ((k4 : Nat) : Int)) then s52_j1 (fun k_ z0_ => s52_l2 rec1 k4 t11 k_ z0_) k9 (x7 ++ [y10]) else s52_j1 (fun k_ z0_ => s52_l2 rec1 k4 t11 k_ z0_) k9 x7)
def s52_l1 (r1 : List S154) : List S151 → Nat → (List S154) → Option (List S154)
 | [], k4, x2 => some x2
 | y5 :: t6, k4, x2 => s52_l2 (fun k_ z0_ => s52_l1 r1 t6 k_ z0_) k4 r1 0 x2
def s52 (a0 : S23) (a1 : List S151) (a2 : List S151) : Option (List S154) :=
 bindO (s120 a0 a1 a2) fun r1 => s52_l1 r1 a1 0 []
def s53_j1 (rec1 : Nat → (List Int) → Option (List Int)) (k4 : Nat) (x7 : List Int) : Option (List Int) :=
 rec1 (k4 + 1) x7
def s53_l2 (rec1 : Nat → (List Int) → Option (List Int)) (x2 : List Int) (k4 : Nat) : List S154 → Nat → Bool → Option (List Int)
 | [], k10, x8 => (bif !x8 then s53_j1 rec1 k4 (x2 ++ [((k4 : Nat) : Int)]) else s53_j1 rec1 k4 x2)
 | y11 :: t12, k10, x8 => s53_l2 rec1 x2 k4 t12 (k10 + 1) (x8 || (decide (y11.Slot = ((k4 : Nat) : Int))))
def s53_l1 (r1 : List S154) : List S151 → Nat → (List Int) → Option (List Int)
 | [], k4, x2 => some x2
 | y5 :: t6, k4, x2 => s53_l2 (fun k_ z0_ => s53_l1 r1 t6 k_ z0_) x2 k4 r1 0 false
def s53 (a0 : S23) (a1 : List S151) (a2 : List S151) : Option (List Int) :=
 bindO (s120 a0 a1 a2) fun r1 => s53_l1 r1 a1 0 []
def s54_j1 (rec1 : Nat → (List Int) → Option (List Int)) (k4 : Nat) (x7 : List Int) : Option (List Int) :=
 rec1 (k4 + 1) x7
def s54_l2 (rec1 : Nat → (List Int) → Option (List Int)) (x2 : List Int) (k4 : Nat) : List S154 → Nat → Bool → Option (List Int)
 | [], k10, x8 => (bif !x8 then s54_j1 rec1 k4 (x2 ++ [((k4 : Nat) : Int)]) else s54_j1 rec1 k4 x2)
 | y11 :: t12, k10, x8 => s54_l2 rec1 x2 k4 t12 (k10 + 1) (x8 || (decide (y11.Record = ((k4 : Nat) : Int))))
def s54_l1 (r1 : List S154) : List S151 → Nat → (List Int) → Option (List Int)
 | [], k4, x2 => some x2
 | y5 :: t6, k4, x2 => s54_l2 (fun k_ z0_ => s54_l1 r1 t6 k_ z0_) x2 k4 r1 0 false
def s54 (a0 : S23) (a1 : List S151) (a2 : List S151) : Option (List Int) :=
 bindO (s120 a0 a1 a2) fun r1 => s54_l1 r1 a2 0 []
def s55_j1 (rec1 : Nat → Int → Option Bool) (a0 : S23) (k4 : Nat) (x9 : Int) : Option Bool :=
 (bif decide (a0.Run ≤ x9) then some true else rec1 (k4 + 1) x9)
def s55_l1 (a0 : S23) (a1 : List S151) (a2 : List S151) : List S154 → Nat → Int → Option Bool
 | [], k4, x2 => some false
 | y5 :: t6, k4, x2 => bindO (ixO a2 y5.Record) fun y7 => bindO (ixO a1 y5.Slot) fun y8 => (bif decide (a0.Off < max (IntKind.i64.wrap (y7.Moment - y8.Moment)) (IntKind.i64.wrap (0 - (IntKind.i64.wrap (y7.Moment - y8.Moment))))) then s55_j1 (fun k_ z0_ => s55_l1 a0 a1 a2 t6 k_ z0_) a0 k4 (IntKind.i64.wrap (x2 + 1)) else s55_j1 (fun k_ z0_ => s55_l1 a0 a1 a2 t6 k_ z0_) a0 k4 0)
def s55 (a0 : S23) (a1 : List S151) (a2 : List S151) : Option Bool :=
 bindO (s120 a0 a1 a2) fun r1 => s55_l1 a0 a1 a2 r1 0 0
end Go.Sim
set_option linter.unusedSimpArgs false
set_option linter.unusedVariables false
set_option maxRecDepth 10000
namespace Go.Sim
open Go.Proofs
noncomputable def s8 (a0 : S23) (a1 : List S151) (a2 : List S151) : Option Bool :=
 (bif (((!s16) || (!(s17 (s18 a0)))) || (!(s19 (s20 a1) 8))) || (!(s19 (s20 a2) 8)) then some s16 else bindO (s44 a0 a1 a2) fun r1 => bindO (s45 a0 a1 a2) fun r2 => bindO (s46 a0 a1 a2) fun r3 => bindO (s47 a0 a1 a2) fun r4 => (bif decide ((s48 a0 a1 a2) ≠ 0) then bindO (bif (decide ((List.length r1.1 : Int) = 0)) && (decide (r1.2 = (s48 a0 a1 a2))) then s49 r2.1 r2.2 (s48 a0 a1 a2) [] else some default) fun r5 => bindO (bif ((decide ((List.length r1.1 : Int) = 0)) && (decide (r1.2 = (s48 a0 a1 a2)))) && r5 then s49 r3.1 r3.2 (s48 a0 a1 a2) [] else some default) fun r6 => some ((((((decide ((List.length r1.1 : Int) = 0)) && (decide (r1.2 = (s48 a0 a1 a2)))) && r5) && r6) && (!r4.1)) && (decide (r4.2 = (s48 a0 a1 a2)))) else bindO (bif decide (r1.2 = 0) then s52 (s18 a0) (s20 a1) (s20 a2) else some default) fun r7 => bindO (bif decide (r1.2 = 0) then s50 (s51 r1.1) r7 else some default) fun r8 => bindO (bif (decide (r1.2 = 0)) && r8 then s53 (s18 a0) (s20 a1) (s20 a2) else some default) fun r9 => bindO (bif (decide (r1.2 = 0)) && r8 then s49 r2.1 r2.2 0 r9 else some default) fun r10 => bindO (bif ((decide (r1.2 = 0)) && r8) && r10 then s54 (s18 a0) (s20 a1) (s20 a2) else some default) fun r11 => bindO (bif ((decide (r1.2 = 0)) && r8) && r10 then s49 r3.1 r3.2 0 r11 else some default) fun r12 => bindO (bif ((((decide (r1.2 = 0)) && r8) && r10) && r12) && (decide (r4.2 = 0)) then s55 (s18 a0) (s20 a1) (s20 a2) else some default) fun r13 => some ((((((decide (r1.2 = 0)) && r8) && r10) && r12) && (decide (r4.2 = 0))) && (r4.1 == r13))))
end Go.Sim
namespace Go.Sim
end Go.Sim
namespace Go.Sim
section
variable {P : Int → Int → Bool} {ov : List Int}
end
section
variable {C : Type} {A B : Int} {su sv : Int → Int} {cu cv : Int → C} {P : Int → Int → Bool} {ou ov : List Int}
structure Win (A B : Int) (su sv : Int → Int) (cu cv : Int → C) (P : Int → Int → Bool) (ou ov : List Int) : Prop where
 p : ∀ i ∈ ou, ∀ k ∈ ov, P i k = true ↔ cu i = cv k ∧ su i - B ≤ sv k ∧ sv k ≤ su i + A
 u : ou.Pairwise (fun i j => su i ≤ su j)
 un : ou.Nodup
 v : ov.Pairwise (fun i j => sv i ≤ sv j)
end
end Go.Sim
namespace Go.Sim
end Go.Sim
namespace Go.Sim
def base (g x : S151 → Bool) (s : S151) : Int := bif g s then 0 else bif x s then 2 else 3
end Go.Sim
namespace Go.Sim
end Go.Sim
