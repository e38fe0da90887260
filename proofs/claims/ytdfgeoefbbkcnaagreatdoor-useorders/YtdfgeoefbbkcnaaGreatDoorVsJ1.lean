/-
  What is proved: the states of the slots written out; the order of the records, and one record more.
-/
import Derived.Test.YtdfgeoefbbkcnaaGreatDoorVsF7
import Derived.Test.YtdfgeoefbbkcnaaGreatDoorVsF2
import Derived.Test.YtdfgeoefbbkcnaaGreatDoorVaA9
import Derived.Test.YtdfgeoefbbkcnaaGreatDoorVaA4
set_option linter.unusedSectionVars false
set_option linter.unusedSimpArgs false
set_option linter.unusedVariables false
set_option linter.unnecessarySimpa false
set_option linter.deprecated false
namespace Go.Sim
/-! ## the order of strings, and of movements -/
theorem bl_irr : ∀ x : List UInt8, Op.bytesLess x x = false
  | [] => rfl
  | a :: x => by simp [Op.bytesLess, bl_irr x]
theorem bl_tr : ∀ x y z : List UInt8, Op.bytesLess x y = true → Op.bytesLess y z = true → Op.bytesLess x z = true
  | _, _, [], _, h => by cases ‹List UInt8› <;> simp [Op.bytesLess] at h
  | _, [], _ :: _, h, _ => by cases ‹List UInt8› <;> simp [Op.bytesLess] at h
  | [], _ :: _, _ :: _, _, _ => rfl
  | a :: x, b :: y, c :: z, h, k => by
    simp only [Op.bytesLess, Bool.or_eq_true, decide_eq_true_eq, Bool.and_eq_true, beq_iff_eq] at h k ⊢
    rcases h with h | ⟨rfl, h⟩
    · rcases k with k | ⟨rfl, k⟩
      · exact .inl (UInt8.lt_trans h k)
      · exact .inl h
    · rcases k with k | ⟨rfl, k⟩
      · exact .inl k
      · exact .inr ⟨rfl, bl_tr x y z h k⟩
theorem bl_tri : ∀ x y : List UInt8, Op.bytesLess x y = false → Op.bytesLess y x = false → x = y
  | [], [], _, _ => rfl
  | [], _ :: _, h, _ => by simp [Op.bytesLess] at h
  | _ :: _, [], _, h => by simp [Op.bytesLess] at h
  | a :: x, b :: y, h, k => by
    simp only [Op.bytesLess, Bool.or_eq_false_iff, decide_eq_false_iff_not, Bool.and_eq_false_iff, beq_eq_false_iff_ne] at h k
    have e : a = b := UInt8.le_antisymm (UInt8.not_lt.1 k.1) (UInt8.not_lt.1 h.1)
    subst e
    rw [bl_tri x y (h.2.resolve_left fun g => g rfl) (k.2.resolve_left fun g => g rfl)]
theorem sl_irr (a : ByteArray) : strLt a a = false := bl_irr _
theorem sl_tr {a b c : ByteArray} (h : strLt a b = true) (k : strLt b c = true) : strLt a c = true := bl_tr _ _ _ h k
theorem sl_tri {a b : ByteArray} (h : strLt a b = false) (k : strLt b a = false) : a = b := by
  have := bl_tri _ _ h k
  have e := toList_inj (s := a) (s' := b)
  rw [this] at e
  simpa using e.symm
theorem sl_as {a b : ByteArray} (h : strLt a b = true) (k : strLt b a = true) : False := by
  have := sl_tr h k
  rw [sl_irr] at this; cases this

theorem s127_iff (a b : S151) : s127 a b = true ↔ a.Moment < b.Moment ∨ (a.Moment = b.Moment ∧ (strLt a.Name b.Name = true ∨ (a.Name = b.Name ∧ (strLt a.Kind b.Kind = true ∨ a.Kind = b.Kind)))) := by
  unfold s127
  by_cases h : a.Moment = b.Moment
  · rw [decide_eq_false (by simpa using h), cond_false]
    by_cases g : a.Name = b.Name
    · simp [h, g, sl_irr]
    · simp [h, g]
  · rw [decide_eq_true h, cond_true]
    simp [h]
theorem s127_tot {a b : S151} (h : s127 a b = false) : s127 b a = true := by
  have h' : ¬ s127 a b = true := by rw [h]; decide
  rw [s127_iff] at h' ⊢
  by_cases hm : a.Moment = b.Moment
  · by_cases hn : a.Name = b.Name
    · by_cases hk : a.Kind = b.Kind
      · exact .inr ⟨hm.symm, .inr ⟨hn.symm, .inr hk.symm⟩⟩
      · refine .inr ⟨hm.symm, .inr ⟨hn.symm, .inl ?_⟩⟩
        cases h1 : strLt b.Kind a.Kind
        · cases h2 : strLt a.Kind b.Kind
          · exact absurd (sl_tri h2 h1) hk
          · exact absurd (.inr ⟨hm, .inr ⟨hn, .inl h2⟩⟩) h'
        · rfl
    · refine .inr ⟨hm.symm, .inl ?_⟩
      cases h1 : strLt b.Name a.Name
      · cases h2 : strLt a.Name b.Name
        · exact absurd (sl_tri h2 h1) hn
        · exact absurd (.inr ⟨hm, .inl h2⟩) h'
      · rfl
  · left
    have : ¬ a.Moment < b.Moment := fun g => h' (.inl g)
    omega
theorem s127_tr (a b c : S151) (h : s127 a b = true) (k : s127 b c = true) : s127 a c = true := by
  rw [s127_iff] at h k ⊢
  rcases h with h | ⟨h, h2⟩
  · rcases k with k | ⟨k, _⟩
    · left; omega
    · left; omega
  · rcases k with k | ⟨k, k2⟩
    · left; omega
    · refine .inr ⟨h.trans k, ?_⟩
      rcases h2 with h2 | ⟨h2, h3⟩
      · rcases k2 with k2 | ⟨k2, _⟩
        · exact .inl (sl_tr h2 k2)
        · exact .inl (k2 ▸ h2)
      · rcases k2 with k2 | ⟨k2, k3⟩
        · exact .inl (h2 ▸ k2)
        · refine .inr ⟨h2.trans k2, ?_⟩
          rcases h3 with h3 | h3
          · rcases k3 with k3 | k3
            · exact .inl (sl_tr h3 k3)
            · exact .inl (k3 ▸ h3)
          · rcases k3 with k3 | k3
            · exact .inl (h3 ▸ k3)
            · exact .inr (h3.trans k3)
theorem s127_as {a b : S151} (h : s127 a b = true) (k : s127 b a = true) : a = b := by
  rw [s127_iff] at h k
  have hm : a.Moment = b.Moment := by omega
  have h := (h.resolve_left (by omega)).2
  have k := (k.resolve_left (by omega)).2
  have hn : a.Name = b.Name := by
    rcases h with h | h
    · rcases k with k | k
      · exact (sl_as h k).elim
      · exact k.1.symm
    · exact h.1
  have hk : a.Kind = b.Kind := by
    rcases h with h | ⟨_, h | h⟩
    · rw [hn, sl_irr] at h; cases h
    · rcases k with k | ⟨_, k | k⟩
      · rw [hn, sl_irr] at k; cases k
      · exact (sl_as h k).elim
      · exact k.symm
    · exact h
  cases a; cases b
  simp only at hm hn hk
  subst hm hn hk
  rfl
theorem s133_eq (a b : ByteArray) : s133 a b = bif strLt a b then -1 else bif decide (a = b) then 0 else 1 := by
  have h : ∀ x, s183 x = false := fun x => by unfold s183; simp
  unfold s133
  rw [h, h]
  cases h1 : strLt a b
  · by_cases h2 : a = b <;> simp [h2]
  · rfl
theorem s175_lt (a b : S151) : decide (s175 a b < 0) = !(s127 b a) := by
  have h0 : ∀ x, s202 x = false := fun x => by unfold s202; simp
  have hm : s167 a.Moment b.Moment = bif decide (a.Moment < b.Moment) then -1 else bif decide (b.Moment < a.Moment) then 1 else 0 := by
    unfold s167
    rw [h0, h0]
    simp
  unfold s175 s176
  rw [hm, s133_eq, s133_eq]
  by_cases hlt : a.Moment < b.Moment
  · have : s127 b a = false := by
      cases hc : s127 b a
      · rfl
      · rw [s127_iff] at hc; omega
    rw [this]
    simp [s176_l1, hlt]
  · by_cases hgt : b.Moment < a.Moment
    · have : s127 b a = true := by rw [s127_iff]; exact .inl hgt
      rw [this]
      simp [s176_l1, hlt, hgt]
    · have he : b.Moment = a.Moment := by omega
      simp only [decide_eq_false hlt, decide_eq_false hgt, cond_false]
      cases h1 : strLt a.Name b.Name
      · by_cases hn : a.Name = b.Name
        · cases h2 : strLt a.Kind b.Kind
          · have : s127 b a = true := by
              rw [s127_iff]
              refine .inr ⟨he, .inr ⟨hn.symm, ?_⟩⟩
              cases h3 : strLt b.Kind a.Kind
              · exact .inr (sl_tri h3 h2)
              · exact .inl rfl
            rw [this]
            by_cases hk : a.Kind = b.Kind <;> simp [s176_l1, hn, hk]
          · have : s127 b a = false := by
              cases hc : s127 b a
              · rfl
              · rw [s127_iff] at hc
                have hc := (hc.resolve_left (by omega)).2
                rcases hc with hc | ⟨_, hc | hc⟩
                · rw [hn, sl_irr] at hc; cases hc
                · exact (sl_as h2 hc).elim
                · rw [hc, sl_irr] at h2; cases h2
            rw [this]
            simp [s176_l1, hn]
        · have : s127 b a = true := by
            rw [s127_iff]
            refine .inr ⟨he, .inl ?_⟩
            cases h3 : strLt b.Name a.Name
            · exact absurd (sl_tri h1 h3) hn
            · rfl
          rw [this]
          simp [s176_l1, hn]
      · have : s127 b a = false := by
          cases hc : s127 b a
          · rfl
          · rw [s127_iff] at hc
            have hc := (hc.resolve_left (by omega)).2
            rcases hc with hc | ⟨hc, _⟩
            · exact (sl_as h1 hc).elim
            · rw [hc, sl_irr] at h1; cases h1
        rw [this]
        simp [s176_l1]

/-! ## the actual movements -/
def flyL (l : List S104) : List S151 := isort (fun a b => !(s127 b a)) ((l.filter s172).map s173)
theorem flyL_perm (l : List S104) : (flyL l).Perm ((l.filter s172).map s173) := isort_perm _ _
theorem flyL_sorted (l : List S104) : (flyL l).Pairwise (fun a b => s127 a b = true) := by
  refine isort_sorted s127_tr ?_
  refine List.pairwise_of_forall fun y x => ?_
  refine ⟨fun h => s127_tot (by simpa using h), fun h => by simpa using h⟩
theorem s121_ok (l : List S104) : s121 l = some (flyL l) := by
  unfold s121
  rw [s171_eq, s170_eq, s174_ok (lt := fun a b => !(s127 b a)) (fun y _ x _ => ⟨_, rfl, s175_lt x y⟩)]
  rfl
theorem s59_ins (rec1 : Nat → List S151 → Option (List S151)) (k3 : Nat) (y : S104) : ∀ (B C : List S151) (k : Nat), B.length < k → (∀ c ∈ C, s127 c (s173 y) = true) →
    ∃ C' D, C ++ B = C' ++ D ∧ (∀ c ∈ C', s127 c (s173 y) = true) ∧ (∀ d D', D = d :: D' → s127 d (s173 y) = false) ∧ s59_l2 rec1 (C ++ B) k3 y k (C.length : Int) = rec1 (k3 + 1) (C' ++ s173 y :: D)
  | [], C, 0, h, _ => by simp at h
  | [], C, k + 1, _, hC => by
    refine ⟨C, [], rfl, hC, (fun d D' h => by cases h), ?_⟩
    rw [s59_l2]
    have e : decide ((C.length : Int) < ((C ++ ([] : List S151)).length : Int)) = false := by simp
    simp only [e, cond_false, bindO, Bool.false_and, s59_j1]
    simp [s173]
  | b :: B, C, 0, h, _ => by simp at h
  | b :: B, C, k + 1, h, hC => by
    have e : decide ((C.length : Int) < ((C ++ b :: B).length : Int)) = true := by simp; omega
    rw [s59_l2]
    simp only [e, cond_true, ixO_app, bindO, Bool.true_and, s59_j1]
    show ∃ C' D, C ++ b :: B = C' ++ D ∧ (∀ c ∈ C', s127 c (s173 y) = true) ∧ (∀ d D', D = d :: D' → s127 d (s173 y) = false) ∧ (bif s127 b (s173 y) then s59_l2 rec1 (C ++ b :: B) k3 y k ((C.length : Int) + 1) else rec1 (k3 + 1) ((([] ++ List.take (Int.toNat (C.length : Int)) (C ++ b :: B)) ++ [s173 y]) ++ List.drop (Int.toNat (C.length : Int)) (C ++ b :: B))) = rec1 (k3 + 1) (C' ++ s173 y :: D)
    cases hm : s127 b (s173 y)
    · refine ⟨C, b :: B, rfl, hC, ?_, ?_⟩
      · intro d D' h; cases h; exact hm
      · rw [cond_false]
        simp
    · obtain ⟨C', D, h1, h2, h3, h4⟩ := s59_ins rec1 k3 y B (C ++ [b]) k (by simp at h; omega) (fun c hc => by
        rcases List.mem_append.1 hc with hc | hc
        · exact hC c hc
        · rw [List.mem_singleton.1 hc]; exact hm)
      refine ⟨C', D, by rw [← h1]; simp, h2, h3, ?_⟩
      rw [cond_true, ← h4]
      simp
theorem ins_sorted9 {C D : List S151} {y : S151} (hs : (C ++ D).Pairwise (fun a b => s127 a b = true)) (hC : ∀ c ∈ C, s127 c y = true) (hD : ∀ d D', D = d :: D' → s127 d y = false) :
    (C ++ y :: D).Pairwise (fun a b => s127 a b = true) := by
  obtain ⟨h1, h2, h3⟩ := List.pairwise_append.1 hs
  refine List.pairwise_append.2 ⟨h1, List.pairwise_cons.2 ⟨fun d hd => ?_, h2⟩, fun c hc z hz => ?_⟩
  · cases D with
    | nil => cases hd
    | cons d0 D' =>
      have h4 := s127_tot (hD d0 D' rfl)
      rcases List.mem_cons.1 hd with rfl | hd
      · exact h4
      · exact s127_tr _ _ _ h4 ((List.pairwise_cons.1 h2).1 d hd)
  · rcases List.mem_cons.1 hz with rfl | hz
    · exact hC c hc
    · exact h3 c hc z hz
theorem s59_loop : ∀ (rest : List S104) (k : Nat) (P : List S151), P.Pairwise (fun a b => s127 a b = true) → ∃ Q, s59_l1 rest k P = some Q ∧ Q.Perm (P ++ (rest.filter s172).map s173) ∧ Q.Pairwise (fun a b => s127 a b = true)
  | [], k, P, hs => ⟨P, by rw [s59_l1], by simp, hs⟩
  | y :: rest, k, P, hs => by
    rw [s59_l1]
    cases hf : decide (y.Kind = (⟨#[102, 108, 121]⟩ : ByteArray))
    · obtain ⟨Q, q1, q2, q3⟩ := s59_loop rest (k + 1) P hs
      refine ⟨Q, ?_, ?_, q3⟩
      · rw [Bool.not_false, cond_true, s59_j1, q1]
      · rw [List.filter_cons, if_neg (by show ¬ s172 y = true; unfold s172; rw [hf]; decide)]; exact q2
    · obtain ⟨C', D, h1, h2, h3, h4⟩ := s59_ins (fun k_ z0_ => s59_l1 rest k_ z0_) k y P [] (((List.length P : Int) - 0).toNat + 1) (by simp) (fun c hc => by cases hc)
      simp only [List.nil_append] at h1 h4
      have h5 := ins_sorted9 (by rw [← h1]; exact hs) h2 h3
      obtain ⟨Q, q1, q2, q3⟩ := s59_loop rest (k + 1) _ h5
      refine ⟨Q, ?_, ?_, q3⟩
      · rw [Bool.not_true, cond_false]
        have : s59_l2 (fun k_ z0_ => s59_l1 rest k_ z0_) P k y (((List.length P : Int) - 0).toNat + 1) 0 = s59_l1 rest (k + 1) (C' ++ s173 y :: D) := by simpa using h4
        rw [this, q1]
      · rw [List.filter_cons, if_pos (by show s172 y = true; unfold s172; rw [hf]), List.map_cons]
        refine q2.trans ?_
        have g : (C' ++ s173 y :: D).Perm (s173 y :: P) := by
          rw [h1]; exact List.perm_middle
        exact (g.append_right _).trans List.perm_middle.symm
theorem s59_ok (l : List S104) : s59 l = some (flyL l) := by
  obtain ⟨Q, h1, h2, h3⟩ := s59_loop l 0 [] List.Pairwise.nil
  unfold s59
  rw [h1]
  congr 1
  refine sorted_unique (h2.trans (flyL_perm l).symm) h3 (flyL_sorted l) fun x _ y _ h k => s127_as h k
end Go.Sim

namespace Go.Sim
/-! ## UseStatus: the law -/
theorem s242_any (f : S104 → Bool) (l : List S104) : s206 l f = l.any f := by
  have key : ∀ (l : List S104) (k : Nat), decide (0 ≤ s242_l1 f l k) = l.any f := by
    intro l
    induction l with
    | nil => intro k; rfl
    | cons y l ih =>
      intro k
      rw [s242_l1, List.any_cons]
      cases h : f y
      · rw [cond_false, ih]; simp
      · rw [cond_true]; simp
  unfold s206 s242; exact key l 0
theorem gone_eq (a : S23) (s : S151) (l : List S104) : s177 a s l = s128 a s l := by
  unfold s177 s128
  rw [s242_any]
  have key : ∀ (l : List S104) (k : Nat), l.any (fun x0 => s207 x0 s (IntKind.i64.wrap (Int.tdiv s.Moment 1440)) a) = s128_l1 a s l k := by
    intro l
    induction l with
    | nil => intro k; rfl
    | cons y l ih =>
      intro k
      rw [List.any_cons, s128_l1, ← ih (k + 1)]
      have : s207 y s (IntKind.i64.wrap (Int.tdiv s.Moment 1440)) a = (((decide (y.Kind = (⟨#[98, 97, 99, 107]⟩))) && (s179 y s)) && (decide (IntKind.i64.wrap (y.Told + a.Notice) ≤ IntKind.i64.wrap (Int.tdiv s.Moment 1440)))) := by
        unfold s207 s179 s208
        by_cases h : y.Kind = (⟨#[98, 97, 99, 107]⟩ : ByteArray)
        · have h2 : ¬ (⟨#[98, 97, 99, 107]⟩ : ByteArray) = ⟨#[119, 101, 97, 116, 104, 101, 114]⟩ := by decide
          rw [h]
          simp [h2, Bool.and_assoc]
        · simp [h]
      rw [this]
      cases (((decide (y.Kind = (⟨#[98, 97, 99, 107]⟩))) && (s179 y s)) && (decide (IntKind.i64.wrap (y.Told + a.Notice) ≤ IntKind.i64.wrap (Int.tdiv s.Moment 1440)))) <;> simp
  exact key l 0
theorem excused_eq (a : S23) (s : S151) (l : List S104) : s178 a s l = s129 a s l := by
  unfold s178 s129
  rw [s242_any]
  have key : ∀ (l : List S104) (k : Nat), l.any (fun x0 => s209 x0 (IntKind.i64.wrap (Int.tdiv s.Moment 1440)) s a) = s129_l1 a s l k := by
    intro l
    induction l with
    | nil => intro k; rfl
    | cons y l ih =>
      intro k
      rw [List.any_cons, s129_l1, ← ih (k + 1)]
      have : s209 y (IntKind.i64.wrap (Int.tdiv s.Moment 1440)) s a = ((s179 y s) && ((decide (y.Kind = (⟨#[119, 101, 97, 116, 104, 101, 114]⟩))) || ((decide (y.Kind = (⟨#[99, 97, 110, 99, 101, 108]⟩))) && (s92 a.Causes y.Cause)))) := by
        unfold s209 s179 s208
        rw [s88_s92]
        by_cases h : y.Kind = (⟨#[119, 101, 97, 116, 104, 101, 114]⟩ : ByteArray)
        · simp [h]
        · by_cases h2 : y.Name = s.Name
          · simp [h, h2]
          · simp [h, h2]
      rw [this]
      cases ((s179 y s) && ((decide (y.Kind = (⟨#[119, 101, 97, 116, 104, 101, 114]⟩))) || ((decide (y.Kind = (⟨#[99, 97, 110, 99, 101, 108]⟩))) && (s92 a.Causes y.Cause)))) <;> simp
  exact key l 0

/-- the words of the states -/
def stW (c : Int) : ByteArray := (statL[c.toNat]?).getD ⟨#[]⟩
def isC (c : Int) : Prop := c = 0 ∨ c = 1 ∨ c = 2 ∨ c = 3
theorem s125_ok {c : Int} (h : isC c) : s125 c = some (stW c) := by
  rcases h with rfl | rfl | rfl | rfl <;> rfl
theorem s123_ok (l : List Int) (h : ∀ c ∈ l, isC c) : s123 l s125 = some (l.map stW) := by
  have key : ∀ (l : List Int) (k : Nat) (x : List ByteArray), (∀ c ∈ l, isC c) → s123_l1 s125 l k x = some (x ++ l.map stW) := by
    intro l
    induction l with
    | nil => intro k x _; simp [s123_l1]
    | cons y l ih =>
      intro k x h
      rw [s123_l1, s125_ok (h y List.mem_cons_self)]
      simp only [bindO]
      rw [ih _ _ fun c hc => h c (List.mem_cons_of_mem _ hc)]
      simp
  unfold s123; rw [key l 0 [] h]; rfl
/-- the flown ones -/
theorem flown_loop (at_ : List Int) (n : Nat) (hat : ∀ p ∈ at_, p ∈ idxs n) : ∀ (l : List S154) (k k' : Nat) (cs : List Int), cs.length = n → (∀ c ∈ cs, isC c) → (∀ e ∈ l, e.Slot ∈ idxs at_.length) →
    ∃ r, s124_l2 at_ l k cs = some r ∧ s61_l2 at_ l k' (cs.map stW) = some (r.map stW) ∧ r.length = n ∧ ∀ c ∈ r, isC c
  | [], k, k', cs, hn, hc, _ => ⟨cs, rfl, rfl, hn, hc⟩
  | e :: l, k, k', cs, hn, hc, hl => by
    obtain ⟨p, hp, hp'⟩ := ixO_idx (hl e List.mem_cons_self)
    have hpn := hat p (List.mem_of_getElem? hp')
    obtain ⟨c, h1, _⟩ := ixO_idx (l := cs) (by rw [hn]; exact hpn)
    obtain ⟨w, h2, _⟩ := ixO_idx (l := cs.map stW) (by rw [List.length_map, hn]; exact hpn)
    rw [s124_l2, s61_l2, hp]
    simp only [bindO, h1, h2]
    have e1 : List.set (cs.map stW) p.toNat (⟨#[102, 108, 111, 119, 110]⟩) = (List.set cs p.toNat 1).map stW := by
      rw [List.map_set]; rfl
    rw [e1]
    refine flown_loop at_ n hat l (k + 1) (k' + 1) _ (by rw [List.length_set]; exact hn) (fun c hc' => ?_) fun z hz => hl z (List.mem_cons_of_mem _ hz)
    rcases List.mem_or_eq_of_mem_set hc' with h | h
    · exact hc c h
    · exact .inr (.inl h)
theorem status_loop (a0 : S23) (a2 : List S104) (n : Nat) : ∀ (l : List S151) (k k' : Nat) (due : List S151) (at_ cs : List Int), k = cs.length → k + l.length = n → (∀ c ∈ cs, isC c) → due.length = at_.length → (∀ p ∈ at_, p ∈ idxs k) →
    ∃ r, s124_l1 a0 a2 l k due at_ (cs ++ List.replicate l.length 0) = some r ∧ s61_l1 a0 a2 l k due at_ (cs.map stW) = some (r.map stW) ∧ r.length = n ∧ ∀ c ∈ r, isC c
  | [], k, k', due, at_, cs, hk, hn, hc, hd, hp => by
    obtain ⟨M, h1, h2, _, h4, _⟩ := match_ok a0 due (flyL a2)
    have hk0 : k = n := by simpa using hn
    obtain ⟨r, g1, g2, g3, g4⟩ := flown_loop at_ n (by rw [← hk0]; exact hp) M 0 0 cs (by omega) hc (by rw [← hd]; exact h4)
    refine ⟨r, ?_, ?_, g3, g4⟩
    · rw [s124_l1, s121_ok]
      simp only [bindO, h1]
      simpa using g1
    · rw [s61_l1, s59_ok]
      simp only [bindO, h2]
      exact g2
  | y :: l, k, k', due, at_, cs, hk, hn, hc, hd, hp => by
    have hix : ∀ v : Int, List.set (cs ++ List.replicate (y :: l).length (0 : Int)) (Int.toNat ((k : Nat) : Int)) v = (cs ++ [v]) ++ List.replicate l.length 0 := fun v => by
      rw [List.length_cons, List.replicate_succ, set_app (by rw [hk]; simp)]
      simp
    have hi : ixO (cs ++ List.replicate (y :: l).length (0 : Int)) ((k : Nat) : Int) = some 0 := by
      rw [List.length_cons, List.replicate_succ]; exact ixO_app' (by rw [hk])
    have hn' : k + 1 + l.length = n := by simp at hn; omega
    have hcs : ∀ v, isC v → ∀ c ∈ cs ++ [v], isC c := fun v hv c h => by
      rcases List.mem_append.1 h with h | h
      · exact hc c h
      · rw [List.mem_singleton.1 h]; exact hv
    have hp1 : ∀ p ∈ at_, p ∈ idxs (k + 1) := fun p h => idxs_mem_up (hp p h)
    have hp2 : ∀ p ∈ at_ ++ [((k : Nat) : Int)], p ∈ idxs (k + 1) := fun p h => by
      rcases List.mem_append.1 h with h | h
      · exact hp1 p h
      · rw [List.mem_singleton.1 h]; exact idxs_mem_last k
    rw [s124_l1, s61_l1, gone_eq, excused_eq, hi]
    simp only [bindO, hix, s124_j1, s124_j2, s61_j1]
    cases s128 a0 y a2
    · simp only [cond_false]
      cases s129 a0 y a2
      · simp only [cond_false]
        have := status_loop a0 a2 n l (k + 1) (k' + 1) (due ++ [y]) (at_ ++ [((k : Nat) : Int)]) (cs ++ [3]) (by simp [hk]) hn' (hcs 3 (.inr (.inr (.inr rfl)))) (by simp [hd]) hp2
        simpa [stW, statL] using this
      · simp only [cond_true]
        have := status_loop a0 a2 n l (k + 1) (k' + 1) (due ++ [y]) (at_ ++ [((k : Nat) : Int)]) (cs ++ [2]) (by simp [hk]) hn' (hcs 2 (.inr (.inr (.inl rfl)))) (by simp [hd]) hp2
        simpa [stW, statL] using this
    · simp only [cond_true]
      have := status_loop a0 a2 n l (k + 1) (k' + 1) due at_ (cs ++ [0]) (by simp [hk]) hn' (hcs 0 (.inl rfl)) hd hp1
      simpa [stW, statL] using this
theorem status_ok (a0 : S23) (a1 : List S151) (a2 : List S104) : ∃ r, s124 a0 a1 a2 = some r ∧ s61 a0 a1 a2 = some (r.map stW) ∧ r.length = a1.length ∧ ∀ c ∈ r, isC c := by
  have := status_loop a0 a2 a1.length a1 0 0 [] [] [] rfl (by simp) (by simp) rfl (by simp)
  simpa [s124, s61] using this
theorem s60_self (l : List ByteArray) : s60 l l = some true := by
  have key : ∀ (r : List ByteArray) (k : Nat), l.drop k = r → s60_l1 l r k = some true := by
    intro r
    induction r with
    | nil => intro k _; rfl
    | cons y r ih =>
      intro k hd
      have hy : l[k]? = some y := by
        have : (l.drop k)[0]? = some y := by rw [hd]; rfl
        simpa using this
      rw [s60_l1, ixO_nat hy]
      simp only [bindO]
      simp only [decide_true, Bool.not_true, cond_false]
      refine ih (k + 1) ?_
      have : l.drop (k + 1) = (l.drop k).drop 1 := by rw [List.drop_drop]
      rw [this, hd]; rfl
  unfold s60
  rw [decide_eq_false (by simp), cond_false]
  exact key l 0 rfl
end Go.Sim

namespace Go.Sim
end Go.Sim

set_option linter.unusedSimpArgs false
set_option linter.unusedVariables false
set_option maxRecDepth 10000
namespace Go.Sim
open Go.Proofs


/-- use.Matches -/
def s44 (a0 : S23) (a1 : List S151) (a2 : List S151) : Option ((List S154) × Int) :=
 (bif decide ((s113 a0 a1 a2) ≠ 0) then some ([], (s113 a0 a1 a2)) else bindO (s115 a0 a1 a2) fun r1 => bindO (s114 r1) fun r2 => some (r2, 0))
/-- use.Missed -/
def s45 (a0 : S23) (a1 : List S151) (a2 : List S151) : Option ((List Int) × Int) :=
 (bif decide ((s113 a0 a1 a2) ≠ 0) then some ([], (s113 a0 a1 a2)) else bindO (s115 a0 a1 a2) fun r1 => some ((s116 (List.length a1 : Int) (s117 r1 s118)), 0))
/-- use.Extra -/
def s46 (a0 : S23) (a1 : List S151) (a2 : List S151) : Option ((List Int) × Int) :=
 (bif decide ((s113 a0 a1 a2) ≠ 0) then some ([], (s113 a0 a1 a2)) else bindO (s115 a0 a1 a2) fun r1 => some ((s116 (List.length a2 : Int) (s117 r1 s119)), 0))
/-- use.Misused -/
def s47_j1 (rec1 : Nat → Int → Option (Bool × Int)) (a0 : S23) (k4 : Nat) (x9 : Int) : Option (Bool × Int) :=
 (bif decide (x9 = a0.Run) then some (true, 0) else rec1 (k4 + 1) x9)
def s47_l1 (a0 : S23) (a1 : List S151) (a2 : List S151) : List S154 → Nat → Int → Option (Bool × Int)
 | [], k4, x2 => some (false, 0)
 | y5 :: t6, k4, x2 => bindO (ixO a2 y5.Record) fun y7 => bindO (ixO a1 y5.Slot) fun y8 => (bif decide (a0.Off < max (IntKind.i64.wrap (y7.Moment - y8.Moment)) (IntKind.i64.wrap (0 - (IntKind.i64.wrap (y7.Moment - y8.Moment))))) then s47_j1 (fun k_ z0_ => s47_l1 a0 a1 a2 t6 k_ z0_) a0 k4 (IntKind.i64.wrap (x2 + 1)) else s47_j1 (fun k_ z0_ => s47_l1 a0 a1 a2 t6 k_ z0_) a0 k4 0)
def s47 (a0 : S23) (a1 : List S151) (a2 : List S151) : Option (Bool × Int) :=
 (bif decide ((s113 a0 a1 a2) ≠ 0) then some (false, (s113 a0 a1 a2)) else bindO (s115 a0 a1 a2) fun r1 => s47_l1 a0 a1 a2 r1 0 0)
end Go.Sim

namespace Go.Sim
end Go.Sim

set_option linter.unusedSimpArgs false
set_option linter.unusedVariables false
set_option maxRecDepth 10000
namespace Go.Sim
open Go.Proofs


/-- turnroundref09.Matches -/
def s52_j1 (rec2 : Nat → (List S154) → Option (List S154)) (k9 : Nat) (x12 : List S154) : Option (List S154) :=
 rec2 (k9 + 1) x12
def s52_l2 (rec1 : Nat → (List S154) → Option (List S154)) (k4 : Nat) : List S154 → Nat → (List S154) → Option (List S154)
 | [], k9, x7 => rec1 (k4 + 1) x7
 | y10 :: t11, k9, x7 => (bif decide (y10.Slot = ((k4 : Nat) : Int)) then s52_j1 (fun k_ z0_ => s52_l2 rec1 k4 t11 k_ z0_) k9 (x7 ++ [y10]) else s52_j1 (fun k_ z0_ => s52_l2 rec1 k4 t11 k_ z0_) k9 x7)
def s52_l1 (r1 : List S154) : List S151 → Nat → (List S154) → Option (List S154)
 | [], k4, x2 => some x2
 | y5 :: t6, k4, x2 => s52_l2 (fun k_ z0_ => s52_l1 r1 t6 k_ z0_) k4 r1 0 x2
def s52 (a0 : S23) (a1 : List S151) (a2 : List S151) : Option (List S154) :=
 bindO (s120 a0 a1 a2) fun r1 => s52_l1 r1 a1 0 []
/-- turnroundref09.Missed -/
def s53_j1 (rec1 : Nat → (List Int) → Option (List Int)) (k4 : Nat) (x7 : List Int) : Option (List Int) :=
 rec1 (k4 + 1) x7
def s53_l2 (rec1 : Nat → (List Int) → Option (List Int)) (x2 : List Int) (k4 : Nat) : List S154 → Nat → Bool → Option (List Int)
 | [], k10, x8 => (bif !x8 then s53_j1 rec1 k4 (x2 ++ [((k4 : Nat) : Int)]) else s53_j1 rec1 k4 x2)
 | y11 :: t12, k10, x8 => s53_l2 rec1 x2 k4 t12 (k10 + 1) (x8 || (decide (y11.Slot = ((k4 : Nat) : Int))))
def s53_l1 (r1 : List S154) : List S151 → Nat → (List Int) → Option (List Int)
 | [], k4, x2 => some x2
 | y5 :: t6, k4, x2 => s53_l2 (fun k_ z0_ => s53_l1 r1 t6 k_ z0_) x2 k4 r1 0 false
def s53 (a0 : S23) (a1 : List S151) (a2 : List S151) : Option (List Int) :=
 bindO (s120 a0 a1 a2) fun r1 => s53_l1 r1 a1 0 []
/-- turnroundref09.Extra -/
def s54_j1 (rec1 : Nat → (List Int) → Option (List Int)) (k4 : Nat) (x7 : List Int) : Option (List Int) :=
 rec1 (k4 + 1) x7
def s54_l2 (rec1 : Nat → (List Int) → Option (List Int)) (x2 : List Int) (k4 : Nat) : List S154 → Nat → Bool → Option (List Int)
 | [], k10, x8 => (bif !x8 then s54_j1 rec1 k4 (x2 ++ [((k4 : Nat) : Int)]) else s54_j1 rec1 k4 x2)
 | y11 :: t12, k10, x8 => s54_l2 rec1 x2 k4 t12 (k10 + 1) (x8 || (decide (y11.Record = ((k4 : Nat) : Int))))
def s54_l1 (r1 : List S154) : List S151 → Nat → (List Int) → Option (List Int)
 | [], k4, x2 => some x2
 | y5 :: t6, k4, x2 => s54_l2 (fun k_ z0_ => s54_l1 r1 t6 k_ z0_) x2 k4 r1 0 false
def s54 (a0 : S23) (a1 : List S151) (a2 : List S151) : Option (List Int) :=
 bindO (s120 a0 a1 a2) fun r1 => s54_l1 r1 a2 0 []
/-- turnroundref09.Misused -/
def s55_j1 (rec1 : Nat → Int → Option Bool) (a0 : S23) (k4 : Nat) (x9 : Int) : Option Bool :=
 (bif decide (a0.Run ≤ x9) then some true else rec1 (k4 + 1) x9)
def s55_l1 (a0 : S23) (a1 : List S151) (a2 : List S151) : List S154 → Nat → Int → Option Bool
 | [], k4, x2 => some false
 | y5 :: t6, k4, x2 => bindO (ixO a2 y5.Record) fun y7 => bindO (ixO a1 y5.Slot) fun y8 => (bif decide (a0.Off < max (IntKind.i64.wrap (y7.Moment - y8.Moment)) (IntKind.i64.wrap (0 - (IntKind.i64.wrap (y7.Moment - y8.Moment))))) then s55_j1 (fun k_ z0_ => s55_l1 a0 a1 a2 t6 k_ z0_) a0 k4 (IntKind.i64.wrap (x2 + 1)) else s55_j1 (fun k_ z0_ => s55_l1 a0 a1 a2 t6 k_ z0_) a0 k4 0)
def s55 (a0 : S23) (a1 : List S151) (a2 : List S151) : Option Bool :=
 bindO (s120 a0 a1 a2) fun r1 => s55_l1 a0 a1 a2 r1 0 0
end Go.Sim

set_option linter.unusedSimpArgs false
set_option linter.unusedVariables false
set_option maxRecDepth 10000
namespace Go.Sim
open Go.Proofs


/-- turnroundlaw09.UseMatches -/
noncomputable def s8 (a0 : S23) (a1 : List S151) (a2 : List S151) : Option Bool :=
 (bif (((!s16) || (!(s17 (s18 a0)))) || (!(s19 (s20 a1) 8))) || (!(s19 (s20 a2) 8)) then some s16 else bindO (s44 a0 a1 a2) fun r1 => bindO (s45 a0 a1 a2) fun r2 => bindO (s46 a0 a1 a2) fun r3 => bindO (s47 a0 a1 a2) fun r4 => (bif decide ((s48 a0 a1 a2) ≠ 0) then bindO (bif (decide ((List.length r1.1 : Int) = 0)) && (decide (r1.2 = (s48 a0 a1 a2))) then s49 r2.1 r2.2 (s48 a0 a1 a2) [] else some default) fun r5 => bindO (bif ((decide ((List.length r1.1 : Int) = 0)) && (decide (r1.2 = (s48 a0 a1 a2)))) && r5 then s49 r3.1 r3.2 (s48 a0 a1 a2) [] else some default) fun r6 => some ((((((decide ((List.length r1.1 : Int) = 0)) && (decide (r1.2 = (s48 a0 a1 a2)))) && r5) && r6) && (!r4.1)) && (decide (r4.2 = (s48 a0 a1 a2)))) else bindO (bif decide (r1.2 = 0) then s52 (s18 a0) (s20 a1) (s20 a2) else some default) fun r7 => bindO (bif decide (r1.2 = 0) then s50 (s51 r1.1) r7 else some default) fun r8 => bindO (bif (decide (r1.2 = 0)) && r8 then s53 (s18 a0) (s20 a1) (s20 a2) else some default) fun r9 => bindO (bif (decide (r1.2 = 0)) && r8 then s49 r2.1 r2.2 0 r9 else some default) fun r10 => bindO (bif ((decide (r1.2 = 0)) && r8) && r10 then s54 (s18 a0) (s20 a1) (s20 a2) else some default) fun r11 => bindO (bif ((decide (r1.2 = 0)) && r8) && r10 then s49 r3.1 r3.2 0 r11 else some default) fun r12 => bindO (bif ((((decide (r1.2 = 0)) && r8) && r10) && r12) && (decide (r4.2 = 0)) then s55 (s18 a0) (s20 a1) (s20 a2) else some default) fun r13 => some ((((((decide (r1.2 = 0)) && r8) && r10) && r12) && (decide (r4.2 = 0))) && (r4.1 == r13))))
end Go.Sim

namespace Go.Sim
end Go.Sim

namespace Go.Sim
/-! ## the matching that takes the first free record, in plain words -/
/-- slots in turn, records in order, what is taken -/
def gm (P : Int → Int → Bool) (ov : List Int) : List Int → List Int → List S154
  | [], _ => []
  | i :: r, T => match ov.find? (fun j => !decide (j ∈ T) && P i j) with
    | some j => ⟨i, j⟩ :: gm P ov r (j :: T)
    | none => gm P ov r T

section
variable {P : Int → Int → Bool} {ov : List Int}
theorem gm_slots : ∀ (a : List Int) (T : List Int), ((gm P ov a T).map S154.Slot).Sublist a
  | [], _ => by simp [gm]
  | i :: a, T => by
    rw [gm]
    cases ov.find? (fun j => !decide (j ∈ T) && P i j) with
    | none => exact (gm_slots a T).cons _
    | some j => exact (gm_slots a (j :: T)).cons_cons _
end

/-! ### windows of one length: no cover is smaller than the matching -/
section
variable {C : Type} {A B : Int} {su sv : Int → Int} {cu cv : Int → C} {P : Int → Int → Bool} {ou ov : List Int}
structure Win (A B : Int) (su sv : Int → Int) (cu cv : Int → C) (P : Int → Int → Bool) (ou ov : List Int) : Prop where
  p : ∀ i ∈ ou, ∀ k ∈ ov, P i k = true ↔ cu i = cv k ∧ su i - B ≤ sv k ∧ sv k ≤ su i + A
  u : ou.Pairwise (fun i j => su i ≤ su j)
  un : ou.Nodup
  v : ov.Pairwise (fun i j => sv i ≤ sv j)

end

end Go.Sim

namespace Go.Sim
/-! ## one record more lessens no matching -/
/-- the slots that are answered, over the free records themselves -/
def gfv {α : Type} (Q : Int → α → Bool) : List Int → List α → List Int
  | [], _ => []
  | i :: r, F => bif F.any (Q i) then i :: gfv Q r (F.eraseP (Q i)) else gfv Q r F
theorem eraseP_any {α : Type} {p : α → Bool} : ∀ {l : List α}, l.any p = true → ∃ a x b, l = a ++ x :: b ∧ l.eraseP p = a ++ b
  | [], h => by simp at h
  | y :: l, h => by
    by_cases hy : p y = true
    · exact ⟨[], y, l, rfl, by simp [List.eraseP_cons, hy]⟩
    · have hy' : p y = false := by simpa using hy
      rw [List.any_cons, hy', Bool.false_or] at h
      obtain ⟨a, x, b, h1, h2⟩ := eraseP_any h
      exact ⟨y :: a, x, b, by rw [h1]; rfl, by rw [List.eraseP_cons, hy', cond_false, h2]; rfl⟩
theorem gfv_mono {α : Type} {Q : Int → α → Bool} : ∀ (r : List Int) (A B : List α) (y : α), ∀ i ∈ gfv Q r (A ++ B), i ∈ gfv Q r (A ++ y :: B)
  | [], _, _, _, i, h => h
  | s :: r, A, B, y, i, h => by
    rw [gfv] at h ⊢
    rw [List.any_append] at h ⊢
    rw [List.any_cons]
    cases hA : A.any (Q s)
    · have hAe : ∀ x ∈ A, Q s x = false := fun x hx => by
        rw [List.any_eq_false] at hA; simpa using hA x hx
      rw [hA] at h
      simp only [Bool.false_or] at h ⊢
      have hap : ∀ L : List α, (A ++ L).eraseP (Q s) = A ++ L.eraseP (Q s) := fun L => List.eraseP_append_right _ (by intro b hb; simp [hAe b hb])
      rw [hap] at h
      rw [hap, List.eraseP_cons]
      cases hy : Q s y
      · simp only [Bool.false_or, cond_false]
        cases hB : B.any (Q s)
        · rw [hB] at h; exact gfv_mono r A B y i h
        · rw [hB] at h
          simp only [cond_true] at h ⊢
          rcases List.mem_cons.1 h with rfl | h
          · exact List.mem_cons_self
          · exact List.mem_cons_of_mem _ (gfv_mono r A _ y i h)
      · simp only [Bool.true_or, cond_true]
        cases hB : B.any (Q s)
        · rw [hB] at h; exact List.mem_cons_of_mem _ h
        · rw [hB] at h
          simp only [cond_true] at h
          rcases List.mem_cons.1 h with rfl | h
          · exact List.mem_cons_self
          · refine List.mem_cons_of_mem _ ?_
            obtain ⟨b1, z, b2, e1, e2⟩ := eraseP_any hB
            rw [e2, ← List.append_assoc] at h
            rw [e1, ← List.append_assoc]
            exact gfv_mono r (A ++ b1) b2 z i h
    · rw [hA] at h
      simp only [Bool.true_or, cond_true] at h ⊢
      have hap : ∀ L : List α, (A ++ L).eraseP (Q s) = A.eraseP (Q s) ++ L := fun L => by
        rw [List.eraseP_append, hA, if_pos rfl]
      rw [hap] at h
      rw [hap]
      rcases List.mem_cons.1 h with rfl | h
      · exact List.mem_cons_self
      · exact List.mem_cons_of_mem _ (gfv_mono r _ B y i h)

theorem find_erase {P : Int → Bool} : ∀ {F : List Int} {j : Int}, F.Nodup → F.find? P = some j → F.eraseP P = F.filter (fun x => !decide (x = j))
  | [], j, _, h => by simp at h
  | x :: F, j, hn, h => by
    rw [List.find?_cons] at h
    obtain ⟨h1, h2⟩ := List.nodup_cons.1 hn
    cases hx : P x
    · rw [hx] at h
      have hne : x ≠ j := by
        intro e
        have := List.find?_some h
        rw [← e, hx] at this; cases this
      rw [List.eraseP_cons, hx, cond_false, List.filter_cons, if_pos (by simpa using hne), find_erase h2 h]
    · rw [hx] at h
      cases h
      rw [List.eraseP_cons, hx, cond_true, List.filter_cons, if_neg (by simp)]
      exact (List.filter_eq_self.2 fun y hy => by
        have : y ≠ x := fun e => h1 (e ▸ hy)
        simpa using this).symm
/-- the matching, over what is free -/
theorem gm_gfv {α : Type} {P : Int → Int → Bool} {Q : Int → α → Bool} {val : Int → α} {ov : List Int} (hn : ov.Nodup) : ∀ (r : List Int) (T : List Int), (∀ i ∈ r, ∀ k ∈ ov, P i k = Q i (val k)) → (gm P ov r T).map S154.Slot = gfv Q r ((ov.filter (fun j => !decide (j ∈ T))).map val)
  | [], _, _ => rfl
  | i :: r, T, hp => by
    have hp' : ∀ i ∈ r, ∀ k ∈ ov, P i k = Q i (val k) := fun i hi => hp i (List.mem_cons_of_mem _ hi)
    have hF : (ov.filter (fun j => !decide (j ∈ T))).find? (P i) = ov.find? (fun j => !decide (j ∈ T) && P i j) := by
      rw [List.find?_filter]
      congr 1
      funext j
      cases decide (j ∈ T) <;> cases P i j <;> rfl
    have hany : ((ov.filter (fun j => !decide (j ∈ T))).map val).any (Q i) = (ov.find? (fun j => !decide (j ∈ T) && P i j)).isSome := by
      rw [← hF, List.any_map, Bool.eq_iff_iff, List.any_eq_true, List.find?_isSome]
      constructor
      · rintro ⟨x, h1, h2⟩; exact ⟨x, h1, by rw [hp i List.mem_cons_self x (List.mem_filter.1 h1).1]; exact h2⟩
      · rintro ⟨x, h1, h2⟩; exact ⟨x, h1, by rw [hp i List.mem_cons_self x (List.mem_filter.1 h1).1] at h2; exact h2⟩
    rw [gm, gfv, hany]
    cases hf : ov.find? (fun j => !decide (j ∈ T) && P i j) with
    | none => exact gm_gfv hn r T hp'
    | some j =>
      simp only [Option.isSome_some, cond_true, List.map_cons]
      congr 1
      rw [gm_gfv hn r (j :: T) hp', List.eraseP_map]
      congr 2
      have hco : ∀ (F : List Int), (∀ x ∈ F, P i x = Q i (val x)) → F.eraseP (Q i ∘ val) = F.eraseP (P i) := by
        intro F hF'
        induction F with
        | nil => rfl
        | cons x F ih =>
          rw [List.eraseP_cons, List.eraseP_cons, ih fun y hy => hF' y (List.mem_cons_of_mem _ hy), hF' x List.mem_cons_self]
          rfl
      rw [hco _ (fun x hx => hp i List.mem_cons_self x (List.mem_filter.1 hx).1), find_erase (hn.sublist List.filter_sublist) (hF.trans hf), List.filter_filter]
      congr 1
      funext x
      by_cases h1 : x = j <;> by_cases h2 : x ∈ T <;> simp [h1, h2]
end Go.Sim

namespace Go.Sim
/-! ## the states of the slots, written out -/
theorem match_gm (a0 : S23) (u v : List S151) : ∀ (rest : List Int) (k : Nat) (x : List S154) (m : List (Int × Bool)) (T : List Int), (∀ i ∈ rest, i ∈ idxs u.length) → (∀ j, mgetD m j false = decide (j ∈ T)) →
    s115_l1 a0 u v (ordI v) rest k x m = some (x ++ gm (okI a0 u v) (ordI v) rest T)
  | [], k, x, m, T, _, _ => by simp [s115_l1, gm]
  | i :: rest, k, x, m, T, hr, hm => by
    have hr' : ∀ j ∈ rest, j ∈ idxs u.length := fun j hj => hr j (List.mem_cons_of_mem _ hj)
    rw [s115_l1, s115_find (fun k_ z0_ z1_ => s115_l1 a0 u v (ordI v) rest k_ z0_ z1_) a0 u v x m k i (hr i List.mem_cons_self) (ordI v) 0 (fun j hj => ordI_mem.1 hj), gm]
    have hfun : (fun j => !(mgetD m j false) && okI a0 u v i j) = fun j => !decide (j ∈ T) && okI a0 u v i j := funext fun j => by rw [hm]
    rw [hfun]
    cases (ordI v).find? (fun j => !decide (j ∈ T) && okI a0 u v i j) with
    | none => exact match_gm a0 u v rest (k + 1) x m T hr' hm
    | some j =>
      simp only
      rw [match_gm a0 u v rest (k + 1) _ _ (j :: T) hr' fun z => by
        rw [mgetD_mset, hm]
        by_cases hz : j = z
        · subst hz; simp
        · have : ¬ z = j := fun e => hz e.symm
          simp [hz, this]]
      simp
def mat (a0 : S23) (u v : List S151) : List S154 := gm (okI a0 u v) (ordI v) (ordI u) []
theorem s115_eq (a0 : S23) (u v : List S151) : s115 a0 u v = some (mat a0 u v) := by
  unfold s115 mat
  rw [s168_ok, s168_ok]
  simp only [bindO]
  rw [match_gm a0 u v (ordI u) 0 [] [] [] (fun i hi => ordI_mem.1 hi) (fun j => by simp [mgetD, mget])]
  rfl
theorem mat_slot {a0 : S23} {u v : List S151} {e : S154} (h : e ∈ mat a0 u v) : e.Slot ∈ idxs u.length :=
  ordI_mem.1 ((gm_slots (P := okI a0 u v) (ov := ordI v) (ordI u) []).subset (List.mem_map_of_mem h))
/-- the places of those that are due -/
def atF (g : S151 → Bool) : List S151 → Nat → List Int
  | [], _ => []
  | s :: l, k => bif g s then atF g l (k + 1) else (k : Int) :: atF g l (k + 1)
def base (g x : S151 → Bool) (s : S151) : Int := bif g s then 0 else bif x s then 2 else 3
/-- the flown ones are written in -/
def setF (at_ : List Int) (M : List S154) (cs : List Int) : List Int := M.foldl (fun cs e => match at_[e.Slot.toNat]? with | some p => cs.set p.toNat 1 | none => cs) cs
def stF (a0 : S23) (g x : S151 → Bool) (v a1 : List S151) : List Int := setF (atF g a1 0) (mat a0 (a1.filter (fun s => !g s)) v) (a1.map (base g x))
theorem atF_mem {g : S151 → Bool} : ∀ {l : List S151} {k : Nat} {p : Int}, p ∈ atF g l k → (k : Int) ≤ p ∧ p < ((k + l.length : Nat) : Int) ∧ ∃ s, l[p.toNat - k]? = some s ∧ g s = false
  | [], _, _, h => by cases h
  | s :: l, k, p, h => by
    have tl : p ∈ atF g l (k + 1) → (k : Int) ≤ p ∧ p < ((k + (s :: l).length : Nat) : Int) ∧ ∃ s', (s :: l)[p.toNat - k]? = some s' ∧ g s' = false := fun h => by
      obtain ⟨h1, h2, s', h3, h4⟩ := atF_mem h
      refine ⟨by omega, by simp; omega, s', ?_, h4⟩
      have : p.toNat - k = (p.toNat - (k + 1)) + 1 := by omega
      rw [this]; simpa using h3
    rw [atF] at h
    cases hg : g s
    · rw [hg, cond_false] at h
      rcases List.mem_cons.1 h with rfl | h
      · exact ⟨by omega, by simp; omega, s, by simp, hg⟩
      · exact tl h
    · rw [hg, cond_true] at h; exact tl h
theorem flown_set (at_ : List Int) (n : Nat) (hat : ∀ p ∈ at_, p ∈ idxs n) : ∀ (l : List S154) (k : Nat) (cs : List Int), cs.length = n → (∀ e ∈ l, e.Slot ∈ idxs at_.length) → s124_l2 at_ l k cs = some (setF at_ l cs)
  | [], k, cs, hn, _ => rfl
  | e :: l, k, cs, hn, hl => by
    obtain ⟨p, hp, hp'⟩ := ixO_idx (hl e List.mem_cons_self)
    have hpn := hat p (List.mem_of_getElem? hp')
    obtain ⟨c, h1, _⟩ := ixO_idx (l := cs) (by rw [hn]; exact hpn)
    rw [s124_l2, hp]
    simp only [bindO, h1]
    rw [flown_set at_ n hat l (k + 1) _ (by rw [List.length_set]; exact hn) fun z hz => hl z (List.mem_cons_of_mem _ hz)]
    unfold setF
    rw [List.foldl_cons, hp']
theorem status_set (a0 : S23) (a2 : List S104) (n : Nat) : ∀ (l : List S151) (k : Nat) (due : List S151) (at_ cs : List Int), k = cs.length → k + l.length = n → due.length = at_.length → (∀ p ∈ at_, p ∈ idxs k) →
    s124_l1 a0 a2 l k due at_ (cs ++ List.replicate l.length 0) = some (setF (at_ ++ atF (fun s => s128 a0 s a2) l k) (mat a0 (due ++ l.filter (fun s => !s128 a0 s a2)) (flyL a2)) (cs ++ l.map (base (fun s => s128 a0 s a2) (fun s => s129 a0 s a2))))
  | [], k, due, at_, cs, hk, hn, hd, hp => by
    have hk0 : k = n := by simpa using hn
    rw [s124_l1, s121_ok]
    simp only [bindO, s115_eq, atF, List.filter_nil, List.append_nil, List.map_nil]
    have := flown_set at_ n (by rw [← hk0]; exact hp) (mat a0 due (flyL a2)) 0 cs (by omega) fun e he => by rw [← hd]; exact mat_slot he
    simpa using this
  | y :: l, k, due, at_, cs, hk, hn, hd, hp => by
    have hix : ∀ v : Int, List.set (cs ++ List.replicate (y :: l).length (0 : Int)) (Int.toNat ((k : Nat) : Int)) v = (cs ++ [v]) ++ List.replicate l.length 0 := fun v => by
      rw [List.length_cons, List.replicate_succ, set_app (by rw [hk]; simp)]
      simp
    have hi : ixO (cs ++ List.replicate (y :: l).length (0 : Int)) ((k : Nat) : Int) = some 0 := by
      rw [List.length_cons, List.replicate_succ]; exact ixO_app' (by rw [hk])
    have hn' : k + 1 + l.length = n := by simp at hn; omega
    have hp1 : ∀ p ∈ at_, p ∈ idxs (k + 1) := fun p h => idxs_mem_up (hp p h)
    have hp2 : ∀ p ∈ at_ ++ [((k : Nat) : Int)], p ∈ idxs (k + 1) := fun p h => by
      rcases List.mem_append.1 h with h | h
      · exact hp1 p h
      · rw [List.mem_singleton.1 h]; exact idxs_mem_last k
    rw [s124_l1, gone_eq, excused_eq, hi]
    simp only [bindO, hix, s124_j1, s124_j2]
    rw [atF, List.filter_cons, List.map_cons]
    have hb : base (fun s => s128 a0 s a2) (fun s => s129 a0 s a2) y = bif s128 a0 y a2 then 0 else bif s129 a0 y a2 then 2 else 3 := rfl
    rw [hb]
    cases s128 a0 y a2
    · simp only [cond_false]
      cases s129 a0 y a2
      · simp only [cond_false]
        rw [status_set a0 a2 n l (k + 1) (due ++ [y]) (at_ ++ [((k : Nat) : Int)]) (cs ++ [3]) (by simp [hk]) hn' (by simp [hd]) hp2]
        simp
      · simp only [cond_true]
        rw [status_set a0 a2 n l (k + 1) (due ++ [y]) (at_ ++ [((k : Nat) : Int)]) (cs ++ [2]) (by simp [hk]) hn' (by simp [hd]) hp2]
        simp
    · simp only [cond_true]
      rw [status_set a0 a2 n l (k + 1) due at_ (cs ++ [0]) (by simp [hk]) hn' hd hp1]
      simp
theorem s124_eq (a0 : S23) (a1 : List S151) (a2 : List S104) : s124 a0 a1 a2 = some (stF a0 (fun s => s128 a0 s a2) (fun s => s129 a0 s a2) (flyL a2) a1) := by
  have := status_set a0 a2 a1.length a1 0 [] [] [] rfl (by simp) rfl (by simp)
  simpa [s124, stF] using this

/-- where the flown ones are -/
def flownI (at_ : List Int) (M : List S154) : List Nat := M.filterMap (fun e => (at_[e.Slot.toNat]?).map Int.toNat)
theorem setF_len (at_ : List Int) : ∀ (M : List S154) (cs : List Int), (setF at_ M cs).length = cs.length
  | [], _ => rfl
  | e :: M, cs => by
    unfold setF
    rw [List.foldl_cons]
    have := setF_len at_ M (match at_[e.Slot.toNat]? with | some p => cs.set p.toNat 1 | none => cs)
    unfold setF at this
    rw [this]
    cases at_[e.Slot.toNat]? <;> simp
theorem setF_get (at_ : List Int) : ∀ (M : List S154) (cs : List Int) (i : Nat) (c : Int), cs[i]? = some c → (setF at_ M cs)[i]? = some (if i ∈ flownI at_ M then 1 else c)
  | [], cs, i, c, h => by simpa [setF, flownI] using h
  | e :: M, cs, i, c, h => by
    have hs : setF at_ (e :: M) cs = setF at_ M (match at_[e.Slot.toNat]? with | some p => cs.set p.toNat 1 | none => cs) := rfl
    rw [hs]
    cases hp : at_[e.Slot.toNat]? with
    | none =>
      simp only
      rw [setF_get at_ M cs i c h]
      simp [flownI, hp]
    | some p =>
      simp only
      have hlt := (List.getElem?_eq_some_iff.1 h).1
      by_cases hi : p.toNat = i
      · subst hi
        rw [setF_get at_ M _ p.toNat 1 (by simp [hlt])]
        simp [flownI, hp]
      · rw [setF_get at_ M _ i c (by rw [List.getElem?_set_ne hi]; exact h)]
        have : ¬ i = p.toNat := fun e => hi e.symm
        simp [flownI, hp, this]
theorem stF_len (a0 : S23) (g x : S151 → Bool) (v a1 : List S151) : (stF a0 g x v a1).length = a1.length := by unfold stF; rw [setF_len, List.length_map]
theorem stF_get {a0 : S23} {g x : S151 → Bool} {v a1 : List S151} {i : Nat} {s : S151} (h : a1[i]? = some s) :
    (stF a0 g x v a1)[i]? = some (if i ∈ flownI (atF g a1 0) (mat a0 (a1.filter (fun s => !g s)) v) then 1 else base g x s) := by
  unfold stF
  exact setF_get _ _ _ _ _ (by rw [List.getElem?_map, h]; rfl)
theorem flownI_due {a0 : S23} {g : S151 → Bool} {v a1 : List S151} {i : Nat} {M : List S154} (h : i ∈ flownI (atF g a1 0) M) : ∃ s, a1[i]? = some s ∧ g s = false := by
  obtain ⟨e, he, h1⟩ := List.mem_filterMap.1 h
  cases hp : (atF g a1 0)[e.Slot.toNat]? with
  | none => rw [hp] at h1; cases h1
  | some p =>
    rw [hp] at h1
    simp only [Option.map_some, Option.some.injEq] at h1
    obtain ⟨_, _, s, h3, h4⟩ := atF_mem (List.mem_of_getElem? hp)
    exact ⟨s, by rw [← h1]; simpa using h3, h4⟩
end Go.Sim

namespace Go.Sim
/-! ## the order of the records, and one record more -/
theorem s128_any (a0 : S23) (s : S151) (l : List S104) : s128 a0 s l = l.any (fun x => s207 x s (IntKind.i64.wrap (Int.tdiv s.Moment 1440)) a0) := by
  rw [← gone_eq]; unfold s177; rw [s242_any]
theorem s129_any (a0 : S23) (s : S151) (l : List S104) : s129 a0 s l = l.any (fun x => s209 x (IntKind.i64.wrap (Int.tdiv s.Moment 1440)) s a0) := by
  rw [← excused_eq]; unfold s178; rw [s242_any]
theorem any_perm {α : Type} {a b : List α} (h : a.Perm b) (p : α → Bool) : a.any p = b.any p := by
  rw [Bool.eq_iff_iff, List.any_eq_true, List.any_eq_true]
  exact ⟨fun ⟨x, h1, h2⟩ => ⟨x, h.mem_iff.1 h1, h2⟩, fun ⟨x, h1, h2⟩ => ⟨x, h.mem_iff.2 h1, h2⟩⟩
theorem flyL_eq {a b : List S104} (h : a.Perm b) : flyL a = flyL b :=
  sorted_unique ((flyL_perm a).trans (((h.filter _).map _).trans (flyL_perm b).symm)) (flyL_sorted a) (flyL_sorted b) fun x _ y _ h k => s127_as h k
theorem s124_perm (a0 : S23) (a1 : List S151) {a b : List S104} (h : a.Perm b) : s124 a0 a1 a = s124 a0 a1 b := by
  rw [s124_eq, s124_eq, flyL_eq h]
  have e1 : (fun s => s128 a0 s a) = fun s => s128 a0 s b := funext fun s => by rw [s128_any, s128_any, any_perm h]
  have e2 : (fun s => s129 a0 s a) = fun s => s129 a0 s b := funext fun s => by rw [s129_any, s129_any, any_perm h]
  rw [e1, e2]

theorem s127_mom {a b : S151} (h : s127 a b = true) : a.Moment ≤ b.Moment := by
  rw [s127_iff] at h; omega
theorem ordI_idxs {v : List S151} (h : v.Pairwise (fun a b => s127 a b = true)) : ordI v = idxs v.length := by
  refine (ordI_unique (List.Perm.refl _) ?_).symm
  unfold idxs
  rw [List.pairwise_map]
  refine List.pairwise_lt_range.imp_of_mem fun {i j} hi hj hij => ?_
  have hi := List.mem_range.1 hi
  have hj := List.mem_range.1 hj
  have := s127_mom (List.pairwise_iff_getElem.1 h i j hi hj hij)
  have e1 : momI v (i : Int) = v[i].Moment := momI_of (by simp [hi])
  have e2 : momI v (j : Int) = v[j].Moment := momI_of (by simp [hj])
  unfold RelM
  rw [e1, e2]
  omega
def Qd (a0 : S23) (u : List S151) (i : Int) (b : S151) : Bool := match u[i.toNat]? with
  | some a => s142 a0 a b
  | none => false
theorem mat_gfv {a0 : S23} {u v : List S151} (h : v.Pairwise (fun a b => s127 a b = true)) : (mat a0 u v).map S154.Slot = gfv (Qd a0 u) (ordI u) v := by
  unfold mat
  rw [ordI_idxs h, gm_gfv (Q := Qd a0 u) (val := fun k => (v[k.toNat]?).getD default) (idxs_nodup _) (ordI u) []]
  · congr 1
    have e : (idxs v.length).filter (fun j => !decide (j ∈ ([] : List Int))) = idxs v.length := List.filter_eq_self.2 fun x _ => by simp
    rw [e]
    unfold idxs
    rw [List.map_map]
    apply List.ext_getElem?
    intro i
    rw [List.getElem?_map]
    by_cases hi : i < v.length
    · rw [List.getElem?_range hi]; simp [hi]
    · rw [List.getElem?_eq_none (by simpa using hi), List.getElem?_eq_none (by simpa using hi)]; rfl
  · intro i _ k hk
    obtain ⟨_, h2⟩ := mem_idxs.1 hk
    unfold okI Qd
    rw [List.getElem?_eq_getElem h2]
    cases u[i.toNat]? <;> rfl
theorem flownI_slots (at_ : List Int) (M : List S154) : flownI at_ M = (M.map S154.Slot).filterMap (fun s => (at_[s.toNat]?).map Int.toNat) := by
  unfold flownI
  rw [List.filterMap_map]
  rfl
theorem flyL_cons {n0 : S104} {l : List S104} (h : s172 n0 = true) : ∃ A B, flyL l = A ++ B ∧ flyL (n0 :: l) = A ++ s173 n0 :: B := by
  have hp := flyL_perm (n0 :: l)
  rw [List.filter_cons, if_pos h, List.map_cons] at hp
  obtain ⟨A, B, he⟩ := List.append_of_mem (hp.mem_iff.2 List.mem_cons_self)
  refine ⟨A, B, ?_, he⟩
  have hs := flyL_sorted (n0 :: l)
  rw [he] at hp hs
  have hp2 : (A ++ B).Perm ((l.filter s172).map s173) := (List.perm_cons _).1 (List.perm_middle.symm.trans hp)
  refine sorted_unique ((flyL_perm l).trans hp2.symm) (flyL_sorted l) ?_ fun x _ y _ h k => s127_as h k
  exact hs.sublist ((List.Sublist.refl A).append (List.sublist_cons_self _ B))
theorem flyL_skip {n0 : S104} {l : List S104} (h : s172 n0 = false) : flyL (n0 :: l) = flyL l := by
  unfold flyL
  rw [List.filter_cons, if_neg (by rw [h]; decide)]
theorem flown_more (a0 : S23) (u : List S151) (at_ : List Int) (n0 : S104) (l : List S104) : ∀ i ∈ flownI at_ (mat a0 u (flyL l)), i ∈ flownI at_ (mat a0 u (flyL (n0 :: l))) := by
  intro i hi
  cases h : s172 n0
  · rw [flyL_skip h]; exact hi
  · obtain ⟨A, B, h1, h2⟩ := flyL_cons (l := l) h
    rw [flownI_slots, mat_gfv (flyL_sorted l), h1] at hi
    rw [flownI_slots, mat_gfv (flyL_sorted _), h2]
    obtain ⟨s, hs, he⟩ := List.mem_filterMap.1 hi
    exact List.mem_filterMap.2 ⟨s, gfv_mono _ _ _ _ s hs, he⟩

/-! ## the ratios, counted -/
def isF (c : Int) : Bool := decide (c = 1) || decide (c = 2)
def isD (c : Int) : Bool := !decide (c = 0)
theorem s126_eq {x y c : Int} (hx : 0 ≤ x ∧ x ≤ 100000) (hy : 0 ≤ y ∧ y ≤ 100000) : s126 (S55.mk x y) c = S55.mk (bif isF c then x + 1 else x) (bif isD c then y + 1 else y) := by
  have w1 : IntKind.i64.wrap (x + 1) = x + 1 := wrap_i64 ⟨by omega, by omega⟩
  have w2 : IntKind.i64.wrap (y + 1) = y + 1 := wrap_i64 ⟨by omega, by omega⟩
  unfold s126 isF isD
  by_cases h0 : c = 0
  · subst h0; simp [s126_j1, w1, w2]
  · by_cases h1 : c = 1
    · subst h1; simp [s126_j1, w1, w2]
    · by_cases h2 : c = 2
      · subst h2; simp [s126_j1, w1, w2]
      · simp [s126_j1, w1, w2, h0, h1, h2]
theorem s58_sum : ∀ (l : List Int) (k : Nat) (x y : Int), 0 ≤ x → x + l.length ≤ 100000 → 0 ≤ y → y + l.length ≤ 100000 → s58_l1 l k x y = some (S55.mk (x + (l.countP isF : Nat)) (y + (l.countP isD : Nat)), 0)
  | [], k, x, y, _, _, _, _ => by simp [s58_l1]
  | c :: l, k, x, y, h1, h2, h3, h4 => by
    rw [List.length_cons] at h2 h4
    rw [s58_l1, s126_eq ⟨h1, by omega⟩ ⟨h3, by omega⟩, List.countP_cons, List.countP_cons]
    simp only
    rw [s58_sum l (k + 1) _ _ (by cases isF c <;> simp <;> omega) (by cases isF c <;> simp <;> omega) (by cases isD c <;> simp <;> omega) (by cases isD c <;> simp <;> omega)]
    congr 2
    cases isF c <;> cases isD c <;> simp <;> omega
theorem count_le {p q : Int → Bool} : ∀ {a b : List Int}, a.length = b.length → (∀ (i : Nat) (x y : Int), a[i]? = some x → b[i]? = some y → p x = true → q y = true) → a.countP p ≤ b.countP q
  | [], [], _, _ => Nat.le_refl _
  | x :: a, y :: b, hl, h => by
    have h0 := h 0 x y rfl rfl
    have ih := count_le (p := p) (q := q) (a := a) (b := b) (by simpa using hl) fun i x y hx hy => h (i + 1) x y (by simpa using hx) (by simpa using hy)
    rw [List.countP_cons, List.countP_cons]
    cases hp : p x
    · simp; omega
    · rw [h0 hp]; simp; omega
  | [], _ :: _, hl, _ => by simp at hl
  | _ :: _, [], hl, _ => by simp at hl
end Go.Sim

