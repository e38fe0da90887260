/-
  What is proved: UseStatus: its law: it is true of every rule, all slots and all records.
-/
import Derived.Test.YtdfgeoefbbkcnaaGreatDoorVsF7
import Derived.Test.YtdfgeoefbbkcnaaGreatDoorVsF2
set_option linter.unusedSectionVars false
set_option linter.unusedSimpArgs false
set_option linter.unusedVariables false
set_option linter.unnecessarySimpa false
set_option linter.deprecated false
namespace Go.Sim
/-! ## the order of strings, and of movements -/
theorem bl_irr : ∀ x : List UInt8, Op.bytesLess x x = false
  | [] => rfl
  | a :: x => by simp [Op.bytesLess, bl_irr x]
theorem bl_tr : ∀ x y z : List UInt8, Op.bytesLess x y = true → Op.bytesLess y z = true → Op.bytesLess x z = true
  | _, _, [], _, h => by cases ‹List UInt8› <;> simp [Op.bytesLess] at h
  | _, [], _ :: _, h, _ => by cases ‹List UInt8› <;> simp [Op.bytesLess] at h
  | [], _ :: _, _ :: _, _, _ => rfl
  | a :: x, b :: y, c :: z, h, k => by
    simp only [Op.bytesLess, Bool.or_eq_true, decide_eq_true_eq, Bool.and_eq_true, beq_iff_eq] at h k ⊢
    rcases h with h | ⟨rfl, h⟩
    · rcases k with k | ⟨rfl, k⟩
      · exact .inl (UInt8.lt_trans h k)
      · exact .inl h
    · rcases k with k | ⟨rfl, k⟩
      · exact .inl k
      · exact .inr ⟨rfl, bl_tr x y z h k⟩
theorem bl_tri : ∀ x y : List UInt8, Op.bytesLess x y = false → Op.bytesLess y x = false → x = y
  | [], [], _, _ => rfl
  | [], _ :: _, h, _ => by simp [Op.bytesLess] at h
  | _ :: _, [], _, h => by simp [Op.bytesLess] at h
  | a :: x, b :: y, h, k => by
    simp only [Op.bytesLess, Bool.or_eq_false_iff, decide_eq_false_iff_not, Bool.and_eq_false_iff, beq_eq_false_iff_ne] at h k
    have e : a = b := UInt8.le_antisymm (UInt8.not_lt.1 k.1) (UInt8.not_lt.1 h.1)
    subst e
    rw [bl_tri x y (h.2.resolve_left fun g => g rfl) (k.2.resolve_left fun g => g rfl)]
theorem sl_irr (a : ByteArray) : strLt a a = false := bl_irr _
theorem sl_tr {a b c : ByteArray} (h : strLt a b = true) (k : strLt b c = true) : strLt a c = true := bl_tr _ _ _ h k
theorem sl_tri {a b : ByteArray} (h : strLt a b = false) (k : strLt b a = false) : a = b := by
  have := bl_tri _ _ h k
  have e := toList_inj (s := a) (s' := b)
  rw [this] at e
  simpa using e.symm
theorem sl_as {a b : ByteArray} (h : strLt a b = true) (k : strLt b a = true) : False := by
  have := sl_tr h k
  rw [sl_irr] at this; cases this

theorem s127_iff (a b : S151) : s127 a b = true ↔ a.Moment < b.Moment ∨ (a.Moment = b.Moment ∧ (strLt a.Name b.Name = true ∨ (a.Name = b.Name ∧ (strLt a.Kind b.Kind = true ∨ a.Kind = b.Kind)))) := by
  unfold s127
  by_cases h : a.Moment = b.Moment
  · rw [decide_eq_false (by simpa using h), cond_false]
    by_cases g : a.Name = b.Name
    · simp [h, g, sl_irr]
    · simp [h, g]
  · rw [decide_eq_true h, cond_true]
    simp [h]
theorem s127_tot {a b : S151} (h : s127 a b = false) : s127 b a = true := by
  have h' : ¬ s127 a b = true := by rw [h]; decide
  rw [s127_iff] at h' ⊢
  by_cases hm : a.Moment = b.Moment
  · by_cases hn : a.Name = b.Name
    · by_cases hk : a.Kind = b.Kind
      · exact .inr ⟨hm.symm, .inr ⟨hn.symm, .inr hk.symm⟩⟩
      · refine .inr ⟨hm.symm, .inr ⟨hn.symm, .inl ?_⟩⟩
        cases h1 : strLt b.Kind a.Kind
        · cases h2 : strLt a.Kind b.Kind
          · exact absurd (sl_tri h2 h1) hk
          · exact absurd (.inr ⟨hm, .inr ⟨hn, .inl h2⟩⟩) h'
        · rfl
    · refine .inr ⟨hm.symm, .inl ?_⟩
      cases h1 : strLt b.Name a.Name
      · cases h2 : strLt a.Name b.Name
        · exact absurd (sl_tri h2 h1) hn
        · exact absurd (.inr ⟨hm, .inl h2⟩) h'
      · rfl
  · left
    have : ¬ a.Moment < b.Moment := fun g => h' (.inl g)
    omega
theorem s127_tr (a b c : S151) (h : s127 a b = true) (k : s127 b c = true) : s127 a c = true := by
  rw [s127_iff] at h k ⊢
  rcases h with h | ⟨h, h2⟩
  · rcases k with k | ⟨k, _⟩
    · left; omega
    · left; omega
  · rcases k with k | ⟨k, k2⟩
    · left; omega
    · refine .inr ⟨h.trans k, ?_⟩
      rcases h2 with h2 | ⟨h2, h3⟩
      · rcases k2 with k2 | ⟨k2, _⟩
        · exact .inl (sl_tr h2 k2)
        · exact .inl (k2 ▸ h2)
      · rcases k2 with k2 | ⟨k2, k3⟩
        · exact .inl (h2 ▸ k2)
        · refine .inr ⟨h2.trans k2, ?_⟩
          rcases h3 with h3 | h3
          · rcases k3 with k3 | k3
            · exact .inl (sl_tr h3 k3)
            · exact .inl (k3 ▸ h3)
          · rcases k3 with k3 | k3
            · exact .inl (h3 ▸ k3)
            · exact .inr (h3.trans k3)
theorem s127_as {a b : S151} (h : s127 a b = true) (k : s127 b a = true) : a = b := by
  rw [s127_iff] at h k
  have hm : a.Moment = b.Moment := by omega
  have h := (h.resolve_left (by omega)).2
  have k := (k.resolve_left (by omega)).2
  have hn : a.Name = b.Name := by
    rcases h with h | h
    · rcases k with k | k
      · exact (sl_as h k).elim
      · exact k.1.symm
    · exact h.1
  have hk : a.Kind = b.Kind := by
    rcases h with h | ⟨_, h | h⟩
    · rw [hn, sl_irr] at h; cases h
    · rcases k with k | ⟨_, k | k⟩
      · rw [hn, sl_irr] at k; cases k
      · exact (sl_as h k).elim
      · exact k.symm
    · exact h
  cases a; cases b
  simp only at hm hn hk
  subst hm hn hk
  rfl
theorem s133_eq (a b : ByteArray) : s133 a b = bif strLt a b then -1 else bif decide (a = b) then 0 else 1 := by
  have h : ∀ x, s183 x = false := fun x => by unfold s183; simp
  unfold s133
  rw [h, h]
  cases h1 : strLt a b
  · by_cases h2 : a = b <;> simp [h2]
  · rfl
theorem s175_lt (a b : S151) : decide (s175 a b < 0) = !(s127 b a) := by
  have h0 : ∀ x, s202 x = false := fun x => by unfold s202; simp
  have hm : s167 a.Moment b.Moment = bif decide (a.Moment < b.Moment) then -1 else bif decide (b.Moment < a.Moment) then 1 else 0 := by
    unfold s167
    rw [h0, h0]
    simp
  unfold s175 s176
  rw [hm, s133_eq, s133_eq]
  by_cases hlt : a.Moment < b.Moment
  · have : s127 b a = false := by
      cases hc : s127 b a
      · rfl
      · rw [s127_iff] at hc; omega
    rw [this]
    simp [s176_l1, hlt]
  · by_cases hgt : b.Moment < a.Moment
    · have : s127 b a = true := by rw [s127_iff]; exact .inl hgt
      rw [this]
      simp [s176_l1, hlt, hgt]
    · have he : b.Moment = a.Moment := by omega
      simp only [decide_eq_false hlt, decide_eq_false hgt, cond_false]
      cases h1 : strLt a.Name b.Name
      · by_cases hn : a.Name = b.Name
        · cases h2 : strLt a.Kind b.Kind
          · have : s127 b a = true := by
              rw [s127_iff]
              refine .inr ⟨he, .inr ⟨hn.symm, ?_⟩⟩
              cases h3 : strLt b.Kind a.Kind
              · exact .inr (sl_tri h3 h2)
              · exact .inl rfl
            rw [this]
            by_cases hk : a.Kind = b.Kind <;> simp [s176_l1, hn, hk]
          · have : s127 b a = false := by
              cases hc : s127 b a
              · rfl
              · rw [s127_iff] at hc
                have hc := (hc.resolve_left (by omega)).2
                rcases hc with hc | ⟨_, hc | hc⟩
                · rw [hn, sl_irr] at hc; cases hc
                · exact (sl_as h2 hc).elim
                · rw [hc, sl_irr] at h2; cases h2
            rw [this]
            simp [s176_l1, hn]
        · have : s127 b a = true := by
            rw [s127_iff]
            refine .inr ⟨he, .inl ?_⟩
            cases h3 : strLt b.Name a.Name
            · exact absurd (sl_tri h1 h3) hn
            · rfl
          rw [this]
          simp [s176_l1, hn]
      · have : s127 b a = false := by
          cases hc : s127 b a
          · rfl
          · rw [s127_iff] at hc
            have hc := (hc.resolve_left (by omega)).2
            rcases hc with hc | ⟨hc, _⟩
            · exact (sl_as h1 hc).elim
            · rw [hc, sl_irr] at h1; cases h1
        rw [this]
        simp [s176_l1]

/-! ## the actual movements -/
def flyL (l : List S104) : List S151 := isort (fun a b => !(s127 b a)) ((l.filter s172).map s173)
theorem flyL_perm (l : List S104) : (flyL l).Perm ((l.filter s172).map s173) := isort_perm _ _
theorem flyL_sorted (l : List S104) : (flyL l).Pairwise (fun a b => s127 a b = true) := by
  refine isort_sorted s127_tr ?_
  refine List.pairwise_of_forall fun y x => ?_
  refine ⟨fun h => s127_tot (by simpa using h), fun h => by simpa using h⟩
theorem s121_ok (l : List S104) : s121 l = some (flyL l) := by
  unfold s121
  rw [s171_eq, s170_eq, s174_ok (lt := fun a b => !(s127 b a)) (fun y _ x _ => ⟨_, rfl, s175_lt x y⟩)]
  rfl
theorem s59_ins (rec1 : Nat → List S151 → Option (List S151)) (k3 : Nat) (y : S104) : ∀ (B C : List S151) (k : Nat), B.length < k → (∀ c ∈ C, s127 c (s173 y) = true) →
    ∃ C' D, C ++ B = C' ++ D ∧ (∀ c ∈ C', s127 c (s173 y) = true) ∧ (∀ d D', D = d :: D' → s127 d (s173 y) = false) ∧ s59_l2 rec1 (C ++ B) k3 y k (C.length : Int) = rec1 (k3 + 1) (C' ++ s173 y :: D)
  | [], C, 0, h, _ => by simp at h
  | [], C, k + 1, _, hC => by
    refine ⟨C, [], rfl, hC, (fun d D' h => by cases h), ?_⟩
    rw [s59_l2]
    have e : decide ((C.length : Int) < ((C ++ ([] : List S151)).length : Int)) = false := by simp
    simp only [e, cond_false, bindO, Bool.false_and, s59_j1]
    simp [s173]
  | b :: B, C, 0, h, _ => by simp at h
  | b :: B, C, k + 1, h, hC => by
    have e : decide ((C.length : Int) < ((C ++ b :: B).length : Int)) = true := by simp; omega
    rw [s59_l2]
    simp only [e, cond_true, ixO_app, bindO, Bool.true_and, s59_j1]
    show ∃ C' D, C ++ b :: B = C' ++ D ∧ (∀ c ∈ C', s127 c (s173 y) = true) ∧ (∀ d D', D = d :: D' → s127 d (s173 y) = false) ∧ (bif s127 b (s173 y) then s59_l2 rec1 (C ++ b :: B) k3 y k ((C.length : Int) + 1) else rec1 (k3 + 1) ((([] ++ List.take (Int.toNat (C.length : Int)) (C ++ b :: B)) ++ [s173 y]) ++ List.drop (Int.toNat (C.length : Int)) (C ++ b :: B))) = rec1 (k3 + 1) (C' ++ s173 y :: D)
    cases hm : s127 b (s173 y)
    · refine ⟨C, b :: B, rfl, hC, ?_, ?_⟩
      · intro d D' h; cases h; exact hm
      · rw [cond_false]
        simp
    · obtain ⟨C', D, h1, h2, h3, h4⟩ := s59_ins rec1 k3 y B (C ++ [b]) k (by simp at h; omega) (fun c hc => by
        rcases List.mem_append.1 hc with hc | hc
        · exact hC c hc
        · rw [List.mem_singleton.1 hc]; exact hm)
      refine ⟨C', D, by rw [← h1]; simp, h2, h3, ?_⟩
      rw [cond_true, ← h4]
      simp
theorem ins_sorted9 {C D : List S151} {y : S151} (hs : (C ++ D).Pairwise (fun a b => s127 a b = true)) (hC : ∀ c ∈ C, s127 c y = true) (hD : ∀ d D', D = d :: D' → s127 d y = false) :
    (C ++ y :: D).Pairwise (fun a b => s127 a b = true) := by
  obtain ⟨h1, h2, h3⟩ := List.pairwise_append.1 hs
  refine List.pairwise_append.2 ⟨h1, List.pairwise_cons.2 ⟨fun d hd => ?_, h2⟩, fun c hc z hz => ?_⟩
  · cases D with
    | nil => cases hd
    | cons d0 D' =>
      have h4 := s127_tot (hD d0 D' rfl)
      rcases List.mem_cons.1 hd with rfl | hd
      · exact h4
      · exact s127_tr _ _ _ h4 ((List.pairwise_cons.1 h2).1 d hd)
  · rcases List.mem_cons.1 hz with rfl | hz
    · exact hC c hc
    · exact h3 c hc z hz
theorem s59_loop : ∀ (rest : List S104) (k : Nat) (P : List S151), P.Pairwise (fun a b => s127 a b = true) → ∃ Q, s59_l1 rest k P = some Q ∧ Q.Perm (P ++ (rest.filter s172).map s173) ∧ Q.Pairwise (fun a b => s127 a b = true)
  | [], k, P, hs => ⟨P, by rw [s59_l1], by simp, hs⟩
  | y :: rest, k, P, hs => by
    rw [s59_l1]
    cases hf : decide (y.Kind = (⟨#[102, 108, 121]⟩ : ByteArray))
    · obtain ⟨Q, q1, q2, q3⟩ := s59_loop rest (k + 1) P hs
      refine ⟨Q, ?_, ?_, q3⟩
      · rw [Bool.not_false, cond_true, s59_j1, q1]
      · rw [List.filter_cons, if_neg (by show ¬ s172 y = true; unfold s172; rw [hf]; decide)]; exact q2
    · obtain ⟨C', D, h1, h2, h3, h4⟩ := s59_ins (fun k_ z0_ => s59_l1 rest k_ z0_) k y P [] (((List.length P : Int) - 0).toNat + 1) (by simp) (fun c hc => by cases hc)
      simp only [List.nil_append] at h1 h4
      have h5 := ins_sorted9 (by rw [← h1]; exact hs) h2 h3
      obtain ⟨Q, q1, q2, q3⟩ := s59_loop rest (k + 1) _ h5
      refine ⟨Q, ?_, ?_, q3⟩
      · rw [Bool.not_true, cond_false]
        have : s59_l2 (fun k_ z0_ => s59_l1 rest k_ z0_) P k y (((List.length P : Int) - 0).toNat + 1) 0 = s59_l1 rest (k + 1) (C' ++ s173 y :: D) := by simpa using h4
        rw [this, q1]
      · rw [List.filter_cons, if_pos (by show s172 y = true; unfold s172; rw [hf]), List.map_cons]
        refine q2.trans ?_
        have g : (C' ++ s173 y :: D).Perm (s173 y :: P) := by
          rw [h1]; exact List.perm_middle
        exact (g.append_right _).trans List.perm_middle.symm
theorem s59_ok (l : List S104) : s59 l = some (flyL l) := by
  obtain ⟨Q, h1, h2, h3⟩ := s59_loop l 0 [] List.Pairwise.nil
  unfold s59
  rw [h1]
  congr 1
  refine sorted_unique (h2.trans (flyL_perm l).symm) h3 (flyL_sorted l) fun x _ y _ h k => s127_as h k
end Go.Sim

namespace Go.Sim
/-! ## UseStatus: the law -/
theorem s242_any (f : S104 → Bool) (l : List S104) : s206 l f = l.any f := by
  have key : ∀ (l : List S104) (k : Nat), decide (0 ≤ s242_l1 f l k) = l.any f := by
    intro l
    induction l with
    | nil => intro k; rfl
    | cons y l ih =>
      intro k
      rw [s242_l1, List.any_cons]
      cases h : f y
      · rw [cond_false, ih]; simp
      · rw [cond_true]; simp
  unfold s206 s242; exact key l 0
theorem gone_eq (a : S23) (s : S151) (l : List S104) : s177 a s l = s128 a s l := by
  unfold s177 s128
  rw [s242_any]
  have key : ∀ (l : List S104) (k : Nat), l.any (fun x0 => s207 x0 s (IntKind.i64.wrap (Int.tdiv s.Moment 1440)) a) = s128_l1 a s l k := by
    intro l
    induction l with
    | nil => intro k; rfl
    | cons y l ih =>
      intro k
      rw [List.any_cons, s128_l1, ← ih (k + 1)]
      have : s207 y s (IntKind.i64.wrap (Int.tdiv s.Moment 1440)) a = (((decide (y.Kind = (⟨#[98, 97, 99, 107]⟩))) && (s179 y s)) && (decide (IntKind.i64.wrap (y.Told + a.Notice) ≤ IntKind.i64.wrap (Int.tdiv s.Moment 1440)))) := by
        unfold s207 s179 s208
        by_cases h : y.Kind = (⟨#[98, 97, 99, 107]⟩ : ByteArray)
        · have h2 : ¬ (⟨#[98, 97, 99, 107]⟩ : ByteArray) = ⟨#[119, 101, 97, 116, 104, 101, 114]⟩ := by decide
          rw [h]
          simp [h2, Bool.and_assoc]
        · simp [h]
      rw [this]
      cases (((decide (y.Kind = (⟨#[98, 97, 99, 107]⟩))) && (s179 y s)) && (decide (IntKind.i64.wrap (y.Told + a.Notice) ≤ IntKind.i64.wrap (Int.tdiv s.Moment 1440)))) <;> simp
  exact key l 0
theorem excused_eq (a : S23) (s : S151) (l : List S104) : s178 a s l = s129 a s l := by
  unfold s178 s129
  rw [s242_any]
  have key : ∀ (l : List S104) (k : Nat), l.any (fun x0 => s209 x0 (IntKind.i64.wrap (Int.tdiv s.Moment 1440)) s a) = s129_l1 a s l k := by
    intro l
    induction l with
    | nil => intro k; rfl
    | cons y l ih =>
      intro k
      rw [List.any_cons, s129_l1, ← ih (k + 1)]
      have : s209 y (IntKind.i64.wrap (Int.tdiv s.Moment 1440)) s a = ((s179 y s) && ((decide (y.Kind = (⟨#[119, 101, 97, 116, 104, 101, 114]⟩))) || ((decide (y.Kind = (⟨#[99, 97, 110, 99, 101, 108]⟩))) && (s92 a.Causes y.Cause)))) := by
        unfold s209 s179 s208
        rw [s88_s92]
        by_cases h : y.Kind = (⟨#[119, 101, 97, 116, 104, 101, 114]⟩ : ByteArray)
        · simp [h]
        · by_cases h2 : y.Name = s.Name
          · simp [h, h2]
          · simp [h, h2]
      rw [this]
      cases ((s179 y s) && ((decide (y.Kind = (⟨#[119, 101, 97, 116, 104, 101, 114]⟩))) || ((decide (y.Kind = (⟨#[99, 97, 110, 99, 101, 108]⟩))) && (s92 a.Causes y.Cause)))) <;> simp
  exact key l 0

/-- the words of the states -/
def stW (c : Int) : ByteArray := (statL[c.toNat]?).getD ⟨#[]⟩
def isC (c : Int) : Prop := c = 0 ∨ c = 1 ∨ c = 2 ∨ c = 3
theorem s125_ok {c : Int} (h : isC c) : s125 c = some (stW c) := by
  rcases h with rfl | rfl | rfl | rfl <;> rfl
theorem s123_ok (l : List Int) (h : ∀ c ∈ l, isC c) : s123 l s125 = some (l.map stW) := by
  have key : ∀ (l : List Int) (k : Nat) (x : List ByteArray), (∀ c ∈ l, isC c) → s123_l1 s125 l k x = some (x ++ l.map stW) := by
    intro l
    induction l with
    | nil => intro k x _; simp [s123_l1]
    | cons y l ih =>
      intro k x h
      rw [s123_l1, s125_ok (h y List.mem_cons_self)]
      simp only [bindO]
      rw [ih _ _ fun c hc => h c (List.mem_cons_of_mem _ hc)]
      simp
  unfold s123; rw [key l 0 [] h]; rfl
/-- the flown ones -/
theorem flown_loop (at_ : List Int) (n : Nat) (hat : ∀ p ∈ at_, p ∈ idxs n) : ∀ (l : List S154) (k k' : Nat) (cs : List Int), cs.length = n → (∀ c ∈ cs, isC c) → (∀ e ∈ l, e.Slot ∈ idxs at_.length) →
    ∃ r, s124_l2 at_ l k cs = some r ∧ s61_l2 at_ l k' (cs.map stW) = some (r.map stW) ∧ r.length = n ∧ ∀ c ∈ r, isC c
  | [], k, k', cs, hn, hc, _ => ⟨cs, rfl, rfl, hn, hc⟩
  | e :: l, k, k', cs, hn, hc, hl => by
    obtain ⟨p, hp, hp'⟩ := ixO_idx (hl e List.mem_cons_self)
    have hpn := hat p (List.mem_of_getElem? hp')
    obtain ⟨c, h1, _⟩ := ixO_idx (l := cs) (by rw [hn]; exact hpn)
    obtain ⟨w, h2, _⟩ := ixO_idx (l := cs.map stW) (by rw [List.length_map, hn]; exact hpn)
    rw [s124_l2, s61_l2, hp]
    simp only [bindO, h1, h2]
    have e1 : List.set (cs.map stW) p.toNat (⟨#[102, 108, 111, 119, 110]⟩) = (List.set cs p.toNat 1).map stW := by
      rw [List.map_set]; rfl
    rw [e1]
    refine flown_loop at_ n hat l (k + 1) (k' + 1) _ (by rw [List.length_set]; exact hn) (fun c hc' => ?_) fun z hz => hl z (List.mem_cons_of_mem _ hz)
    rcases List.mem_or_eq_of_mem_set hc' with h | h
    · exact hc c h
    · exact .inr (.inl h)
theorem status_loop (a0 : S23) (a2 : List S104) (n : Nat) : ∀ (l : List S151) (k k' : Nat) (due : List S151) (at_ cs : List Int), k = cs.length → k + l.length = n → (∀ c ∈ cs, isC c) → due.length = at_.length → (∀ p ∈ at_, p ∈ idxs k) →
    ∃ r, s124_l1 a0 a2 l k due at_ (cs ++ List.replicate l.length 0) = some r ∧ s61_l1 a0 a2 l k due at_ (cs.map stW) = some (r.map stW) ∧ r.length = n ∧ ∀ c ∈ r, isC c
  | [], k, k', due, at_, cs, hk, hn, hc, hd, hp => by
    obtain ⟨M, h1, h2, _, h4, _⟩ := match_ok a0 due (flyL a2)
    have hk0 : k = n := by simpa using hn
    obtain ⟨r, g1, g2, g3, g4⟩ := flown_loop at_ n (by rw [← hk0]; exact hp) M 0 0 cs (by omega) hc (by rw [← hd]; exact h4)
    refine ⟨r, ?_, ?_, g3, g4⟩
    · rw [s124_l1, s121_ok]
      simp only [bindO, h1]
      simpa using g1
    · rw [s61_l1, s59_ok]
      simp only [bindO, h2]
      exact g2
  | y :: l, k, k', due, at_, cs, hk, hn, hc, hd, hp => by
    have hix : ∀ v : Int, List.set (cs ++ List.replicate (y :: l).length (0 : Int)) (Int.toNat ((k : Nat) : Int)) v = (cs ++ [v]) ++ List.replicate l.length 0 := fun v => by
      rw [List.length_cons, List.replicate_succ, set_app (by rw [hk]; simp)]
      simp
    have hi : ixO (cs ++ List.replicate (y :: l).length (0 : Int)) ((k : Nat) : Int) = some 0 := by
      rw [List.length_cons, List.replicate_succ]; exact ixO_app' (by rw [hk])
    have hn' : k + 1 + l.length = n := by simp at hn; omega
    have hcs : ∀ v, isC v → ∀ c ∈ cs ++ [v], isC c := fun v hv c h => by
      rcases List.mem_append.1 h with h | h
      · exact hc c h
      · rw [List.mem_singleton.1 h]; exact hv
    have hp1 : ∀ p ∈ at_, p ∈ idxs (k + 1) := fun p h => idxs_mem_up (hp p h)
    have hp2 : ∀ p ∈ at_ ++ [((k : Nat) : Int)], p ∈ idxs (k + 1) := fun p h => by
      rcases List.mem_append.1 h with h | h
      · exact hp1 p h
      · rw [List.mem_singleton.1 h]; exact idxs_mem_last k
    rw [s124_l1, s61_l1, gone_eq, excused_eq, hi]
    simp only [bindO, hix, s124_j1, s124_j2, s61_j1]
    cases s128 a0 y a2
    · simp only [cond_false]
      cases s129 a0 y a2
      · simp only [cond_false]
        have := status_loop a0 a2 n l (k + 1) (k' + 1) (due ++ [y]) (at_ ++ [((k : Nat) : Int)]) (cs ++ [3]) (by simp [hk]) hn' (hcs 3 (.inr (.inr (.inr rfl)))) (by simp [hd]) hp2
        simpa [stW, statL] using this
      · simp only [cond_true]
        have := status_loop a0 a2 n l (k + 1) (k' + 1) (due ++ [y]) (at_ ++ [((k : Nat) : Int)]) (cs ++ [2]) (by simp [hk]) hn' (hcs 2 (.inr (.inr (.inl rfl)))) (by simp [hd]) hp2
        simpa [stW, statL] using this
    · simp only [cond_true]
      have := status_loop a0 a2 n l (k + 1) (k' + 1) due at_ (cs ++ [0]) (by simp [hk]) hn' (hcs 0 (.inl rfl)) hd hp1
      simpa [stW, statL] using this
theorem status_ok (a0 : S23) (a1 : List S151) (a2 : List S104) : ∃ r, s124 a0 a1 a2 = some r ∧ s61 a0 a1 a2 = some (r.map stW) ∧ r.length = a1.length ∧ ∀ c ∈ r, isC c := by
  have := status_loop a0 a2 a1.length a1 0 0 [] [] [] rfl (by simp) (by simp) rfl (by simp)
  simpa [s124, s61] using this
/-- the ratio of the states -/
theorem ratio_loop (cs : List Int) : ∀ (l : List S151) (k k' : Nat) (rest : List Int) (x y : Int), cs.drop k = rest → rest.length = l.length → (∀ c ∈ rest, isC c) →
    ∃ r, s58_l1 rest k' x y = some (r, 0) ∧ s130_l1 (cs.map stW) ⟨#[]⟩ (-1) l k x y = some r
  | [], k, k', rest, x, y, hd, hl, hc => by
    cases rest with
    | nil => exact ⟨_, rfl, rfl⟩
    | cons c rest => simp at hl
  | s :: l, k, k', rest, x, y, hd, hl, hc => by
    cases rest with
    | nil => simp at hl
    | cons c rest =>
      have hck : cs[k]? = some c := by
        have : (cs.drop k)[0]? = some c := by rw [hd]; rfl
        simpa using this
      have hix : ixO (cs.map stW) ((k : Nat) : Int) = some (stW c) := ixO_nat (by rw [List.getElem?_map, hck]; rfl)
      have hd' : cs.drop (k + 1) = rest := by
        have : cs.drop (k + 1) = (cs.drop k).drop 1 := by rw [List.drop_drop]
        rw [this, hd]; rfl
      have hneg : decide ((0 : Int) ≤ -1) = false := by decide
      have ih : ∀ x y, ∃ r, s58_l1 rest (k' + 1) x y = some (r, 0) ∧ s130_l1 (cs.map stW) ⟨#[]⟩ (-1) l (k + 1) x y = some r := fun x y =>
        ratio_loop cs l (k + 1) (k' + 1) rest x y hd' (by simpa using hl) fun z hz => hc z (List.mem_cons_of_mem _ hz)
      rw [s58_l1, s130_l1]
      simp only [decide_true, Bool.not_true, Bool.false_and, hneg, Bool.or_false, Bool.not_false, cond_true, hix, bindO, Bool.false_or, s130_j1]
      rcases hc c List.mem_cons_self with rfl | rfl | rfl | rfl
      · exact ih _ _
      · exact ih _ _
      · exact ih _ _
      · exact ih _ _
theorem ratio_ok (cs : List Int) (l : List S151) (hl : cs.length = l.length) (hc : ∀ c ∈ cs, isC c) : ∃ r, s58_l1 cs 0 0 0 = some (r, 0) ∧ s130 l (cs.map stW) ⟨#[]⟩ (-1) = some r :=
  ratio_loop cs l 0 0 cs 0 0 rfl hl hc
theorem s60_self (l : List ByteArray) : s60 l l = some true := by
  have key : ∀ (r : List ByteArray) (k : Nat), l.drop k = r → s60_l1 l r k = some true := by
    intro r
    induction r with
    | nil => intro k _; rfl
    | cons y r ih =>
      intro k hd
      have hy : l[k]? = some y := by
        have : (l.drop k)[0]? = some y := by rw [hd]; rfl
        simpa using this
      rw [s60_l1, ixO_nat hy]
      simp only [bindO]
      simp only [decide_true, Bool.not_true, cond_false]
      refine ih (k + 1) ?_
      have : l.drop (k + 1) = (l.drop k).drop 1 := by rw [List.drop_drop]
      rw [this, hd]; rfl
  unfold s60
  rw [decide_eq_false (by simp), cond_false]
  exact key l 0 rfl
theorem s9_j1_true (a0 : S23) (a1 : List S151) (a2 : List S104) (f : List S151) (e : Int) (r2 : List ByteArray × Int) (r3 : S55 × Int) (he : e = s28 (s22 a2)) (h2 : s57 a0 a1 a2 = some r2) (h3 : s58 a0 a1 a2 = some r3) : s9_j1 a0 a1 a2 (f, e) r2 r3 f = some true := by
  unfold s9_j1
  rw [s20_eq, s32_same]
  simp only [bindO, Bool.not_true, Bool.false_or]
  rw [decide_eq_false (by simpa using he), cond_false]
  rw [← both_eq9]
  by_cases h : s122 a0 a1 a2 = 0
  · have hd : decide (s122 a0 a1 a2 ≠ 0) = false := decide_eq_false (by simpa using h)
    obtain ⟨r, g1, g2, g3, g4⟩ := status_ok a0 a1 a2
    obtain ⟨q, g5, g6⟩ := ratio_ok r a1 g3 g4
    unfold s57 at h2
    rw [hd, cond_false, g1] at h2
    simp only [bindO, s123_ok r g4] at h2
    cases h2
    unfold s58 at h3
    rw [hd, cond_false, g1] at h3
    simp only [bindO, g5] at h3
    cases h3
    have w : IntKind.i64.wrap (0 + 0) = 0 := rfl
    have e61 : s61 (s18 a0) (s20 a1) (s22 a2) = some (r.map stW) := by rw [s20_eq, s22_eq]; exact g2
    have e62 : s62 (s18 a0) (s20 a1) (s22 a2) = some q := by
      unfold s62
      rw [e61]
      simp only [bindO, s20_eq, g6]
    rw [hd, cond_false]
    simp only [w, decide_true, cond_true, e61, bindO, s60_self, Bool.true_and, e62, eqAnd, Bool.and_true]
  · have hd : decide (s122 a0 a1 a2 ≠ 0) = true := decide_eq_true h
    unfold s57 at h2
    rw [hd, cond_true] at h2
    cases h2
    unfold s58 at h3
    rw [hd, cond_true] at h3
    cases h3
    rw [hd, cond_true]
    simp [eqAnd]
theorem s9_true (a0 : S23) (a1 : List S151) (a2 : List S104) : s9 a0 a1 a2 = some true := by
  unfold s9
  rw [s16_eq]
  cases ((((!true) || (!(s17 (s18 a0)))) || (!(s19 (s20 a1) 8))) || (!(s21 (s22 a2) 8)))
  · simp only [cond_false]
    have h57 : ∃ r2, s57 a0 a1 a2 = some r2 := by
      unfold s57
      cases hd : decide (s122 a0 a1 a2 ≠ 0)
      · obtain ⟨r, g1, g2, g3, g4⟩ := status_ok a0 a1 a2
        rw [cond_false, g1]
        simp only [bindO, s123_ok r g4]
        exact ⟨_, rfl⟩
      · exact ⟨_, rfl⟩
    have h58 : ∃ r3, s58 a0 a1 a2 = some r3 := by
      unfold s58
      cases hd : decide (s122 a0 a1 a2 ≠ 0)
      · obtain ⟨r, g1, g2, g3, g4⟩ := status_ok a0 a1 a2
        obtain ⟨q, g5, g6⟩ := ratio_ok r a1 g3 g4
        rw [cond_false, g1]
        simp only [bindO, g5]
        exact ⟨_, rfl⟩
      · exact ⟨_, rfl⟩
    obtain ⟨r2, h2⟩ := h57
    obtain ⟨r3, h3⟩ := h58
    rw [h2, h3]
    by_cases h : s28 (s22 a2) = 0
    · have h' : s27 a2 = 0 := by rw [← notes_eq']; exact h
      have e56 : s56 a2 = some (flyL a2, 0) := by
        unfold s56
        rw [decide_eq_false (by simpa using h'), cond_false, s121_ok]
        rfl
      rw [e56]
      simp only [bindO]
      rw [decide_eq_true h, cond_true, s22_eq, s59_ok]
      simp only [bindO]
      exact s9_j1_true a0 a1 a2 _ _ r2 r3 h.symm h2 h3
    · have h' : ¬ s27 a2 = 0 := by rw [← notes_eq']; exact h
      have e56 : s56 a2 = some ([], s27 a2) := by
        unfold s56
        rw [decide_eq_true h', cond_true]
      rw [e56]
      simp only [bindO]
      rw [decide_eq_false h, cond_false]
      exact s9_j1_true a0 a1 a2 _ _ r2 r3 (notes_eq' a2).symm h2 h3
  · rfl
end Go.Sim

