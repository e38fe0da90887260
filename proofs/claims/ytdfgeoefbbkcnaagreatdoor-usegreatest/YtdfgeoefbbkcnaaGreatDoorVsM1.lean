/-
  What is proved: the least cover; what is accepted, and how many.
-/
import Derived.Test.YtdfgeoefbbkcnaaGreatDoorVsK1
import Derived.Test.YtdfgeoefbbkcnaaGreatDoorVsJ1
import Derived.Test.YtdfgeoefbbkcnaaGreatDoorVaA9
import Derived.Test.YtdfgeoefbbkcnaaGreatDoorVaB1
import Derived.SizedLaws
set_option linter.unusedSectionVars false
set_option linter.unusedSimpArgs false
set_option linter.unusedVariables false
set_option linter.unnecessarySimpa false
set_option linter.deprecated false
set_option linter.unusedSimpArgs false
set_option linter.unusedVariables false
set_option maxRecDepth 10000
namespace Go.Sim
open Go.Proofs


end Go.Sim

set_option linter.unusedSimpArgs false
namespace Go.Sim
/-! ## UsePairs: the law -/
def pick (b : Bool) : List Bool → Nat → List Int
  | [], _ => []
  | x :: l, k => bif x == b then ((k : Nat) : Int) :: pick b l (k + 1) else pick b l (k + 1)
theorem mem_pick {b : Bool} : ∀ {l : List Bool} {k : Nat} {j : Int}, j ∈ pick b l k ↔ ∃ n : Nat, j = ((k + n : Nat) : Int) ∧ l[n]? = some b
  | [], k, j => by simp [pick]
  | x :: l, k, j => by
    have ih := mem_pick (b := b) (l := l) (k := k + 1) (j := j)
    rw [pick]
    cases hx : x == b
    · rw [cond_false, ih]
      constructor
      · rintro ⟨n, h1, h2⟩; exact ⟨n + 1, by rw [h1]; omega, by simpa using h2⟩
      · rintro ⟨n, h1, h2⟩
        cases n with
        | zero => simp at h2; subst h2; simp at hx
        | succ n => exact ⟨n, by rw [h1]; omega, by simpa using h2⟩
    · rw [cond_true, List.mem_cons, ih]
      have hx : x = b := by simpa using hx
      constructor
      · rintro (h | ⟨n, h1, h2⟩)
        · exact ⟨0, by rw [h]; rfl, by simp [hx]⟩
        · exact ⟨n + 1, by rw [h1]; omega, by simpa using h2⟩
      · rintro ⟨n, h1, h2⟩
        cases n with
        | zero => exact .inl (by rw [h1]; rfl)
        | succ n => exact .inr ⟨n, by rw [h1]; omega, by simpa using h2⟩
theorem pick_sorted (b : Bool) : ∀ (l : List Bool) (k : Nat), (pick b l k).Pairwise (· < ·)
  | [], k => List.Pairwise.nil
  | x :: l, k => by
    rw [pick]
    cases x == b
    · exact pick_sorted b l (k + 1)
    · rw [cond_true, List.pairwise_cons]
      refine ⟨fun j hj => ?_, pick_sorted b l (k + 1)⟩
      obtain ⟨n, h1, _⟩ := mem_pick.1 hj
      rw [h1]; omega
theorem l5_run (S : List Int) : ∀ (l : List Bool) (k : Nat) (x : List Int), s77_l5 S l k x = some (⟨S, x ++ pick true l k⟩, 0)
  | [], k, x => by simp [s77_l5, pick]
  | b :: l, k, x => by
    rw [s77_l5, pick]
    cases b
    · simp only [cond_false, s77_j1]; rw [l5_run S l]; rfl
    · simp only [cond_true, s77_j1]; rw [l5_run S l]; simp
theorem l4_run (met : List Bool) : ∀ (l : List Bool) (k : Nat) (x : List Int), s77_l4 met l k x = some (⟨x ++ pick false l k, pick true met 0⟩, 0)
  | [], k, x => by rw [s77_l4, l5_run]; simp [pick]
  | b :: l, k, x => by
    rw [s77_l4, pick]
    cases b
    · simp only [Bool.not_false, cond_true, s77_j2]; rw [l4_run met l]; simp
    · simp only [Bool.not_true, cond_false, s77_j2]; rw [l4_run met l]; rfl
structure ST (a0 : S23) (u v : List S151) (k : Nat) (w : List Int) (re : List Bool) : Prop where
  lr : re.length = u.length
  t : ∀ n : Nat, re[n]? = some true ↔ n < k ∧ n < u.length ∧ (n : Int) ∉ (mat a0 u v).map S154.Slot
  wm : ∀ i, i ∈ w ↔ ∃ n : Nat, i = (n : Int) ∧ re[n]? = some true
  c : w.length + cF re = u.length
theorem start_run (a0 : S23) (u v : List S151) : ∀ (rest : List S151) (k : Nat) (w : List Int) (re : List Bool), k + rest.length = u.length → ST a0 u v k w re → ∃ w' re', ST a0 u v u.length w' re' ∧
    s77_l2 a0 u v (mapS (mat a0 u v) []) (mapO (mat a0 u v) []) rest k w re = s77_l3 a0 u v (mapO (mat a0 u v) []) (u.length + 1) w' (List.replicate v.length false) re'
  | [], k, w, re, hk, h => by
    have : k = u.length := by simpa using hk
    subst this
    exact ⟨w, re, h, by rw [s77_l2]⟩
  | y :: rest, k, w, re, hk, h => by
    rw [List.length_cons] at hk
    have hx : mgetD (mapS (mat a0 u v) []) ((k : Nat) : Int) false = decide ((k : Int) ∈ (mat a0 u v).map S154.Slot) := by
      rw [mapS_get]; simp [mgetD, mget]
    have hlk : k < re.length := by rw [h.lr]; omega
    rw [s77_l2, hx]
    by_cases hm : (k : Int) ∈ (mat a0 u v).map S154.Slot
    · rw [decide_eq_true hm]
      simp only [Bool.not_true, cond_false, s77_j4]
      exact start_run a0 u v rest (k + 1) w re (by omega) ⟨h.lr, fun n => by
        rw [h.t n]
        constructor
        · rintro ⟨g1, g2, g3⟩; exact ⟨by omega, g2, g3⟩
        · rintro ⟨g1, g2, g3⟩
          refine ⟨?_, g2, g3⟩
          by_cases e : n = k
          · subst e; exact absurd hm g3
          · omega, h.wm, h.c⟩
    · have hkf : re[k]? = some false := by
        rw [List.getElem?_eq_getElem hlk]
        cases hv : re[k]
        · rfl
        · exfalso
          have := (h.t k).1 (by rw [List.getElem?_eq_getElem hlk, hv])
          omega
      have e1 : Int.toNat ((k : Nat) : Int) = k := by omega
      rw [decide_eq_false hm]
      simp only [Bool.not_false, cond_true, ixO_nat hkf, bindO, s77_j4, e1]
      have hself : (re.set k true)[k]? = some true := by simp [hlk]
      have hc := cF_set hkf
      refine start_run a0 u v rest (k + 1) (w ++ [(k : Int)]) (re.set k true) (by omega) ⟨by rw [List.length_set]; exact h.lr, fun n => ?_, fun i => ?_, ?_⟩
      · constructor
        · intro hn
          rcases set_inv hn with rfl | hn
          · exact ⟨by omega, by omega, hm⟩
          · have := (h.t n).1 hn; exact ⟨by omega, this.2⟩
        · rintro ⟨g1, g2, g3⟩
          by_cases e : n = k
          · subst e; exact hself
          · exact set_true ((h.t n).2 ⟨by omega, g2, g3⟩)
      · rw [List.mem_append, h.wm, List.mem_singleton]
        constructor
        · rintro (⟨n, g1, g2⟩ | rfl)
          · exact ⟨n, g1, set_true g2⟩
          · exact ⟨k, rfl, hself⟩
        · rintro ⟨n, g1, g2⟩
          rcases set_inv g2 with rfl | g2
          · exact .inr g1
          · exact .inl ⟨n, g1, g2⟩
      · have := h.c
        simp; omega
theorem rep_not {n k : Nat} (h : (List.replicate n false)[k]? = some true) : False := by
  rw [List.getElem?_replicate] at h
  split at h <;> cases h
theorem rec_inj : ∀ {l : List S154} {a b : S154}, (l.map S154.Record).Nodup → a ∈ l → b ∈ l → a.Record = b.Record → a = b
  | [], _, _, _, h, _, _ => by cases h
  | e :: l, a, b, hn, ha, hb, h => by
    rw [List.map_cons, List.nodup_cons] at hn
    rcases List.mem_cons.1 ha with e1 | ha
    · rcases List.mem_cons.1 hb with e2 | hb
      · rw [e1, e2]
      · exact absurd (by rw [← e1, h]; exact List.mem_map_of_mem hb) hn.1
    · rcases List.mem_cons.1 hb with e2 | hb
      · exact absurd (by rw [← e2, ← h]; exact List.mem_map_of_mem ha) hn.1
      · exact rec_inj hn.2 ha hb h
theorem cF_rep (n : Nat) : cF (List.replicate n false) = n := by
  unfold cF; rw [List.countP_replicate]; simp
theorem asc_ok (l : List Int) (n : Int) (hl : l.length ≤ 100000) (hs : l.Pairwise (· < ·)) (hn : ∀ x ∈ l, 0 ≤ x ∧ x < n) : ∀ (rest : List Int) (k : Nat), l.drop k = rest → k + rest.length = l.length → s146_l1 l n rest k = some 0
  | [], k, _, _ => rfl
  | y :: rest, k, hd, hk => by
    rw [List.length_cons] at hk
    have hky : l[k]? = some y := by
      have : (l.drop k)[0]? = some y := by rw [hd]; rfl
      simpa using this
    have hd' : l.drop (k + 1) = rest := by
      have : l.drop (k + 1) = (l.drop k).drop 1 := by rw [List.drop_drop]
      rw [this, hd]; rfl
    obtain ⟨q, _, p2, p3⟩ := prev_eq (l := l) (k := k) (by omega) hl
    have hy := hn y (List.mem_of_getElem? hky)
    have hc : (decide (0 < ((k : Nat) : Int)) && decide (y ≤ q)) = false := by
      cases k with
      | zero => rfl
      | succ j =>
        have hq := p3 (by omega)
        have h1 : j < l.length := by omega
        have h2 : j + 1 < l.length := by omega
        have hlt := List.pairwise_iff_getElem.1 hs j (j + 1) h1 h2 (by omega)
        rw [List.getElem?_eq_getElem h2] at hky
        simp only [Nat.add_sub_cancel] at hq
        rw [List.getElem?_eq_getElem h1] at hq
        cases hky; cases hq
        rw [decide_eq_false (by omega : ¬ l[j + 1] ≤ l[j]), Bool.and_false]
    rw [s146_l1, p2, decide_eq_false (by omega), decide_eq_false (by omega)]
    simp only [bindO, Bool.or_self, cond_false, hc]
    exact asc_ok l n hl hs hn rest (k + 1) hd' (by omega)
theorem unc0_in (r2 : Nat → Option Int) (a0 : S23) (c : S139) (k : Nat) (y : S151) (v : List S151) (hc : ∀ (j : Nat) (z : S151), v[j]? = some z → s142 a0 y z = true → (k : Int) ∈ c.Slots ∨ (j : Int) ∈ c.Records) : ∀ (l : List S151) (j : Nat), v.drop j = l → s79_l2 r2 a0 c k y l j = r2 (k + 1)
  | [], j, _ => by rw [s79_l2]
  | z :: l, j, hd => by
    have hz : v[j]? = some z := by
      have : (v.drop j)[0]? = some z := by rw [hd]; rfl
      simpa using this
    have hd' : v.drop (j + 1) = l := by
      have : v.drop (j + 1) = (v.drop j).drop 1 := by rw [List.drop_drop]
      rw [this, hd]; rfl
    have h0 : (((s145 a0 y z) && (!(s80 c.Slots ((k : Nat) : Int)))) && (!(s80 c.Records ((j : Nat) : Int)))) = false := by
      rw [← s142_eq, s80_eq, s80_eq]
      cases hp : s142 a0 y z
      · rfl
      · rcases hc j z hz hp with h | h <;> simp [h]
    rw [s79_l2, h0, cond_false]
    exact unc0_in r2 a0 c k y v hc l (j + 1) hd'
theorem unc0 (a0 : S23) (u v : List S151) (c : S139) {M : List S154} (hM : s120 a0 u v = some M) (hs : IntKind.i64.wrap ((List.length c.Slots : Int) + (List.length c.Records : Int)) = (List.length M : Int))
    (hc : ∀ (i j : Nat) (y z : S151), u[i]? = some y → v[j]? = some z → s142 a0 y z = true → (i : Int) ∈ c.Slots ∨ (j : Int) ∈ c.Records) : ∀ (l : List S151) (k : Nat), u.drop k = l → s79_l1 a0 u v c l k = some 0
  | [], k, _ => by
    rw [s79_l1, hM]
    simp only [bindO]
    rw [decide_eq_false (by simpa using hs)]; rfl
  | y :: l, k, hd => by
    have hy : u[k]? = some y := by
      have : (u.drop k)[0]? = some y := by rw [hd]; rfl
      simpa using this
    have hd' : u.drop (k + 1) = l := by
      have : u.drop (k + 1) = (u.drop k).drop 1 := by rw [List.drop_drop]
      rw [this, hd]; rfl
    rw [s79_l1, unc0_in _ a0 c k y v (fun j z hz hp => hc k j y z hy hz hp) v 0 rfl]
    exact unc0 a0 u v c hM hs hc l (k + 1) hd'
theorem s120_mat (a0 : S23) (u v : List S151) : s120 a0 u v = some (mat a0 u v) := by
  obtain ⟨M, m1, m2, _⟩ := match_ok a0 u v
  rw [s115_eq] at m1
  rw [m2, Option.some.inj m1]
theorem same_len {a b : List Int} (ha : a.Nodup) (hb : b.Nodup) (h : ∀ x, x ∈ a ↔ x ∈ b) : a.length = b.length :=
  Nat.le_antisymm (nodup_sub_len ha fun x hx => (h x).1 hx) (nodup_sub_len hb fun x hx => (h x).2 hx)
theorem covered_ok {a0 : S23} {u v : List S151} (h : s113 a0 u v = 0) (hu : u.length ≤ 100) (hv : v.length ≤ 100) : ∃ c : S139, s77 a0 u v = some (c, 0) ∧ c.Slots.length + c.Records.length = (mat a0 u v).length ∧ c.Slots.length ≤ u.length ∧ c.Records.length ≤ v.length ∧
    (∀ (i j : Nat) (y z : S151), u[i]? = some y → v[j]? = some z → s142 a0 y z = true → (i : Int) ∈ c.Slots ∨ (j : Int) ∈ c.Records) ∧ s79 a0 u v c = some 0 := by
  obtain ⟨h1, h2, h3⟩ := s113_ok h
  have W := win_ok (v := v) h1 h2
  have st0 : ST a0 u v 0 [] (List.replicate u.length false) := ⟨by simp, fun n => ⟨fun hn => (rep_not hn).elim, fun g => absurd g.1 (Nat.not_lt_zero _)⟩, fun i => ⟨fun hi => (by cases hi), fun ⟨n, _, g⟩ => (rep_not g).elim⟩, by rw [cF_rep]; simp⟩
  obtain ⟨w, re, st, e1⟩ := start_run a0 u v u 0 [] (List.replicate u.length false) (by simp) st0
  have si0 : SI a0 u v w (List.replicate v.length false) re (fun _ => False) :=
    { lm := by simp
      lr := st.lr
      i2 := fun i hi => (st.wm i).1 hi
      i3 := fun n hn => by
        obtain ⟨_, g2, g3⟩ := (st.t n).1 hn
        exact rch_start W (ordI_mem.2 (mem_idxs.2 ⟨by omega, by simpa using g2⟩)) g3
      i4 := fun k hk => (rep_not hk).elim
      i5 := fun n hn => .inl ((st.wm _).2 ⟨n, rfl, hn⟩)
      i6 := fun n hn hs => (st.t n).2 ⟨hn, hn, hs⟩ }
  obtain ⟨met, re', si, e2⟩ := outer W (u.length + 1) w (List.replicate v.length false) re si0 (by have := st.c; omega)
  have hS : ∀ j, j ∈ pick false re' 0 ↔ ∃ n : Nat, j = (n : Int) ∧ re'[n]? = some false := fun j => by rw [mem_pick]; simp
  have hR : ∀ j, j ∈ pick true met 0 ↔ ∃ n : Nat, j = (n : Int) ∧ met[n]? = some true := fun j => by rw [mem_pick]; simp
  have hcov : ∀ (i j : Nat) (y z : S151), u[i]? = some y → v[j]? = some z → s142 a0 y z = true → (i : Int) ∈ pick false re' 0 ∨ (j : Int) ∈ pick true met 0 := by
    intro i j y z hy hz hp
    have hi : i < re'.length := by rw [si.lr]; exact (List.getElem?_eq_some_iff.1 hy).1
    cases hv' : re'[i]
    · exact .inl ((hS _).2 ⟨i, rfl, by rw [List.getElem?_eq_getElem hi, hv']⟩)
    · right
      have hok : okI a0 u v (i : Int) (j : Int) = true := by rw [okI_of (by simpa using hy) (by simpa using hz)]; exact hp
      rcases si.i5 i (by rw [List.getElem?_eq_getElem hi, hv']) with g | g | g
      · cases g
      · exact (hR _).2 ⟨j, rfl, g j (List.getElem?_eq_some_iff.1 hz).1 hok⟩
      · exact g.elim
  have hlen : (pick false re' 0).length + (pick true met 0).length = (mat a0 u v).length := by
    have hp : ∀ e ∈ mat a0 u v, ∃ i j : Nat, e.Slot = (i : Int) ∧ e.Record = (j : Int) ∧ i < u.length ∧ j < v.length := fun e he => by
      obtain ⟨g1, g2⟩ := mem_idxs.1 (mat_slot he)
      obtain ⟨g3, g4⟩ := mem_idxs.1 (mat_rec he)
      exact ⟨e.Slot.toNat, e.Record.toNat, by omega, by omega, g2, g4⟩
    rw [filter_len (fun e => decide (e.Record ∈ pick true met 0)) (mat a0 u v)]
    have r1 : (pick true met 0).length = ((mat a0 u v).filter (fun e => decide (e.Record ∈ pick true met 0))).length := by
      rw [← List.length_map (f := S154.Record)]
      refine same_len ((pick_sorted true met 0).imp fun h => by omega) ((mat_recs a0 u v).sublist (List.filter_sublist.map _)) fun x => ?_
      constructor
      · intro hx
        obtain ⟨n, rfl, hn⟩ := (hR x).1 hx
        obtain ⟨o, ho, _⟩ := si.i4 n hn
        exact List.mem_map.2 ⟨_, List.mem_filter.2 ⟨ho, by simpa using hx⟩, rfl⟩
      · intro hx
        obtain ⟨e, he, rfl⟩ := List.mem_map.1 hx
        simpa using (List.mem_filter.1 he).2
    have r2 : (pick false re' 0).length = ((mat a0 u v).filter (fun e => !decide (e.Record ∈ pick true met 0))).length := by
      rw [← List.length_map (f := S154.Slot)]
      refine same_len ((pick_sorted false re' 0).imp fun h => by omega) ((mat_slots a0 u v).sublist (List.filter_sublist.map _)) fun x => ?_
      constructor
      · intro hx
        obtain ⟨n, rfl, hn⟩ := (hS x).1 hx
        have hnu : n < u.length := by rw [← si.lr]; exact (List.getElem?_eq_some_iff.1 hn).1
        have hmem : (n : Int) ∈ (mat a0 u v).map S154.Slot := Decidable.byContradiction fun hc => by
          have := si.i6 n hnu hc
          rw [hn] at this; cases this
        obtain ⟨e, he, hs⟩ := List.mem_map.1 hmem
        obtain ⟨i, j, g1, g2, g3, g4⟩ := hp e he
        refine List.mem_map.2 ⟨e, List.mem_filter.2 ⟨he, ?_⟩, hs⟩
        simp only [Bool.not_eq_true', decide_eq_false_iff_not]
        intro hr
        obtain ⟨k, hk, hkm⟩ := (hR _).1 hr
        obtain ⟨o, ho, hor⟩ := si.i4 k hkm
        have heq : e = ⟨(o : Int), (k : Int)⟩ := rec_inj (mat_recs a0 u v) he ho hk
        rw [heq] at hs
        have : o = n := by simp only at hs; omega
        subst this
        rw [hn] at hor; cases hor
      · intro hx
        obtain ⟨e, he, rfl⟩ := List.mem_map.1 hx
        obtain ⟨he1, he2⟩ := List.mem_filter.1 he
        simp only [Bool.not_eq_true', decide_eq_false_iff_not] at he2
        obtain ⟨i, j, g1, g2, g3, g4⟩ := hp e he1
        have hok := (gm_ok _ _ e he1).1
        have hi : i < re'.length := by rw [si.lr]; exact g3
        cases hv' : re'[i]
        · rw [g1]; exact (hS _).2 ⟨i, rfl, by rw [List.getElem?_eq_getElem hi, hv']⟩
        · exfalso
          rcases si.i5 i (by rw [List.getElem?_eq_getElem hi, hv']) with g | g | g
          · cases g
          · refine he2 (by rw [g2]; exact (hR _).2 ⟨j, rfl, g j g4 (by rw [← g1, ← g2]; exact hok)⟩)
          · exact g
    omega
  have hSb : ∀ x ∈ pick false re' 0, 0 ≤ x ∧ x < (u.length : Int) := fun x hx => by
    obtain ⟨n, rfl, hn⟩ := (hS x).1 hx
    have := (List.getElem?_eq_some_iff.1 hn).1
    rw [si.lr] at this
    omega
  have hRb : ∀ x ∈ pick true met 0, 0 ≤ x ∧ x < (v.length : Int) := fun x hx => by
    obtain ⟨n, rfl, hn⟩ := (hR x).1 hx
    have := (List.getElem?_eq_some_iff.1 hn).1
    rw [si.lm] at this
    omega
  have hSl : (pick false re' 0).length ≤ u.length := by
    have := nodup_sub_len ((pick_sorted false re' 0).imp fun h => by omega) (b := idxs u.length) fun x hx => mem_idxs.2 (by have := hSb x hx; omega)
    rwa [idxs_len] at this
  have hRl : (pick true met 0).length ≤ v.length := by
    have := nodup_sub_len ((pick_sorted true met 0).imp fun h => by omega) (b := idxs v.length) fun x hx => mem_idxs.2 (by have := hRb x hx; omega)
    rwa [idxs_len] at this
  refine ⟨⟨pick false re' 0, pick true met 0⟩, ?_, hlen, hSl, hRl, hcov, ?_⟩
  · unfold s77
    rw [decide_eq_false (by simpa using h), cond_false, s115_eq]
    simp only [bindO]
    rw [s77_maps, e1, e2, l4_run]
    rfl
  · unfold s79
    rw [show s146 (pick false re' 0) (List.length u : Int) = some 0 from asc_ok _ _ (by omega) (pick_sorted false re' 0) hSb _ 0 rfl (by simp),
      show s146 (pick true met 0) (List.length v : Int) = some 0 from asc_ok _ _ (by omega) (pick_sorted true met 0) hRb _ 0 rfl (by simp)]
    simp only [bindO]
    rw [show decide (s89 [0, 0] ≠ 0) = false from rfl, cond_false]
    refine unc0 a0 u v _ (s120_mat a0 u v) ?_ hcov u 0 rfl
    show IntKind.i64.wrap ((List.length (pick false re' 0) : Int) + (List.length (pick true met 0) : Int)) = _
    rw [wrap_i64 ⟨by omega, by omega⟩]; omega
theorem s78_some (a0 : S23) (a1 a2 : List S151) (a3 : List S154) (hl : a3.length ≤ 100000) : ∀ (rest : List S154) (k : Nat), k + rest.length = a3.length → ∃ r, s78_l1 a0 a1 a2 a3 rest k = some r
  | [], k, _ => ⟨0, rfl⟩
  | y :: rest, k, hk => by
    rw [List.length_cons] at hk
    obtain ⟨q, _, p2, _⟩ := prev_eq (l := a3) (k := k) (by omega) hl
    obtain ⟨r, hr⟩ := s78_some a0 a1 a2 a3 hl rest (k + 1) (by omega)
    have hin := s78_in (fun k_ => s78_l1 a0 a1 a2 a3 rest k_) a0 a1 a2 a3 k y k 0 (by omega)
    have e0 : ((((k : Nat) : Int) - 0).toNat) = k := by omega
    have e1 : ((0 : Nat) : Int) = 0 := rfl
    rw [e1] at hin
    rw [s78_l1, p2, e0, hin]
    simp only [bindO]
    cases hAB : ((((decide (y.Slot < 0)) || (decide ((List.length a1 : Int) ≤ y.Slot))) || (decide (y.Record < 0))) || (decide ((List.length a2 : Int) ≤ y.Record)))
    · simp only [cond_false]
      cases (decide (0 < ((k : Nat) : Int)) && decide (y.Slot ≤ q.Slot))
      · simp only [cond_false]
        cases decide (y.Record ∈ ((a3.drop 0).take k).map S154.Record)
        · simp only [cond_false]
          simp only [Bool.or_eq_false_iff, decide_eq_false_iff_not] at hAB
          have i1 := ixO_in (l := a1) (i := y.Slot) (by omega) (by omega)
          have i2 := ixO_in (l := a2) (i := y.Record) (by omega) (by omega)
          rw [s78_l2, i1, i2]
          simp only [bindO]
          cases s145 a0 a1[y.Slot.toNat] a2[y.Record.toNat]
          · exact ⟨_, rfl⟩
          · exact ⟨r, by simpa using hr⟩
        · exact ⟨_, rfl⟩
      · exact ⟨_, rfl⟩
    · exact ⟨_, rfl⟩
end Go.Sim

set_option linter.unusedSimpArgs false
namespace Go.Sim
/-! ## UseGreatest: what is accepted, and how many -/
/-- pairs that may be made together -/
structure Acc (a0 : S23) (u v : List S151) (L : List S154) : Prop where
  s : (L.map S154.Slot).Nodup
  r : (L.map S154.Record).Nodup
  i : ∀ e ∈ L, e.Slot ∈ idxs u.length ∧ e.Record ∈ idxs v.length ∧ okI a0 u v e.Slot e.Record = true
theorem mat_acc (a0 : S23) (u v : List S151) : Acc a0 u v (mat a0 u v) := ⟨mat_slots a0 u v, mat_recs a0 u v, fun e he => ⟨mat_slot he, mat_rec he, (gm_ok _ _ e he).1⟩⟩
theorem acc_le {a0 : S23} {u v : List S151} {L : List S154} (h : s113 a0 u v = 0) (hu : u.length ≤ 100) (hv : v.length ≤ 100) (ha : Acc a0 u v L) : L.length ≤ (mat a0 u v).length := by
  obtain ⟨c, _, c2, _, _, c5, _⟩ := covered_ok h hu hv
  rw [← c2]
  refine cover_le ha.s ha.r fun e he => ?_
  obtain ⟨h1, h2, h3⟩ := ha.i e he
  obtain ⟨y, _, hy⟩ := ixO_idx h1
  obtain ⟨z, _, hz⟩ := ixO_idx h2
  rw [okI_of hy hz] at h3
  have g1 := (mem_idxs.1 h1).1
  have g2 := (mem_idxs.1 h2).1
  have := c5 e.Slot.toNat e.Record.toNat y z hy hz h3
  rwa [show ((e.Slot.toNat : Nat) : Int) = e.Slot by omega, show ((e.Record.toNat : Nat) : Int) = e.Record by omega] at this
theorem s145_ok {a0 : S23} {u v : List S151} {y : S154} (h1 : 0 ≤ y.Slot ∧ y.Slot.toNat < u.length) (h2 : 0 ≤ y.Record ∧ y.Record.toNat < v.length) : okI a0 u v y.Slot y.Record = s145 a0 u[y.Slot.toNat] v[y.Record.toNat] := by
  rw [okI_of (List.getElem?_eq_getElem h1.2) (List.getElem?_eq_getElem h2.2), s142_eq]
/-- one step of CheckMatches -/
theorem s78_step (a0 : S23) (u v : List S151) (L : List S154) (hl : L.length ≤ 100000) {y : S154} {rest : List S154} {k : Nat} (hk : k + (rest.length + 1) = L.length) {q : S154} (hq : (bif decide (0 < ((k : Nat) : Int)) then ixO L (IntKind.i64.wrap (((k : Nat) : Int) - 1)) else some default) = some q) :
    s78_l1 a0 u v L (y :: rest) k = some 0 ↔ (((0 ≤ y.Slot ∧ y.Slot.toNat < u.length) ∧ (0 ≤ y.Record ∧ y.Record.toNat < v.length)) ∧ (0 < k → q.Slot < y.Slot) ∧ y.Record ∉ (L.take k).map S154.Record ∧ okI a0 u v y.Slot y.Record = true) ∧ s78_l1 a0 u v L rest (k + 1) = some 0 := by
  have hin := s78_in (fun k_ => s78_l1 a0 u v L rest k_) a0 u v L k y k 0 (by omega)
  have e0 : ((((k : Nat) : Int) - 0).toNat) = k := by omega
  have e1 : ((0 : Nat) : Int) = 0 := rfl
  rw [e1] at hin
  rw [s78_l1, hq, e0, hin, List.drop_zero]
  simp only [bindO]
  by_cases hr : (0 ≤ y.Slot ∧ y.Slot.toNat < u.length) ∧ (0 ≤ y.Record ∧ y.Record.toNat < v.length)
  · have hA : ((((decide (y.Slot < 0)) || (decide ((List.length u : Int) ≤ y.Slot))) || (decide (y.Record < 0))) || (decide ((List.length v : Int) ≤ y.Record))) = false := by
      simp only [Bool.or_eq_false_iff, decide_eq_false_iff_not]; omega
    rw [hA, cond_false]
    by_cases hc : 0 < k → q.Slot < y.Slot
    · have hC : (decide (0 < ((k : Nat) : Int)) && decide (y.Slot ≤ q.Slot)) = false := by
        rw [Bool.and_eq_false_iff, decide_eq_false_iff_not, decide_eq_false_iff_not]; omega
      rw [hC, cond_false]
      by_cases hd : y.Record ∈ (L.take k).map S154.Record
      · rw [decide_eq_true hd, cond_true]
        constructor
        · intro h; cases h
        · rintro ⟨⟨_, _, g, _⟩, _⟩; exact absurd hd g
      · rw [decide_eq_false hd, cond_false, s78_l2, ixO_in hr.1.1 hr.1.2, ixO_in hr.2.1 hr.2.2]
        simp only [bindO]
        rw [← s145_ok hr.1 hr.2]
        cases ho : okI a0 u v y.Slot y.Record
        · simp
        · simp only [Bool.not_true, cond_false]
          exact ⟨fun h => ⟨⟨hr, hc, hd, trivial⟩, h⟩, fun h => h.2⟩
    · have hC : (decide (0 < ((k : Nat) : Int)) && decide (y.Slot ≤ q.Slot)) = true := by
        rw [Bool.and_eq_true, decide_eq_true_eq, decide_eq_true_eq]; omega
      rw [hC, cond_true]
      constructor
      · intro h; cases h
      · rintro ⟨⟨_, g, _⟩, _⟩; exact absurd g hc
  · have hA : ((((decide (y.Slot < 0)) || (decide ((List.length u : Int) ≤ y.Slot))) || (decide (y.Record < 0))) || (decide ((List.length v : Int) ≤ y.Record))) = true := by
      simp only [Bool.or_eq_true, decide_eq_true_eq]; omega
    rw [hA, cond_true]
    constructor
    · intro h; cases h
    · rintro ⟨⟨g, _⟩, _⟩; exact absurd g hr
theorem drop_at {α : Type} {l : List α} {k : Nat} {y : α} {rest : List α} (hd : l.drop k = y :: rest) : l[k]? = some y ∧ l.drop (k + 1) = rest := by
  constructor
  · have : (l.drop k)[0]? = some y := by rw [hd]; rfl
    simpa using this
  · have : l.drop (k + 1) = (l.drop k).drop 1 := by rw [List.drop_drop]
    rw [this, hd]; rfl
theorem acc_fwd {a0 : S23} {u v : List S151} {L : List S154} (hl : L.length ≤ 100000) (ha : Acc a0 u v L) (hs : L.Pairwise (fun x y => x.Slot < y.Slot)) : ∀ (rest : List S154) (k : Nat), L.drop k = rest → k + rest.length = L.length → s78_l1 a0 u v L rest k = some 0
  | [], k, _, _ => by rw [s78_l1]
  | y :: rest, k, hd, hk => by
    obtain ⟨hy, hd'⟩ := drop_at hd
    rw [List.length_cons] at hk
    obtain ⟨q, _, p2, p3⟩ := prev_eq (l := L) (k := k) (by omega) hl
    obtain ⟨h1, h2, h3⟩ := ha.i y (List.mem_of_getElem? hy)
    refine (s78_step a0 u v L hl hk p2).2 ⟨⟨⟨mem_idxs.1 h1, mem_idxs.1 h2⟩, fun h0 => ?_, ?_, h3⟩, acc_fwd hl ha hs rest (k + 1) hd' (by omega)⟩
    · have hq := p3 h0
      obtain ⟨g1, g2⟩ := List.getElem?_eq_some_iff.1 hq
      obtain ⟨g3, g4⟩ := List.getElem?_eq_some_iff.1 hy
      have := List.pairwise_iff_getElem.1 hs (k - 1) k g1 g3 (by omega)
      rwa [g2, g4] at this
    · intro hmem
      obtain ⟨e, he, her⟩ := List.mem_map.1 hmem
      obtain ⟨j, hj, hje⟩ := List.mem_iff_getElem.1 he
      rw [List.length_take] at hj
      rw [List.getElem_take] at hje
      obtain ⟨g3, g4⟩ := List.getElem?_eq_some_iff.1 hy
      have hn : L.Pairwise (fun a b => a.Record ≠ b.Record) := List.pairwise_map.1 ha.r
      have := List.pairwise_iff_getElem.1 hn j k (by omega) g3 (by omega)
      rw [hje, g4] at this
      exact this her
theorem acc_bwd {a0 : S23} {u v : List S151} {L : List S154} (hl : L.length ≤ 100000) : ∀ (rest : List S154) (k : Nat), L.drop k = rest → k + rest.length = L.length → Acc a0 u v (L.take k) → (L.take k).Pairwise (fun x y => x.Slot < y.Slot) → s78_l1 a0 u v L rest k = some 0 → Acc a0 u v L
  | [], k, _, hk, ha, _, _ => by
    have : k = L.length := by simpa using hk
    rwa [this, List.take_length] at ha
  | y :: rest, k, hd, hk, ha, hs, h => by
    obtain ⟨hy, hd'⟩ := drop_at hd
    rw [List.length_cons] at hk
    obtain ⟨q, _, p2, p3⟩ := prev_eq (l := L) (k := k) (by omega) hl
    obtain ⟨⟨⟨g1, g2⟩, g3, g4, g5⟩, g6⟩ := (s78_step a0 u v L hl hk p2).1 h
    have ht : L.take (k + 1) = L.take k ++ [y] := by rw [List.take_succ, hy]; rfl
    have hlt : ∀ x ∈ L.take k, x.Slot < y.Slot := by
      intro x hx
      obtain ⟨j, hj, hje⟩ := List.mem_iff_getElem.1 hx
      rw [List.length_take] at hj
      rw [List.getElem_take] at hje
      have h0 : 0 < k := by omega
      have hq := p3 h0
      have hqy := g3 h0
      obtain ⟨b1, b2⟩ := List.getElem?_eq_some_iff.1 hq
      by_cases hjk : j = k - 1
      · subst hjk
        have : x = q := by rw [← hje, ← b2]
        rw [this]; exact hqy
      · have := List.pairwise_iff_getElem.1 hs j (k - 1) (by rw [List.length_take]; omega) (by rw [List.length_take]; omega) (by omega)
        rw [List.getElem_take, List.getElem_take, hje, b2] at this
        omega
    refine acc_bwd hl rest (k + 1) hd' (by omega) ?_ ?_ g6
    · rw [ht]
      refine ⟨?_, ?_, ?_⟩
      · rw [List.map_append, List.nodup_append]
        refine ⟨ha.s, by simp, fun a h1 b h2 => ?_⟩
        obtain ⟨x, hx, rfl⟩ := List.mem_map.1 h1
        have := hlt x hx
        simp at h2
        omega
      · rw [List.map_append, List.nodup_append]
        refine ⟨ha.r, by simp, fun a h1 b h2 => ?_⟩
        simp at h2
        rw [h2]
        intro e
        exact g4 (e ▸ h1)
      · intro e he
        rcases List.mem_append.1 he with he | he
        · exact ha.i e he
        · rw [List.mem_singleton.1 he]
          exact ⟨mem_idxs.2 g1, mem_idxs.2 g2, g5⟩
    · rw [ht, List.pairwise_append]
      exact ⟨hs, by simp, fun a h1 b h2 => by rw [List.mem_singleton.1 h2]; exact hlt a h1⟩
/-! ### the sorted matches, and the rest -/
theorem buck_len {M : List S154} {n : Nat} (hM : (M.map S154.Slot).Nodup) (hs : ∀ e ∈ M, e.Slot ∈ idxs n) : (buck M n 0).length = M.length := len114 (sort_ok hM hs)
theorem nodup_of_lt {l : List S154} (h : l.Pairwise (fun x y => x.Slot < y.Slot)) : (l.map S154.Slot).Nodup := by
  rw [List.nodup_iff_pairwise_ne, List.pairwise_map]
  exact h.imp fun h => by omega
theorem inj_nodup {M L : List S154} (hr : (M.map S154.Record).Nodup) (hl : L.Nodup) (hs : ∀ e ∈ L, e ∈ M) : (L.map S154.Record).Nodup := by
  rw [List.nodup_iff_pairwise_ne, List.pairwise_map]
  refine List.Pairwise.imp_of_mem ?_ hl
  intro a b ha hb hab h
  exact hab (rec_inj hr (hs a ha) (hs b hb) h)
theorem buck_acc {a0 : S23} {u v : List S151} {M : List S154} (h : Acc a0 u v M) : Acc a0 u v (buck M u.length 0) ∧ (buck M u.length 0).Pairwise (fun x y => x.Slot < y.Slot) := by
  have hs := buck_sorted h.s u.length 0
  have hm : ∀ e ∈ buck M u.length 0, e ∈ M := fun e he => (mem_buck.1 he).1
  exact ⟨⟨nodup_of_lt hs, inj_nodup h.r (by rw [List.nodup_iff_pairwise_ne]; exact hs.imp fun h e => by rw [e] at h; omega) hm, fun e he => h.i e (hm e he)⟩, hs⟩
def restF (l : List Int) : Nat → Nat → List Int
  | 0, _ => []
  | n + 1, k => bif decide ((k : Int) ∈ l) then restF l n (k + 1) else (k : Int) :: restF l n (k + 1)
theorem s116_rest (l : List Int) : ∀ (n k : Nat) (x : List Int), s116_l1 l n x (k : Int) = x ++ restF l n k
  | 0, k, x => by simp [s116_l1, restF]
  | n + 1, k, x => by
    rw [s116_l1, restF, s144_eq]
    have e : ((k : Nat) : Int) + 1 = ((k + 1 : Nat) : Int) := by omega
    cases h : decide ((k : Int) ∈ l)
    · simp only [Bool.not_false, cond_true, s116_j1, cond_false]; rw [e, s116_rest l n]; simp
    · simp only [Bool.not_true, cond_false, s116_j1, cond_true]; rw [e, s116_rest l n]
theorem restF_len (l : List Int) : ∀ (n k : Nat), (restF l n k).length + ((List.range' k n).filter (fun i : Nat => decide ((i : Int) ∈ l))).length = n
  | 0, k => by simp [restF]
  | n + 1, k => by
    have ih := restF_len l n (k + 1)
    rw [restF, List.range'_succ, List.filter_cons]
    by_cases h : ((k : Nat) : Int) ∈ l
    · rw [decide_eq_true h, cond_true, if_pos rfl, List.length_cons]; omega
    · rw [decide_eq_false h, cond_false, if_neg (by decide), List.length_cons]; omega
theorem s116_len {l : List Int} {n : Nat} (hn : l.Nodup) (hs : ∀ x ∈ l, x ∈ idxs n) : (s116 (n : Int) l).length + l.length = n := by
  have e : ((n : Int) - 0).toNat = n := by omega
  have h1 := s116_rest l n 0 []
  have h2 := restF_len l n 0
  have e0 : ((0 : Nat) : Int) = 0 := rfl
  rw [e0] at h1
  unfold s116
  rw [e, h1, List.nil_append]
  have h3 : ((List.range' 0 n).filter (fun i : Nat => decide ((i : Int) ∈ l))).length = l.length := by
    rw [← List.length_map (f := fun i : Nat => (i : Int))]
    refine same_len ?_ hn fun x => ?_
    · rw [List.nodup_iff_pairwise_ne, List.pairwise_map]
      have : (List.range' 0 n).Nodup := by rw [← List.range_eq_range']; exact List.nodup_range
      exact ((List.nodup_iff_pairwise_ne.1 this).filter _).imp fun h e => h (by omega)
    · constructor
      · intro hx
        obtain ⟨i, hi, rfl⟩ := List.mem_map.1 hx
        simpa using (List.mem_filter.1 hi).2
      · intro hx
        obtain ⟨g1, g2⟩ := mem_idxs.1 (hs x hx)
        exact List.mem_map.2 ⟨x.toNat, List.mem_filter.2 ⟨by rw [← List.range_eq_range']; exact List.mem_range.2 g2, by rw [show ((x.toNat : Nat) : Int) = x by omega]; simpa using hx⟩, by omega⟩
  omega
end Go.Sim

namespace Go.Sim
/-! ## the bytes of a slice in a field of an argument -/
theorem take_one {α : Type} {l : List α} {o : Nat} {x : α} (h : l[o]? = some x) : (l.drop o).take 1 = [x] := by
  have hlt := (List.getElem?_eq_some_iff.1 h).1
  rw [List.drop_eq_getElem_cons hlt]
  rw [List.getElem?_eq_getElem hlt] at h
  cases h
  rfl
theorem fits_two {w : World} {M : Nat → Prop} {g0 g1 : G} {gs : List G} : ∀ {cs : List Value}, Fits w M (g0 :: g1 :: gs) cs → ∃ c0 c1 cr, cs = c0 :: c1 :: cr ∧ g0.p w M c0 ∧ g1.p w M c1
  | c0 :: c1 :: cr, h => ⟨c0, c1, cr, rfl, h.1.1, h.2.1.1⟩
  | [_], h => h.2.elim
  | [], h => h.elim
theorem sized_field {H : Type} {enc : TypeId × Value → H} {P : Program} {w : World} {base : Nat} {spare : Nat → Bool} {held : Bool} {t : TypeId} {fs : Array Field} {cs : Array Value} {d : DataW H} {p : List MemPlace} (hs : P.underlying t = some (.struct fs)) (h : DataW.Trod enc P w base spare held t (.agg cs) d p)
    {ts : List TypeId} {ds : List (DataW H)} (hsz : (DataW.weightsEach P ts ds).all (· ≤ reachBytes) = true) {j : Nat} (ht : ts[j]? = some t) (hd : ds[j]? = some d) {i : Nat} {f : Field} {e : TypeId} (hi : fs[i]? = some f) (hsl : P.underlying f.type = some (.slice e)) (hc1 : P.cellsOf f.type = 1)
    {a : Option Addr} {n cap : Nat} (hc : cs.toList[f.offset]? = some (.slice a n cap)) : n * P.bytesOf e ≤ reachBytes := by
  obtain ⟨fuel, hf⟩ := h
  obtain ⟨xs, m, _, hx, _, hlen, hff⟩ := DataW.trod_struct hs hf
  have h1 := hff i f hi
  have hlt : i < xs.length := by rw [hlen]; exact (Array.getElem?_eq_some_iff.1 hi).1
  have hcells : (Value.agg cs).cells.toList = cs.toList := rfl
  rw [hc1, hcells, take_one hc, List.getElem?_eq_getElem hlt] at h1
  rcases DataW.trod_slice hsl h1 with ⟨g1, _⟩ | ⟨a', len, cap', elems, rest, n', _, g1, g2, _, _, _, g3, _⟩
  · cases g1; simp
  · cases g1
    simp only [Prod.mk.injEq] at hx
    obtain ⟨rfl, _⟩ := hx
    have w1 : (elems.length + rest.length) * P.bytesOf e ∈ DataW.weights P f.type (xs[i]).1 := by
      rw [g2]
      simp [DataW.weights, hsl]
    have w2 : (elems.length + rest.length) * P.bytesOf e ∈ DataW.weights P t (.agg (xs.map (·.1))) := by
      have hfi : (fs.toList.map (·.type))[i]? = some f.type := by rw [List.getElem?_map, Array.getElem?_toList, hi]; rfl
      have hxi : (xs.map (·.1))[i]? = some (xs[i]).1 := by rw [List.getElem?_map, List.getElem?_eq_getElem hlt]; rfl
      have := DataW.weights_mem_each hfi hxi _ w1
      simpa [DataW.weights, hs] using this
    have := List.all_eq_true.1 hsz _ (DataW.weights_mem_each ht hd _ w2)
    have h3 : (elems.length + rest.length) * P.bytesOf e ≤ reachBytes := by simpa using this
    refine Nat.le_trans (Nat.mul_le_mul_right _ ?_) h3
    omega
end Go.Sim

