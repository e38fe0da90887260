/-
  What is proved: UseGreatest: its law: it is true of every rule and all pairings.
-/
import Derived.Test.YtdfgeoefbbkcnaaGreatDoorVsM2
import Derived.Test.YtdfgeoefbbkcnaaGreatDoorVsM1
set_option linter.unusedSectionVars false
set_option linter.unusedSimpArgs false
set_option linter.unusedVariables false
set_option linter.unnecessarySimpa false
set_option linter.deprecated false
set_option linter.unusedSimpArgs false
namespace Go.Sim
/-! ## UseGreatest: the law -/
theorem s84_zeroG : ∀ {l : List Int}, (∀ x ∈ l, x = 0) → s84 l = 0 := by
  intro l h
  have key : ∀ (l : List Int) (k : Nat), (∀ x ∈ l, x = 0) → s84_l1 l k = 0 := by
    intro l
    induction l with
    | nil => intro k _; rfl
    | cons y l ih =>
      intro k h
      rw [s84_l1, decide_eq_false (by simpa using h y List.mem_cons_self), cond_false]
      exact ih _ fun x hx => h x (List.mem_cons_of_mem _ hx)
  exact key l 0 h
theorem s113_mk {a0 : S23} {u v : List S151} (h1 : s23 a0 = 0) (h2 : s25 u = 0) (h3 : s25 v = 0) : s113 a0 u v = 0 := by
  unfold s113
  refine s84_zeroG fun x hx => ?_
  simp only [List.mem_cons, List.not_mem_nil, or_false] at hx
  rcases hx with rfl | rfl | rfl
  · exact h1
  · exact h2
  · exact h3
theorem s25_sub {l l' : List S151} (h : s25 l = 0) (hs : ∀ x ∈ l', x ∈ l) (hl : l'.length ≤ 512) : s25 l' = 0 := by
  have h1 := s25_len h
  unfold s25 at h ⊢
  rw [decide_eq_false (by omega), cond_false, s93_map] at h ⊢
  refine s84_zeroG fun x hx => ?_
  obtain ⟨n, hn, rfl⟩ := List.mem_map.1 hx
  exact s84_all h _ (List.mem_map_of_mem (hs n hn))
theorem s85_mk {a b c : Int} (h : b ≤ a ∧ a ≤ c) : s85 a b c = 0 := by
  unfold s85 s86
  rw [decide_eq_false (by omega), decide_eq_false (by omega)]; rfl
theorem s23_l1_tol (a : S23) (b c : Int) : ∀ (l : List ByteArray) (k : Nat), s23_l1 (S23.mk b c a.Notice a.Share a.Causes a.Off a.Run) l k = s23_l1 a l k
  | [], k => rfl
  | y :: l, k => by rw [s23_l1, s23_l1, s23_l1_tol a b c l]
theorem s23_mk {a : S23} (h : s23 a = 0) {b c : Int} (hb : 0 ≤ b ∧ b ≤ 720) (hc : 0 ≤ c ∧ c ≤ 720) : s23 (S23.mk b c a.Notice a.Share a.Causes a.Off a.Run) = 0 := by
  unfold s23 at h ⊢
  cases hq : decide ((s84 [(s85 a.Before 0 720), (s85 a.After 0 720), (s85 a.Notice 0 365), (s85 a.Share 1 100), (s86 (decide (16 < (List.length a.Causes : Int))) 5)]) ≠ 0)
  · have h0 : s84 [(s85 a.Before 0 720), (s85 a.After 0 720), (s85 a.Notice 0 365), (s85 a.Share 1 100), (s86 (decide (16 < (List.length a.Causes : Int))) 5)] = 0 := by simpa using hq
    rw [hq, cond_false] at h
    have hA := s84_all h0
    have h1 : s84 [(s85 b 0 720), (s85 c 0 720), (s85 a.Notice 0 365), (s85 a.Share 1 100), (s86 (decide (16 < (List.length a.Causes : Int))) 5)] = 0 := by
      refine s84_zeroG fun x hx => ?_
      simp only [List.mem_cons, List.not_mem_nil, or_false] at hx
      rcases hx with rfl | rfl | rfl | rfl | rfl
      · exact s85_mk hb
      · exact s85_mk hc
      · exact hA _ (by simp)
      · exact hA _ (by simp)
      · exact hA _ (by simp)
    show (bif decide (s84 [(s85 b 0 720), (s85 c 0 720), (s85 a.Notice 0 365), (s85 a.Share 1 100), (s86 (decide (16 < (List.length a.Causes : Int))) 5)] ≠ 0) then _ else s23_l1 (S23.mk b c a.Notice a.Share a.Causes a.Off a.Run) a.Causes 0) = 0
    rw [decide_eq_false (by simpa using h1), cond_false, s23_l1_tol]
    exact h
  · rw [hq, cond_true] at h
    exact absurd h (of_decide_eq_true hq)
theorem acc_mono {a0 a0' : S23} {u v : List S151} {L : List S154} (h : s23 a0 = 0) (h' : s23 a0' = 0) (hu : s25 u = 0) (hb : a0.Before ≤ a0'.Before) (hc : a0.After ≤ a0'.After) (ha : Acc a0 u v L) : Acc a0' u v L :=
  ⟨ha.s, ha.r, fun e he => by
    obtain ⟨h1, h2, h3⟩ := ha.i e he
    obtain ⟨y, _, hy⟩ := ixO_idx h1
    obtain ⟨z, _, hz⟩ := ixO_idx h2
    rw [okI_of hy hz] at h3
    refine ⟨h1, h2, ?_⟩
    rw [okI_of hy hz]
    have hm := s25_mom hu (List.mem_of_getElem? hy)
    obtain ⟨g1, g2, g3⟩ := (s142_iff h hm).1 h3
    exact (s142_iff h' hm).2 ⟨g1, by omega, by omega⟩⟩
theorem acc_rev {a0 : S23} {u v : List S151} {L : List S154} (ha : Acc a0 u v L) : Acc a0 u.reverse v (L.map fun e => S154.mk ((u.length : Int) - 1 - e.Slot) e.Record) where
  s := by
    rw [List.map_map, List.nodup_iff_pairwise_ne, List.pairwise_map]
    exact (List.pairwise_map.1 (List.nodup_iff_pairwise_ne.1 ha.s)).imp fun h => by
      simp only [Function.comp]; omega
  r := by rw [List.map_map]; exact ha.r
  i := fun e he => by
    obtain ⟨x, hx, rfl⟩ := List.mem_map.1 he
    obtain ⟨h1, h2, h3⟩ := ha.i x hx
    obtain ⟨g1, g2⟩ := mem_idxs.1 h1
    refine ⟨mem_idxs.2 ⟨by simp only; omega, by simp only [List.length_reverse]; omega⟩, h2, ?_⟩
    show okI a0 u.reverse v ((u.length : Int) - 1 - x.Slot) x.Record = true
    have e1 : u.reverse[((u.length : Int) - 1 - x.Slot).toNat]? = u[x.Slot.toNat]? := by
      rw [List.getElem?_reverse (by omega)]; congr 1; omega
    unfold okI at h3 ⊢
    rw [e1]; exact h3
theorem mat_len (a0 : S23) (u v : List S151) : (mat a0 u v).length ≤ u.length := by
  have := nodup_sub_len (mat_slots a0 u v) (b := idxs u.length) fun x hx => by
    obtain ⟨e, he, rfl⟩ := List.mem_map.1 hx
    exact mat_slot he
  rwa [idxs_len, List.length_map] at this
theorem rev_len {a0 : S23} {u v : List S151} (h : s113 a0 u v = 0) (h' : s113 a0 u.reverse v = 0) (hu : u.length ≤ 100) (hv : v.length ≤ 100) : (mat a0 u.reverse v).length = (mat a0 u v).length := by
  have h1 := acc_rev (mat_acc a0 u v)
  have h2 := acc_rev (mat_acc a0 u.reverse v)
  rw [List.reverse_reverse] at h2
  have g1 := acc_le h' (by rw [List.length_reverse]; exact hu) hv h1
  have g2 := acc_le h hu hv h2
  rw [List.length_map] at g1 g2
  omega
theorem e44 {a0 : S23} {u v : List S151} (h : s113 a0 u v = 0) : s44 a0 u v = some (buck (mat a0 u v) u.length 0, 0) := by
  unfold s44
  rw [decide_eq_false (by simpa using h), cond_false, s115_eq]
  simp only [bindO, sort_ok (mat_slots a0 u v) fun e he => mat_slot he]
theorem e45 {a0 : S23} {u v : List S151} (h : s113 a0 u v = 0) : ∃ l, s45 a0 u v = some (l, 0) ∧ l.length + (mat a0 u v).length = u.length := by
  have hl := s116_len (n := u.length) (mat_slots a0 u v) fun x hx => by
    obtain ⟨e, he, rfl⟩ := List.mem_map.1 hx
    exact mat_slot he
  rw [List.length_map] at hl
  refine ⟨_, ?_, hl⟩
  unfold s45
  rw [decide_eq_false (by simpa using h), cond_false, s115_eq]
  simp only [bindO, s117_eq]; rfl
theorem e46 {a0 : S23} {u v : List S151} (h : s113 a0 u v = 0) : ∃ l, s46 a0 u v = some (l, 0) ∧ l.length + (mat a0 u v).length = v.length := by
  have hl := s116_len (n := v.length) (mat_recs a0 u v) fun x hx => by
    obtain ⟨e, he, rfl⟩ := List.mem_map.1 hx
    exact mat_rec he
  rw [List.length_map] at hl
  refine ⟨_, ?_, hl⟩
  unfold s46
  rw [decide_eq_false (by simpa using h), cond_false, s115_eq]
  simp only [bindO, s117_eq]; rfl
theorem blen (a0 : S23) (u v : List S151) : (buck (mat a0 u v) u.length 0).length = (mat a0 u v).length := buck_len (mat_slots a0 u v) fun e he => mat_slot he
/-! ### the loops of UseGreatest -/
theorem g4_ok (rec1 : Nat → Option Bool) (a0 : S23) (r2 : S139 × Int) (k : Nat) (y : S151) (v : List S151) (hr : s23 a0 = 0) (hy : 0 ≤ y.Moment ∧ y.Moment ≤ 143999999) (hv : s25 v = 0)
    (hc : ∀ (j : Nat) (z : S151), v[j]? = some z → s142 a0 y z = true → (k : Int) ∈ r2.1.Slots ∨ (j : Int) ∈ r2.1.Records) : ∀ (l : List S151) (j : Nat), v.drop j = l → s15_l4 rec1 a0 r2 k y l j = rec1 (k + 1)
  | [], j, _ => by rw [s15_l4]
  | z :: l, j, hd => by
    obtain ⟨hz, hd'⟩ := drop_at hd
    have hm := s25_mom hv (List.mem_of_getElem? hz)
    have w1 : IntKind.i64.wrap (z.Moment - y.Moment) = z.Moment - y.Moment := wrap_i64 ⟨by omega, by omega⟩
    have w2 : IntKind.i64.wrap (y.Moment - z.Moment) = y.Moment - z.Moment := wrap_i64 ⟨by omega, by omega⟩
    have h0 : ((((((decide (y.Name = z.Name)) && (decide (y.Kind = z.Kind))) && (decide (IntKind.i64.wrap (z.Moment - y.Moment) ≤ a0.After))) && (decide (IntKind.i64.wrap (y.Moment - z.Moment) ≤ a0.Before))) && (!(s80 r2.1.Slots ((k : Nat) : Int)))) && (!(s80 r2.1.Records ((j : Nat) : Int)))) = false := by
      rw [w1, w2, s80_eq, s80_eq]
      refine Bool.eq_false_iff.2 fun hX => ?_
      simp only [Bool.and_eq_true, decide_eq_true_eq, Bool.not_eq_true', decide_eq_false_iff_not] at hX
      obtain ⟨⟨⟨⟨⟨x1, x2⟩, x3⟩, x4⟩, x5⟩, x6⟩ := hX
      rcases hc j z hz ((s142_iff hr hy).2 ⟨⟨x1.symm, x2.symm⟩, by omega, by omega⟩) with g | g
      · exact x5 g
      · exact x6 g
    rw [s15_l4, h0, cond_false]
    exact g4_ok rec1 a0 r2 k y v hr hy hv hc l (j + 1) hd'
theorem g1_ok (a0 : S23) (a1 : S141) (r1 : List S154 × Int) (r2 : S139 × Int) (hr : s23 a0 = 0) (hu : s25 a1.Slots = 0) (hv : s25 a1.Records = 0)
    (hc : ∀ (i j : Nat) (y z : S151), a1.Slots[i]? = some y → a1.Records[j]? = some z → s142 a0 y z = true → (i : Int) ∈ r2.1.Slots ∨ (j : Int) ∈ r2.1.Records) : ∀ (l : List S151) (k : Nat), a1.Slots.drop k = l → ∃ k', s15_l1 a0 a1 r1 r2 l k = s15_l1 a0 a1 r1 r2 [] k'
  | [], k, _ => ⟨k, rfl⟩
  | y :: l, k, hd => by
    obtain ⟨hy, hd'⟩ := drop_at hd
    obtain ⟨k', hk'⟩ := g1_ok a0 a1 r1 r2 hr hu hv hc l (k + 1) hd'
    refine ⟨k', ?_⟩
    conv => lhs; rw [s15_l1]
    rw [g4_ok _ a0 r2 k y a1.Records hr (s25_mom hu (List.mem_of_getElem? hy)) hv (fun j z hz hp => hc k j y z hy hz hp) a1.Records 0 rfl]
    exact hk'
theorem g2_run (a0 : S23) (a1 : S141) (r1 : List S154 × Int) : ∀ (n k : Nat) (x : List S151), n ≤ a1.Slots.length → n < k → a1.Slots.length ≤ 100 → ∃ k', s15_l2 a0 a1 r1 k x ((n : Int) - 1) = s15_l2 a0 a1 r1 (k' + 1) (x ++ (a1.Slots.take n).reverse) (-1)
  | 0, k, x, _, hk, _ => by
    obtain ⟨k', rfl⟩ : ∃ k', k = k' + 1 := ⟨k - 1, by omega⟩
    exact ⟨k', by simp⟩
  | n + 1, k, x, hn, hk, hl => by
    obtain ⟨j, rfl⟩ : ∃ j, k = j + 1 := ⟨k - 1, by omega⟩
    have e : ((n + 1 : Nat) : Int) - 1 = ((n : Nat) : Int) := by omega
    have hi : a1.Slots[n]? = some a1.Slots[n] := List.getElem?_eq_getElem (by omega)
    obtain ⟨k', hk'⟩ := g2_run a0 a1 r1 n j (x ++ [a1.Slots[n]]) (by omega) (by omega) hl
    refine ⟨k', ?_⟩
    rw [e]
    conv => lhs; rw [s15_l2]
    rw [decide_eq_true (by omega : (0 : Int) ≤ (n : Int)), cond_true, ixO_nat hi]
    simp only [bindO]
    have ht : (a1.Slots.take (n + 1)).reverse = a1.Slots[n] :: (a1.Slots.take n).reverse := by
      rw [List.take_succ_eq_append_getElem (by omega)]; simp
    rw [wrap_i64 (n := (n : Int) - 1) ⟨by omega, by omega⟩, hk', ht]
    simp
theorem g3_ok {aZ : S23} {a1 : S141} (hr : s23 aZ = 0) (hB : aZ.Before = 0) (hA : aZ.After = 0) (hu : s25 a1.Slots = 0) : ∀ (l : List S154) (k : Nat), (∀ e ∈ l, e.Slot ∈ idxs a1.Slots.length ∧ e.Record ∈ idxs a1.Records.length ∧ okI aZ a1.Slots a1.Records e.Slot e.Record = true) → s15_l3 a1 l k = some true
  | [], k, _ => rfl
  | e :: l, k, h => by
    obtain ⟨h1, h2, h3⟩ := h e List.mem_cons_self
    obtain ⟨y, iy, hy⟩ := ixO_idx h1
    obtain ⟨z, iz, hz⟩ := ixO_idx h2
    rw [okI_of hy hz] at h3
    obtain ⟨⟨g1, g2⟩, g3, g4⟩ := (s142_iff hr (s25_mom hu (List.mem_of_getElem? hy))).1 h3
    rw [hB] at g3
    rw [hA] at g4
    have hm : y.Moment = z.Moment := by omega
    have m1 := mem_idxs.1 h1
    have m2 := mem_idxs.1 h2
    have hN : ((((decide (e.Slot < 0)) || (decide ((List.length a1.Slots : Int) ≤ e.Slot))) || (decide (e.Record < 0))) || (decide ((List.length a1.Records : Int) ≤ e.Record))) = false := by
      simp only [Bool.or_eq_false_iff, decide_eq_false_iff_not]; omega
    have he : eqAnd [decide (y.Name = z.Name), decide (y.Moment = z.Moment), decide (y.Kind = z.Kind)] = true := by
      rw [decide_eq_true g1.symm, decide_eq_true hm, decide_eq_true g2.symm]; rfl
    rw [s15_l3, hN]
    simp only [Bool.not_false, cond_true, iy, iz, bindO, he, Bool.not_true, Bool.or_self, cond_false]
    exact g3_ok hr hB hA hu l (k + 1) fun x hx => h x (List.mem_cons_of_mem _ hx)
theorem gend_ok {a0 : S23} {a1 : S141} (h : s113 a0 a1.Slots a1.Records = 0) (hu : a1.Slots.length ≤ 100) (hv : a1.Records.length ≤ 100) (hp : a1.Pairs.length ≤ 100000) {r1 : List S154 × Int} (r2 : S139 × Int) (hr1 : r1.1.length = (mat a0 a1.Slots a1.Records).length) (k' : Nat) :
    s15_l1 a0 a1 r1 r2 [] k' = s15_l2 a0 a1 r1 ((((IntKind.i64.wrap ((List.length a1.Slots : Int) - 1)) + 1).toNat) + 1) [] (IntKind.i64.wrap ((List.length a1.Slots : Int) - 1)) := by
  obtain ⟨r, hr⟩ := s78_some a0 a1.Slots a1.Records a1.Pairs hp a1.Pairs 0 (by simp)
  have hr' : s78 a0 a1.Slots a1.Records a1.Pairs = some r := hr
  rw [s15_l1, s75_eq h hp, hr']
  simp only [bindO]
  by_cases h0 : r = 0
  · subst h0
    have ha : Acc a0 a1.Slots a1.Records a1.Pairs := acc_bwd hp a1.Pairs 0 rfl (by simp) ⟨by simp, by simp, by simp⟩ (by simp) hr
    have := acc_le h hu hv ha
    rw [decide_eq_false (p := (List.length r1.1 : Int) < (List.length a1.Pairs : Int)) (by omega), Bool.and_false, cond_false]
  · rw [decide_eq_false h0, Bool.false_and, cond_false]
theorem g2_end {a0 : S23} {a1 : S141} (h : s113 a0 a1.Slots a1.Records = 0) (hu : a1.Slots.length ≤ 100) (hv : a1.Records.length ≤ 100) {r1 : List S154 × Int} (hr1 : r1.1.length = (mat a0 a1.Slots a1.Records).length) (k' : Nat) :
    s15_l2 a0 a1 r1 (k' + 1) a1.Slots.reverse (-1) = some true := by
  obtain ⟨h1, h2, h3⟩ := s113_ok h
  obtain ⟨t1, t2⟩ := s23_tol h1
  have w1 : IntKind.i64.wrap (a0.Before + 7) = a0.Before + 7 := wrap_i64 ⟨by omega, by omega⟩
  have w2 : IntKind.i64.wrap (a0.After + 9) = a0.After + 9 := wrap_i64 ⟨by omega, by omega⟩
  have hR : s113 a0 a1.Slots.reverse a1.Records = 0 := s113_mk h1 (s25_sub h2 (fun x hx => List.mem_reverse.1 hx) (by simp; omega)) h3
  have hsW : s23 (S23.mk (min 720 (a0.Before + 7)) (min 720 (a0.After + 9)) a0.Notice a0.Share a0.Causes a0.Off a0.Run) = 0 := s23_mk h1 (by omega) (by omega)
  have hsZ : s23 (S23.mk 0 0 a0.Notice a0.Share a0.Causes a0.Off a0.Run) = 0 := s23_mk h1 (by omega) (by omega)
  have lW := acc_le (s113_mk hsW h2 h3) hu hv (acc_mono h1 hsW h2 (by simp only; omega) (by simp only; omega) (mat_acc a0 a1.Slots a1.Records))
  have lZ := acc_le h hu hv (acc_mono hsZ h1 h2 (by simp only; omega) (by simp only; omega) (mat_acc _ a1.Slots a1.Records))
  have lR := rev_len h hR hu hv
  rw [s15_l2, decide_eq_false (by decide : ¬ (0 : Int) ≤ -1), cond_false, w1, w2, e44 hR, e44 (s113_mk hsW h2 h3), e44 (s113_mk hsZ h2 h3)]
  have d0 : decide (IntKind.i64.wrap ((IntKind.i64.wrap ((0 : Int) + 0)) + 0) ≠ 0) = false := rfl
  simp only [bindO]
  rw [blen, blen, blen, d0, decide_eq_false (by omega), decide_eq_false (by omega), decide_eq_false (by omega)]
  simp only [Bool.or_self, cond_false]
  exact g3_ok hsZ rfl rfl h2 _ 0 fun e he => (buck_acc (mat_acc _ a1.Slots a1.Records)).1.i e he
theorem s15_true (a0 : S23) (a1 : S141) : s15 a0 a1 = some true := by
  unfold s15
  rw [s16_eq, s20_eq, s20_eq]
  cases hc : (((((((!true) || (!(s17 (s18 a0)))) || (decide (7 < (List.length a1.Slots : Int)))) || (decide (7 < (List.length a1.Records : Int)))) || (!(s19 a1.Slots 7))) || (!(s19 a1.Records 7))) || (decide ((s48 a0 a1.Slots a1.Records) ≠ 0))) || (decide (7 < (List.length a1.Pairs : Int)))
  · simp only [Bool.or_eq_false_iff, decide_eq_false_iff_not] at hc
    have hp := hc.2
    have hz := Decidable.not_not.1 hc.1.2
    have hv := hc.1.1.1.1.2
    have hu := hc.1.1.1.1.1.2
    have h : s113 a0 a1.Slots a1.Records = 0 := by rw [both_eq]; exact hz
    obtain ⟨h1, h2, h3⟩ := s113_ok h
    obtain ⟨c, c1, c2, c3, c4, c5, _⟩ := covered_ok h (by omega) (by omega)
    obtain ⟨l3, f1, f2⟩ := e45 h
    obtain ⟨l4, f3, f4⟩ := e46 h
    obtain ⟨ba, bs⟩ := buck_acc (mat_acc a0 a1.Slots a1.Records)
    have bl := blen a0 a1.Slots a1.Records
    have ml := mat_len a0 a1.Slots a1.Records
    have e75 : s75 a0 a1.Slots a1.Records (buck (mat a0 a1.Slots a1.Records) a1.Slots.length 0) = some 0 := by
      rw [s75_eq h (by omega)]
      exact acc_fwd (by omega) ba bs _ 0 rfl (by simp)
    have w0 : decide (IntKind.i64.wrap ((IntKind.i64.wrap ((IntKind.i64.wrap ((0 : Int) + 0)) + 0)) + 0) ≠ 0) = false := rfl
    have w1 : IntKind.i64.wrap ((List.length c.Slots : Int) + (List.length c.Records : Int)) = (List.length c.Slots : Int) + (List.length c.Records : Int) := wrap_i64 ⟨by omega, by omega⟩
    have w2 : IntKind.i64.wrap ((List.length l3 : Int) + (List.length (mat a0 a1.Slots a1.Records) : Int)) = (List.length l3 : Int) + (List.length (mat a0 a1.Slots a1.Records) : Int) := wrap_i64 ⟨by omega, by omega⟩
    have w3 : IntKind.i64.wrap ((List.length l4 : Int) + (List.length (mat a0 a1.Slots a1.Records) : Int)) = (List.length l4 : Int) + (List.length (mat a0 a1.Slots a1.Records) : Int) := wrap_i64 ⟨by omega, by omega⟩
    have w4 : IntKind.i64.wrap ((List.length a1.Slots : Int) - 1) = (List.length a1.Slots : Int) - 1 := wrap_i64 ⟨by omega, by omega⟩
    rw [cond_false, e44 h, c1, f1, f3]
    simp only [bindO]
    rw [w0]
    simp only [Bool.not_false, cond_true, e75]
    rw [bl, w1, w2, w3, decide_eq_false (by decide : ¬ (0 : Int) ≠ 0), decide_eq_false (by omega), decide_eq_false (by omega), decide_eq_false (by omega)]
    simp only [Bool.or_self, cond_false]
    obtain ⟨k', hk'⟩ := g1_ok a0 a1 (buck (mat a0 a1.Slots a1.Records) a1.Slots.length 0, 0) (c, 0) h1 h2 h3 c5 a1.Slots 0 rfl
    rw [hk', gend_ok h (by omega) (by omega) (by omega) _ bl, w4]
    obtain ⟨k'', hk''⟩ := g2_run a0 a1 (buck (mat a0 a1.Slots a1.Records) a1.Slots.length 0, 0) a1.Slots.length (((a1.Slots.length : Int) - 1 + 1).toNat + 1) [] (Nat.le_refl _) (by omega) (by omega)
    rw [hk'', List.take_length, List.nil_append]
    exact g2_end h (by omega) (by omega) bl k''
  · rfl
end Go.Sim

