/-
  What is proved: lemmas and contracts of functions on the way to the law groundSums (part 11).
-/
import Derived.Test.YthhidpjikbhljaaGreatDoorVrB1
set_option linter.unusedSectionVars false
set_option linter.unusedSimpArgs false
set_option linter.unusedVariables false
set_option linter.unnecessarySimpa false
set_option linter.deprecated false
namespace Go.Sim
open Go.Proofs
theorem sm_l1 (a1 a2 : Int) (h0 : 0 ≤ a2) (h1 : a2 ≤ 90000) : ∀ (t : List S1079) (k : Nat) (x1 : Int) (x2 : List S1079), (∀ m ∈ t, MovOk m) → 0 ≤ x1 → x1 + 999 * (t.length : Int) ≤ 100000 →
    s1009_l1 a1 a2 t k x1 x2 = s1009_l2 a1 a2 (x1 + sumIf (fun _ => true) t) (x2 ++ t.map (nearM a2)) 4321 0 (1440 * a2)
  | [], k, x1, x2, _, _, _ => by
    rw [s1009_l1, sumIf_nil, Int.add_zero, List.map_nil, List.append_nil]
    rw [show (1440 * a2 + 4320 - (1440 * a2)).toNat = 4320 by omega]
  | m :: t, k, x1, x2, h, q0, q1 => by
    have hm := h m List.mem_cons_self
    have m0 := hm.m0; have m1 := hm.s0; have m2 := hm.s1
    have e : Int.tmod m.Moment 4320 = m.Moment % 4320 := Int.tmod_eq_emod_of_nonneg m0
    rw [List.length_cons] at q1
    rw [s1009_l1, wrap_i64 (by unfold I64; omega), wrap_i64 (by unfold I64; rw [e]; omega)]
    rw [sm_l1 a1 a2 h0 h1 t _ _ _ (fun y hy => h y (List.mem_cons_of_mem _ hy)) (by omega) (by omega)]
    rw [sumIf_cons, if_pos rfl, List.map_cons, List.append_assoc, Int.add_assoc]
    rfl
theorem sm_l5 (rec2 : Int → Int → Option Bool) (a1 x7 x8 : Int) (x11 : List Int) (y19 : Int) : ∀ (t : List S1079) (k : Nat) (x : Int), (∀ m ∈ t, 0 ≤ m.Seats ∧ m.Seats ≤ 999) → 0 ≤ x → x + 999 * (t.length : Int) ≤ 100000 →
    s1009_l5 rec2 a1 x7 x8 x11 y19 t k x = s1009_l5 rec2 a1 x7 x8 x11 y19 [] 0 (x + sumIf (fun m => decide (m.Terminal = tN) && inW x8 a1 m) t)
  | [], k, x, _, _, _ => by rw [sumIf_nil, Int.add_zero, s1009_l5, s1009_l5]
  | m :: t, k, x, h, q0, q1 => by
    have hm := h m List.mem_cons_self
    rw [List.length_cons] at q1
    conv => lhs; rw [s1009_l5]
    unfold s1009_j1
    rw [sumIf_cons, wrap_i64 (by unfold I64; omega)]
    have e : (((decide (m.Terminal = (⟨#[]⟩))) && (decide (x8 ≤ m.Moment))) && (decide (m.Moment < x8 + a1))) = (decide (m.Terminal = tN) && inW x8 a1 m) := by unfold inW; rw [Bool.and_assoc]
    rw [e]
    cases hc : decide (m.Terminal = tN) && inW x8 a1 m
    · rw [cond_false]
      simp only [Bool.false_eq_true, if_false, Int.zero_add]
      exact sm_l5 rec2 a1 x7 x8 x11 y19 t _ _ (fun y hy => h y (List.mem_cons_of_mem _ hy)) q0 (by omega)
    · rw [cond_true, if_pos rfl]
      show s1009_l5 rec2 a1 x7 x8 x11 y19 t (k + 1) (x + m.Seats) = _
      rw [sm_l5 rec2 a1 x7 x8 x11 y19 t _ _ (fun y hy => h y (List.mem_cons_of_mem _ hy)) (by omega) (by omega), Int.add_assoc]
theorem sm_l6 (rec4 : Nat → Int → Option Bool) (a1 : Int) (x2 : List S1079) (x8 x20 : Int) (k22 : Nat) (y : S1079) : ∀ (t : List S1079) (k : Nat) (b : Bool),
    s1009_l6 rec4 a1 x2 x8 x20 k22 y t k b = s1009_l6 rec4 a1 x2 x8 x20 k22 y [] 0 (b || t.any fun o => decide (o.Terminal = y.Terminal))
  | [], k, b => by rw [List.any_nil, Bool.or_false, s1009_l6, s1009_l6]
  | m :: t, k, b => by conv => lhs; rw [s1009_l6]
                       rw [sm_l6 rec4 a1 x2 x8 x20 k22 y t, List.any_cons, Bool.or_assoc]
theorem sm_l4 (rec2 : Int → Int → Option Bool) {l : List S1079} (hz : s1027 l = 0) (h8 : l.length ≤ 8) {a1 x8 : Int} (n0 : 60 ≤ a1) (n1 : a1 ≤ 1440) (b0 : 0 ≤ x8) (b1 : x8 ≤ 143999999) (x7 : Int) (x11 : List Int) (y19 : Int) :
    ∀ (t p : List S1079) (x : Int), p ++ t = l → 0 ≤ x → x + 7992 * (t.length : Int) ≤ 100000 →
    s1009_l4 rec2 a1 l x7 x8 x11 y19 t p.length x = s1009_l5 rec2 a1 x7 x8 x11 y19 l 0 (x + sumIf (fun o => newT p o && inW x8 a1 o) l)
  | [], p, x, hp, _, _ => by
    rw [List.append_nil] at hp
    subst hp
    rw [newT_all, Int.add_zero, s1009_l4]
  | m :: t, p, x, hp, q0, q1 => by
    have hml : m ∈ l := by rw [← hp]; simp
    rw [List.length_cons] at q1
    have hp2 : (p ++ [m]) ++ t = l := by rw [List.append_assoc]; exact hp
    have htk : List.take (Int.toNat ((p.length : Nat) : Int)) l = p := by
      rw [Int.toNat_natCast, ← hp, List.take_left]
    have hlen : p.length + 1 = (p ++ [m]).length := by simp
    rw [s1009_l4, htk, sm_l6, newT_step (m := m)]
    rw [s1009_l6]
    unfold s1009_j2
    have hnew : (decide (m.Terminal = ⟨#[]⟩) || p.any fun o => decide (o.Terminal = m.Terminal)) = !newT p m := by unfold newT; simp
    rw [hnew]
    cases hc : newT p m
    · rw [Bool.not_false, cond_true]
      simp only [Bool.false_eq_true, if_false, Int.zero_add]
      rw [hlen]
      exact sm_l4 rec2 hz h8 n0 n1 b0 b1 x7 x11 y19 t (p ++ [m]) x hp2 q0 (by omega)
    · rw [Bool.not_true, cond_false, if_pos rfl]
      have hT : m.Terminal ≠ tN := by
        intro h
        unfold newT at hc
        rw [h] at hc; simp at hc
      have hz1 := (movs_zero.1 hz).2 m hml
      have ht : s1089 m.Terminal = 0 := by
        unfold s1100 at hz1
        rw [s1085_eq, s89_zero] at hz1
        exact hz1 _ (by simp)
      have hlim := lim_zero (a := ⟨m.Terminal, kT, a1, 1, 0⟩) ht (.inr (.inr rfl)) (by show 1 ≤ a1; omega) n1 (Int.le_refl (1 : Int)) (by show 1 ≤ a1; omega) (Int.le_refl (0 : Int)) (by show (0 : Int) ≤ 999999999; decide)
      obtain ⟨w1, w2, w3⟩ := seats_say hlim hz h8 b0 b1
      rw [W_term l m.Terminal hT] at w1 w2 w3
      rw [w1]
      simp only [bindO]
      rw [decide_eq_false (by simp), decide_eq_false (by omega), decide_eq_false (by omega)]
      simp only [Bool.or_self, cond_false]
      rw [wrap_i64 (by unfold I64; omega), hlen]
      rw [sm_l4 rec2 hz h8 n0 n1 b0 b1 x7 x11 y19 t (p ++ [m]) _ hp2 (by omega) (by omega), Int.add_assoc]
theorem empty_term : s1089 ByteArray.empty = 0 := by decide
theorem sm_l3 (rec2 : Int → Int → Option Bool) {l : List S1079} (hz : s1027 l = 0) (h8 : l.length ≤ 8) {a1 x8 : Int} (n0 : 60 ≤ a1) (n1 : a1 ≤ 1440) (b0 : 0 ≤ x8) (b1 : x8 ≤ 143999999) (x7 : Int) :
    s1009_l3 rec2 a1 l x7 x8 [⟨#[65]⟩, ⟨#[68]⟩, ⟨#[84]⟩] 0 (List.replicate 3 0) = rec2 (IntKind.i64.wrap (x7 + sumIf (inW x8 a1) l)) (x8 + a1) ∧ 0 ≤ sumIf (inW x8 a1) l := by
  have lim : ∀ k, k = kA ∨ k = kD ∨ k = kT → s1029 [(⟨tN, k, a1, 1, 0⟩ : S1063)] = 0 := fun k hk => lim_zero (a := ⟨tN, k, a1, 1, 0⟩) empty_term hk (by show 1 ≤ a1; omega) n1 (Int.le_refl (1 : Int)) (by show 1 ≤ a1; omega) (Int.le_refl (0 : Int)) (by show (0 : Int) ≤ 999999999; decide)
  have hm := (movs_ok hz).2
  have rs : ∀ y ∈ l, 0 ≤ y.Seats ∧ y.Seats ≤ 999 := fun y hy => ⟨(hm y hy).s0, (hm y hy).s1⟩
  obtain ⟨A1, A2, A3⟩ := seats_say (lim kA (.inl rfl)) hz h8 b0 b1
  obtain ⟨D1, D2, D3⟩ := seats_say (lim kD (.inr (.inl rfl))) hz h8 b0 b1
  obtain ⟨T1, T2, T3⟩ := seats_say (lim kT (.inr (.inr rfl))) hz h8 b0 b1
  have hk := W_kinds hm tN a1 1 x8 0
  have hT := W_all l a1 1 x8 0
  rw [hT] at T1 T2 T3 hk
  generalize hA : W ⟨tN, kA, a1, 1, 0⟩ l x8 = wA at *
  generalize hD : W ⟨tN, kD, a1, 1, 0⟩ l x8 = wD at *
  have A1 : s1039 ⟨ByteArray.empty, ⟨#[65]⟩, a1, 1, 0⟩ l x8 = some (wA, 0) := A1
  have D1 : s1039 ⟨ByteArray.empty, ⟨#[68]⟩, a1, 1, 0⟩ l x8 = some (wD, 0) := D1
  have T1 : s1039 ⟨ByteArray.empty, ⟨#[84]⟩, a1, 1, 0⟩ l x8 = some (sumIf (inW x8 a1) l, 0) := T1
  have c : ∀ w : Int, 0 ≤ w → w ≤ 7992 → (((decide (((w, (0 : Int)).2) ≠ 0)) || (decide (((w, (0 : Int)).1) < 0))) || (decide (8000 < ((w, (0 : Int)).1)))) = false := fun w w0 w1 => by
    dsimp only
    rw [decide_eq_false (by simp), decide_eq_false (by omega), decide_eq_false (by omega)]; rfl
  refine ⟨?_, T2⟩
  rw [s1009_l3, A1]; simp only [bindO]; rw [c wA A2 A3, cond_false]
  rw [show ixO (List.replicate 3 (0 : Int)) ((0 : Nat) : Int) = some 0 from rfl]; simp only [bindO]
  rw [show List.set (List.replicate 3 (0 : Int)) (Int.toNat ((0 : Nat) : Int)) wA = [wA, 0, 0] from rfl]
  rw [s1009_l3, D1]; simp only [bindO]; rw [c wD D2 D3, cond_false]
  rw [show ixO [wA, (0 : Int), 0] ((0 + 1 : Nat) : Int) = some 0 from rfl]; simp only [bindO]
  rw [show List.set [wA, (0 : Int), 0] (Int.toNat ((0 + 1 : Nat) : Int)) wD = [wA, wD, 0] from rfl]
  rw [s1009_l3, T1]; simp only [bindO]; rw [c _ T2 T3, cond_false]
  rw [show ixO [wA, wD, (0 : Int)] ((0 + 1 + 1 : Nat) : Int) = some 0 from rfl]; simp only [bindO]
  rw [show List.set [wA, wD, (0 : Int)] (Int.toNat ((0 + 1 + 1 : Nat) : Int)) (sumIf (inW x8 a1) l) = [wA, wD, sumIf (inW x8 a1) l] from rfl]
  rw [s1009_l3]
  rw [show ixO [wA, wD, sumIf (inW x8 a1) l] 0 = some wA from rfl, show ixO [wA, wD, sumIf (inW x8 a1) l] 1 = some wD from rfl, show ixO [wA, wD, sumIf (inW x8 a1) l] 2 = some (sumIf (inW x8 a1) l) from rfl]
  simp only [bindO]
  rw [wrap_i64 (by unfold I64; omega), decide_eq_false (by omega), cond_false]
  rw [show (0 : Nat) = ([] : List S1079).length from rfl, sm_l4 rec2 hz h8 n0 n1 b0 b1 x7 _ _ l [] 0 rfl (by decide) (by omega), Int.zero_add]
  have t1 := terms_sum l a1 x8
  have t2 := sumIf_rng (fun o => newT [] o && inW x8 a1 o) rs
  rw [sm_l5 rec2 a1 x7 x8 _ _ l 0 _ rs t2.1 (by omega), ← t1, s1009_l5]
  rw [show ixO [wA, wD, sumIf (inW x8 a1) l] 2 = some (sumIf (inW x8 a1) l) from rfl]
  simp only [bindO]
  rw [decide_eq_false (by simp), cond_false]
theorem sm_l2 {l : List S1079} (hz : s1027 l = 0) (h8 : l.length ≤ 8) {a1 a2 : Int} (n0 : 60 ≤ a1) (n1 : a1 ≤ 1440) (h0 : 0 ≤ a2) (h1 : a2 ≤ 90000) (hr : ∀ m ∈ l, m.Moment < 1440 * a2 + 4320) :
    ∀ (k : Nat) (x7 x8 : Int), 0 ≤ x7 → x7 + sumIf (fun m => decide (x8 ≤ m.Moment)) l = sumIf (fun _ => true) l → 0 ≤ x8 → (1440 * a2 + 4320 - x8).toNat < k → s1009_l2 a1 a2 (sumIf (fun _ => true) l) l k x7 x8 = some true
  | 0, _, _, _, _, _, h => by omega
  | k + 1, x7, x8, q0, q1, q2, q3 => by
    have hm := (movs_ok hz).2
    have rs : ∀ y ∈ l, 0 ≤ y.Seats ∧ y.Seats ≤ 999 := fun y hy => ⟨(hm y hy).s0, (hm y hy).s1⟩
    have r1 := sumIf_rng (fun m => decide (x8 + a1 ≤ m.Moment)) rs
    rw [s1009_l2]
    by_cases hc : x8 < 1440 * a2 + 4320
    · rw [decide_eq_true hc, cond_true]
      obtain ⟨e, e0⟩ := sm_l3 (fun z0_ z1_ => s1009_l2 a1 a2 (sumIf (fun _ => true) l) l k z0_ z1_) hz h8 n0 n1 q2 (by omega) x7
      rw [e]
      have st := sum_step (l := l) a1 x8 (by omega)
      rw [wrap_i64 (by unfold I64; omega)]
      exact sm_l2 hz h8 n0 n1 h0 h1 hr k _ _ (by omega) (by omega) (by omega) (by omega)
    · rw [decide_eq_false hc, cond_false]
      have e0 : sumIf (fun m => decide (x8 ≤ m.Moment)) l = 0 := sumIf_zero fun m hm => by have := hr m hm; exact decide_eq_false (by omega)
      have hlim := lim_zero (a := ⟨tN, kT, a1, a1, sumIf (fun _ => true) l⟩) empty_term (.inr (.inr rfl)) (by show 1 ≤ a1; omega) n1 (by show 1 ≤ a1; omega) (Int.le_refl _) (by show 0 ≤ sumIf _ l; omega) (by show sumIf _ l ≤ _; omega)
      obtain ⟨w, hw⟩ := exc_say hlim hz h8 rfl
      have hw : s1043 [(S1063.mk ByteArray.empty (⟨#[84]⟩) a1 a1 (sumIf (fun _ => true) l))] l = some (w, 7) := hw
      rw [hw]
      simp only [bindO]
      rw [show x7 = sumIf (fun _ => true) l by omega]; simp
theorem near_sum (a2 : Int) : ∀ l : List S1079, sumIf (fun _ => true) l = sumIf (fun _ => true) (l.map (nearM a2))
  | [] => rfl
  | m :: t => by rw [List.map_cons, sumIf_cons, sumIf_cons, near_sum a2 t]; rfl
theorem s1009_true (a0 : List S1079) (a1 a2 : Int) : s1009 a0 a1 a2 = some true := by
  unfold s1009
  rw [s1015_eq]
  cases hg : ((((((!true) || (decide (8 < (List.length a0 : Int)))) || (!(s1020 a0 8))) || (decide ((s1028 a0) ≠ 0))) || (decide (a1 < 60))) || (decide (1440 < a1))) || (decide ((s90 a2 0 90000) ≠ 0))
  case true => rfl
  rw [cond_false]
  simp only [Bool.not_true, Bool.false_or, Bool.or_eq_false_iff, Bool.not_eq_false', decide_eq_false_iff_not] at hg
  obtain ⟨⟨⟨⟨⟨h8, _⟩, hz⟩, hn0⟩, hn1⟩, hd⟩ := hg
  have hz := Decidable.not_not.1 hz
  have hd := (s90_zero a2 0 90000).1 (Decidable.not_not.1 hd)
  rw [movs_eq] at hz
  have hm := (movs_ok hz).2
  have hs : sumIf (fun _ => true) a0 = sumIf (fun _ => true) (a0.map (nearM a2)) := near_sum a2 a0
  rw [sm_l1 a1 a2 hd.1 hd.2 a0 0 0 [] hm (by decide) (by omega), Int.zero_add, List.nil_append, hs]
  have hz2 := near_ok hz hd.1 hd.2
  have hr : ∀ m ∈ a0.map (nearM a2), 1440 * a2 ≤ m.Moment ∧ m.Moment < 1440 * a2 + 4320 := fun m hm2 => by
    obtain ⟨y, hy, rfl⟩ := List.mem_map.1 hm2
    exact near_rng (hm y hy)
  refine sm_l2 hz2 (by rw [List.length_map]; omega) (by omega) (by omega) hd.1 hd.2 (fun m hm => (hr m hm).2) 4321 0 _ (by decide) ?_ (by omega) (by omega)
  rw [Int.zero_add]
  exact sumIf_congr fun m hm2 => by rw [decide_eq_true (hr m hm2).1]
end Go.Sim
