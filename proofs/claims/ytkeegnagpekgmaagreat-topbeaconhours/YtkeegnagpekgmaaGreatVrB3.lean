/-
  What is proved: lemmas and contracts of functions on the way to the law topBeaconHours (part 12).
-/
import Derived.Test.YtkeegnagpekgmaaGreatVrB2
import Derived.Test.YtkeegnagpekgmaaGreatVrA8
import Derived.Test.YtkeegnagpekgmaaGreatVrB1
import Derived.Test.YtkeegnagpekgmaaGreatVrA7
set_option linter.unusedSectionVars false
set_option linter.unusedSimpArgs false
set_option linter.unusedVariables false
set_option linter.unnecessarySimpa false
set_option linter.deprecated false
set_option maxRecDepth 10000
namespace Go.Sim
open Go.Proofs
def s1042_j1 (rec1 : Nat → Int → Int) (k3 : Nat) (x6 : Int) : Int :=
 rec1 (k3 + 1) x6
def s1042_l1 (a0 : S1063) (a2 : Int) : List S1079 → Nat → Int → Int
 | [], k3, x1 => x1
 | y4 :: t5, k3, x1 => (bif ((s1113 a0 y4) && (decide (a2 ≤ y4.Moment))) && (decide (y4.Moment < IntKind.i64.wrap (a2 + a0.Length))) then s1042_j1 (fun k_ z0_ => s1042_l1 a0 a2 t5 k_ z0_) k3 (IntKind.i64.wrap (x1 + y4.Seats)) else s1042_j1 (fun k_ z0_ => s1042_l1 a0 a2 t5 k_ z0_) k3 x1)
def s1042 (a0 : S1063) (a1 : List S1079) (a2 : Int) : Int :=
 s1042_l1 a0 a2 a1 0 0
theorem s1089_eq (s : ByteArray) : s1089 s = s1093 s := by
 unfold s1089 s1093; rw [name_eq, s1086_ite, cond_eq_ite]
theorem movs_l (a : List S1079) : ∀ t k, s1028_l1 t k = s1099_l1 a s1100 t k
 | [], k => rfl
 | y :: t, k => by
  rw [s1028_l1, s1099_l1, ← movs_l a t (k + 1)];unfold s1100 s1028_j2 s1028_j1;rw [s1085_eq, s1086_ite, s1086_ite, name_eq, s1089_eq, s1088_eq, s1088_eq, s1088_eq, s1098_eq];simp only [s89_cons, s89_nil, s1092]
  by_cases c1 : s96 y.Moment = 0 <;> by_cases c2 : y.Kind = ⟨#[65]⟩ <;> by_cases c3 : y.Kind = ⟨#[68]⟩ <;> by_cases c4 : s1093 y.Terminal = 0 <;> by_cases c5 : s90 y.Seats 0 999 = 0 <;> by_cases c6 : s90 y.Size 1 9 = 0 <;> by_cases c7 : s90 y.Noise 0 99 = 0 <;> by_cases c8 : s91 y.Name = true <;> simp [c1, c2, c3, c4, c5, c6, c7, c8]
theorem movs_eq (a : List S1079) : s1028 a = s1027 a := by
 unfold s1028 s1027 s1099;rw [movs_l a a 0]
theorem win0_rng {a : S1063} {m : Int} (h : SeatOk a) (h0 : 0 ≤ m) (h1 : m ≤ 143999999) : 0 ≤ win0 a.Length a.Step m ∧ win0 a.Length a.Step m ≤ 145000000 ∧ m - a.Length + 1 ≤ win0 a.Length a.Step m := by
 have h2 := h.l0; have h3 := h.l1; have h4 := h.s0; have h5 := h.s1;unfold win0;have e0 : (max 0 (m - a.Length + 1) + a.Step - 1) % a.Step + a.Step * ((max 0 (m - a.Length + 1) + a.Step - 1) / a.Step) = max 0 (m - a.Length + 1) + a.Step - 1 := Int.emod_add_mul_ediv _ _;have e1 := Int.emod_nonneg (max 0 (m - a.Length + 1) + a.Step - 1) (show a.Step ≠ 0 by omega);have e2 := Int.emod_lt_of_pos (max 0 (m - a.Length + 1) + a.Step - 1) (show 0 < a.Step by omega);rw [Int.mul_comm];generalize a.Step * ((max 0 (m - a.Length + 1) + a.Step - 1) / a.Step) = q at *;generalize (max 0 (m - a.Length + 1) + a.Step - 1) % a.Step = r at *
 omega
theorem srt_iff (t : Int) : ∀ {ms : List Int}, ms.Pairwise (· ≤ ·) → ∀ i (hi : i < ms.length), (ms[i] < t ↔ i < (ms.takeWhile (fun x => decide (x < t))).length)
 | [], _, i, hi => by simp at hi
 | x :: ms, h, i, hi => by
  rw [List.pairwise_cons] at h
  by_cases hx : x < t
  ·rw [List.takeWhile_cons_of_pos (by simp [hx])]
   cases i with
   | zero => simp [hx]
   | succ i =>
    have := srt_iff t h.2 i (by simpa using hi);simp only [List.getElem_cons_succ, List.length_cons]
    omega
  ·rw [List.takeWhile_cons_of_neg (by simp [hx])]
   cases i with
   | zero => simp; omega
   | succ i =>
    have := h.1 (ms[i]'(by simpa using hi)) (List.getElem_mem _);simp only [List.getElem_cons_succ, List.length_nil]
    omega
theorem bs_loop (t : Int) {ms : List Int} (h : ms.Pairwise (· ≤ ·)) (p : Nat) (hp : p = (ms.takeWhile (fun x => decide (x < t))).length) : ∀ (k lo hi : Nat), lo ≤ p → p ≤ hi → hi ≤ ms.length → hi - lo < k → ∃ b, s1175_l1 ms t k (lo : Int) (hi : Int) = some ((p : Int), b)
 | 0, lo, hi, _, _, _, h => by omega
 | k + 1, lo, hi, h1, h2, h3, h4 => by
  rw [s1175_l1]
  by_cases hc : lo < hi
  ·rw [decide_eq_true (by omega : (lo : Int) < (hi : Int)), cond_true]
   have e : ((lo : Int) + (hi : Int)) / 2 = (((lo + hi) / 2 : Nat) : Int) := by omega
   have hlt : (lo + hi) / 2 < ms.length := by omega
   rw [e, ixO_at hlt];simp only [bindO];rw [s1194_eq];have hi' := srt_iff t h ((lo + hi) / 2) hlt;rw [← hp] at hi'
   by_cases hm : ms[(lo + hi) / 2] < t
   ·rw [decide_eq_true hm, cond_true, show ((((lo + hi) / 2 : Nat) : Int) + 1) = (((lo + hi) / 2 + 1 : Nat) : Int) by push_cast; rfl];exact bs_loop t h p hp k _ _ (by have := hi'.1 hm; omega) h2 h3 (by omega)
   ·rw [decide_eq_false hm, cond_false];exact bs_loop t h p hp k _ _ h1 (by have : ¬ (lo + hi) / 2 < p := fun q => hm (hi'.2 q); omega) (by omega) (by omega)
  ·have e1 : lo = p := by omega
   subst e1;rw [decide_eq_false (by omega : ¬ (lo : Int) < (hi : Int)), cond_false]
   by_cases hl : lo < ms.length
   ·rw [decide_eq_true (by omega : (lo : Int) < (ms.length : Int)), cond_true, ixO_at hl];simp only [bindO, Bool.true_and]
    cases hq : (!(decide (ms[lo] = t)))
    ·exact ⟨_, rfl⟩
    ·exact ⟨_, rfl⟩
   ·rw [decide_eq_false (by omega : ¬ (lo : Int) < (ms.length : Int)), cond_false];simp only [bindO, Bool.false_and, cond_false];exact ⟨_, rfl⟩
theorem sums_get : ∀ (l : List S1079) (x : Int) (j : Nat), j ≤ l.length → (sums x l)[j]? = some (x + ((l.take j).map S1079.Seats).sum)
 | [], x, j, h => by
  have : j = 0 := by simpa using h
  subst this; simp [sums]
 | m :: l, x, 0, _ => by simp [sums]
 | m :: l, x, j + 1, h => by
  rw [sums, List.getElem?_cons_succ, sums_get l _ j (by simpa using h), List.take_succ_cons, List.map_cons, List.sum_cons, Int.add_assoc]
def U (a : S1063) (l : List S1079) (t : Int) : Int := ((l.filter (fun m => s1116 a m && decide (m.Moment < t))).map S1079.Seats).sum
theorem own_sorted (a : S1063) (l : List S1079) : (ownL a l).Pairwise (fun x y => x.Moment ≤ y.Moment) := by
 unfold ownL;refine isort_sorted (Rel := fun (x y : S1079) => x.Moment ≤ y.Moment) (fun a b c h k => Int.le_trans h k) (List.pairwise_of_forall fun y x => ⟨fun h => ?_, fun h => ?_⟩)
 ·unfold ltM at h; have := of_decide_eq_true h; omega
 ·unfold ltM at h; have := of_decide_eq_false h; omega
theorem tw_filterW (t : Int) : ∀ {l : List S1079}, l.Pairwise (fun x y => x.Moment ≤ y.Moment) → l.takeWhile (fun m => decide (m.Moment < t)) = l.filter (fun m => decide (m.Moment < t))
 | [], _ => rfl
 | x :: l, h => by
  rw [List.pairwise_cons] at h
  by_cases hx : x.Moment < t
  ·rw [List.takeWhile_cons_of_pos (by simp [hx]), List.filter_cons_of_pos (by simp [hx]), tw_filterW t h.2]
  ·rw [List.takeWhile_cons_of_neg (by simp [hx]), List.filter_cons_of_neg (by simp [hx])]
   symm
   rw [List.filter_eq_nil_iff];intro y hy;have := h.1 y hy
   simp; omega
theorem perm_sumI {l l' : List Int} (h : l.Perm l') : l.sum = l'.sum := by
 induction h with
 | nil => rfl
 | cons _ _ ih => simp [ih]
 | swap => simp only [List.sum_cons]; omega
 | trans _ _ i1 i2 => exact i1.trans i2
theorem until_ok (a : S1063) (l : List S1079) (t : Int) : s1155 ⟨(ownL a l).map S1079.Moment, sums 0 (ownL a l)⟩ t = some (U a l t) := by
 have hs := own_sorted a l;have hms : ((ownL a l).map S1079.Moment).Pairwise (· ≤ ·) := List.pairwise_map.2 hs
 have htw : (((ownL a l).map S1079.Moment).takeWhile (fun x => decide (x < t))).length = ((ownL a l).takeWhile (fun m => decide (m.Moment < t))).length := by
  rw [List.takeWhile_map, List.length_map]; rfl
 obtain ⟨b, hb⟩ := bs_loop t hms _ rfl (((ownL a l).map S1079.Moment).length + 1) 0 ((ownL a l).map S1079.Moment).length (Nat.zero_le _) (List.takeWhile_sublist _).length_le (Nat.le_refl _) (by omega);unfold s1155 s1175;dsimp only;rw [show ((((((ownL a l).map S1079.Moment).length : Nat) : Int) - 0).toNat) + 1 = ((ownL a l).map S1079.Moment).length + 1 by omega];rw [show (0 : Int) = ((0 : Nat) : Int) from rfl, hb];simp only [bindO];rw [htw];have hle : ((ownL a l).takeWhile (fun m => decide (m.Moment < t))).length ≤ (ownL a l).length := (List.takeWhile_sublist _).length_le;have hg := sums_get (ownL a l) 0 _ hle
 have hix : ixO (sums 0 (ownL a l)) ((((ownL a l).takeWhile (fun m => decide (m.Moment < t))).length : Nat) : Int) = some (0 + (((ownL a l).take ((ownL a l).takeWhile (fun m => decide (m.Moment < t))).length).map S1079.Seats).sum) := by
  unfold ixO; rw [decide_eq_true (by omega), cond_true]; simpa using hg
 rw [show ((0 : Nat) : Int) = 0 from rfl, hix];simp only [Int.zero_add]
 congr 1
 have htk : (ownL a l).take ((ownL a l).takeWhile (fun m => decide (m.Moment < t))).length = (ownL a l).takeWhile (fun m => decide (m.Moment < t)) := by
  conv => lhs; arg 2; rw [← List.takeWhile_append_dropWhile (p := fun m => decide (m.Moment < t)) (l := ownL a l)]
  rw [List.take_left]
 rw [htk, tw_filterW t hs];unfold U
 have hp : ((ownL a l).filter (fun m => decide (m.Moment < t))).Perm (l.filter (fun m => s1116 a m && decide (m.Moment < t))) := by
  have h1 := (isort_perm ltM (l.filter fun m => s1116 a m)).filter (fun m => decide (m.Moment < t));rw [List.filter_filter] at h1
  have e : (fun m : S1079 => decide (m.Moment < t) && s1116 a m) = fun m => s1116 a m && decide (m.Moment < t) := by funext m; exact Bool.and_comm _ _
  rw [e] at h1;exact h1
 exact perm_sumI (hp.map S1079.Seats)
theorem U_rng (a : S1063) (t : Int) : ∀ {l : List S1079}, (∀ m ∈ l, 0 ≤ m.Seats ∧ m.Seats ≤ 999) → 0 ≤ U a l t ∧ U a l t ≤ 999 * (l.length : Int)
 | [], _ => by simp [U]
 | m :: l, h => by
  have ih := U_rng a t (l := l) fun x hx => h x (List.mem_cons_of_mem _ hx);have hm := h m List.mem_cons_self;unfold U at *;rw [List.filter_cons];rw [List.length_cons]
  split
  ·rw [List.map_cons, List.sum_cons]; omega
  ·omega
def W (a : S1063) (l : List S1079) (b : Int) : Int := ((l.filter (fun m => (s1113 a m && decide (b ≤ m.Moment)) && decide (m.Moment < b + a.Length))).map S1079.Seats).sum
theorem W_U (a : S1063) (b : Int) (hl : 1 ≤ a.Length) : ∀ (l : List S1079), U a l (b + a.Length) - U a l b = W a l b
 | [] => by simp [U, W]
 | m :: l => by
  have ih := W_U a b hl l;unfold U W at *;have e : s1116 a m = s1113 a m := rfl;rw [List.filter_cons, List.filter_cons, List.filter_cons, e]
  cases hc : s1113 a m
  ·simp only [Bool.false_and, Bool.false_eq_true, if_false]; exact ih
  ·by_cases h1 : m.Moment < b + a.Length <;> by_cases h2 : m.Moment < b
   ·have h3 : ¬ b ≤ m.Moment := by omega
    simp only [h1, h2, h3, decide_true, decide_false, Bool.true_and, Bool.and_true, Bool.false_and, Bool.and_false, if_true, Bool.false_eq_true, if_false, List.map_cons, List.sum_cons]; omega
   ·have h3 : b ≤ m.Moment := by omega
    simp only [h1, h2, h3, decide_true, decide_false, Bool.true_and, Bool.and_true, Bool.false_and, Bool.and_false, if_true, Bool.false_eq_true, if_false, List.map_cons, List.sum_cons]; omega
   ·omega
   ·simp only [h1, h2, decide_true, decide_false, Bool.true_and, Bool.and_true, Bool.false_and, Bool.and_false, if_true, Bool.false_eq_true, if_false, List.map_cons, List.sum_cons]; omega
theorem s1042_run (a : S1063) (b : Int) (hb : IntKind.i64.wrap (b + a.Length) = b + a.Length) : ∀ (l : List S1079) (k : Nat) (x : Int), (∀ m ∈ l, 0 ≤ m.Seats ∧ m.Seats ≤ 999) → 0 ≤ x → x + 999 * (l.length : Int) ≤ 10000000 → s1042_l1 a b l k x = x + W a l b
 | [], k, x, _, _, _ => by simp [s1042_l1, W]
 | m :: l, k, x, h, h0, h1 => by
  have hm := h m List.mem_cons_self;rw [List.length_cons] at h1;rw [s1042_l1, hb];unfold s1042_j1 W;rw [List.filter_cons]
  cases hc : (s1113 a m && decide (b ≤ m.Moment)) && decide (m.Moment < b + a.Length)
  ·rw [cond_false];simp only [Bool.false_eq_true, if_false];exact s1042_run a b hb l _ _ (fun y hy => h y (List.mem_cons_of_mem _ hy)) h0 (by omega)
  ·rw [cond_true, wrap_i64 (by unfold I64; omega)];simp only [if_true, List.map_cons, List.sum_cons];rw [s1042_run a b hb l _ _ (fun y hy => h y (List.mem_cons_of_mem _ hy)) (by omega) (by omega), Int.add_assoc]; rfl
theorem window_ok {a : S1063} {l : List S1079} {b : Int} (h : SeatOk a) (hm : ∀ m ∈ l, 0 ≤ m.Seats ∧ m.Seats ≤ 999) (hl : l.length ≤ 12) (h0 : 0 ≤ b) (h1 : b ≤ 150000000) :
  s1112 ⟨(ownL a l).map S1079.Moment, sums 0 (ownL a l)⟩ b a.Length = some (s1042 a l b) ∧ s1042 a l b = W a l b ∧ 0 ≤ s1042 a l b ∧ s1042 a l b ≤ 11988 := by
 have h2 := h.l0; have h3 := h.l1;have hw : IntKind.i64.wrap (b + a.Length) = b + a.Length := wrap_i64 (by unfold I64; omega);have hr := s1042_run a b hw l 0 0 hm (by decide) (by omega);have hW := W_U a b h2 l;have u1 := U_rng a (b + a.Length) hm;have u2 := U_rng a b hm
 have hWr : 0 ≤ W a l b ∧ W a l b ≤ 11988 := by
  have : ∀ {l : List S1079}, (∀ m ∈ l, 0 ≤ m.Seats ∧ m.Seats ≤ 999) → 0 ≤ W a l b := by
   intro l hm;unfold W
   induction l with
   | nil => simp
   | cons y l ih =>
    have i1 := ih fun x hx => hm x (List.mem_cons_of_mem _ hx);have i2 := hm y List.mem_cons_self;rw [List.filter_cons]; split
    ·rw [List.map_cons, List.sum_cons]; omega
    ·exact i1
  have := this hm
  omega
 have hs : s1042 a l b = W a l b := by unfold s1042; rw [hr, Int.zero_add]
 refine ⟨?_, hs, by rw [hs]; exact hWr.1, by rw [hs]; exact hWr.2⟩;unfold s1112;rw [hw, until_ok, until_ok];simp only [bindO];rw [wrap_i64 (by unfold I64; omega), hW, hs]
def rm (a : S1063) (l : List S1079) (m : Int) : Nat → Int → Int → Int
 | 0, _, x => x
 | n + 1, b, x => if b ≤ m then rm a l m n (b + a.Step) (min x (IntKind.i64.wrap (a.Most - s1042 a l b))) else x
theorem rm_prog (rec1 : Nat → Bool → Int → Option (Int × Int)) {a : S1063} {l : List S1079} {m : Int} (h : SeatOk a) (hm : ∀ m ∈ l, 0 ≤ m.Seats ∧ m.Seats ≤ 999) (hl : l.length ≤ 12) (h1 : m ≤ 143999999) (k4 : Nat) : ∀ (n : Nat) (b x : Int), 0 ≤ b →
  s1045_l2 rec1 k4 a ⟨(ownL a l).map S1079.Moment, sums 0 (ownL a l)⟩ (winL a.Step m n b) x = s1045_j1 rec1 k4 true (rm a l m n b x)
 | 0, b, x, _ => by rw [winL, s1045_l2, rm]
 | n + 1, b, x, hb => by
  rw [winL, rm]
  by_cases hc : b ≤ m
  ·rw [if_pos hc, if_pos hc, s1045_l2, (window_ok h hm hl hb (by omega)).1];simp only [bindO];exact rm_prog rec1 h hm hl h1 k4 n _ _ (by have := h.s0; omega)
  ·rw [if_neg hc, if_neg hc, s1045_l2]
theorem winL_mem {s m : Int} (hs : 1 ≤ s) : ∀ (n : Nat) (b x : Int), x ∈ winL s m n b → b ≤ x ∧ x ≤ m ∧ s ∣ (x - b)
 | 0, b, x, h => by simp [winL] at h
 | n + 1, b, x, h => by
  rw [winL] at h
  by_cases hc : b ≤ m
  ·rw [if_pos hc, List.mem_cons] at h
   rcases h with rfl | h
   ·exact ⟨Int.le_refl _, hc, by simp⟩
   ·have ih := winL_mem hs n (b + s) x h;refine ⟨by omega, ih.2.1, ?_⟩;obtain ⟨q, hq⟩ := ih.2.2;exact ⟨q + 1, by rw [Int.mul_add, Int.mul_one]; omega⟩
  ·rw [if_neg hc] at h; simp at h
theorem winL_has {s m : Int} (hs : 1 ≤ s) : ∀ (n : Nat) (b x : Int), b ≤ x → x ≤ m → s ∣ (x - b) → m + 1 - b ≤ (n : Int) → x ∈ winL s m n b
 | 0, b, x, h1, h2, _, h4 => by omega
 | n + 1, b, x, h1, h2, h3, h4 => by
  rw [winL, if_pos (by omega), List.mem_cons]
  by_cases he : x = b
  ·exact .inl he
  ·refine .inr ?_;obtain ⟨q, hq⟩ := h3
   have hq1 : 1 ≤ q := by
    rcases Int.lt_or_le 0 q with h | h
    ·omega
    ·have := Int.mul_le_mul_of_nonneg_left h (show 0 ≤ s by omega)
     simp at this; omega
   have hq2 : s * 1 ≤ s * q := Int.mul_le_mul_of_nonneg_left hq1 (by omega);exact winL_has hs n (b + s) x (by omega) h2 ⟨q - 1, by rw [Int.mul_sub, Int.mul_one]; omega⟩ (by omega)
theorem winL_srt {s m : Int} (hs : 1 ≤ s) : ∀ (n : Nat) (b : Int), (winL s m n b).Pairwise (· < ·)
 | 0, b => by simp [winL]
 | n + 1, b => by
  rw [winL]
  split
  ·rw [List.pairwise_cons];exact ⟨fun x hx => by have := (winL_mem hs n _ x hx).1; omega, winL_srt hs n _⟩
  ·exact List.Pairwise.nil
theorem wins_iff {a : S1063} {m b : Int} (h : SeatOk a) (h0 : 0 ≤ m) (h1 : m ≤ 143999999) : b ∈ winsOf a m ↔ a.Step ∣ b ∧ 0 ≤ b ∧ m - a.Length + 1 ≤ b ∧ b ≤ m := by
 have hr := win0_rng h h0 h1;have hs := h.s0;have hL := h.l1;have hd : a.Step ∣ win0 a.Length a.Step m := ⟨_, by unfold win0; exact Int.mul_comm _ _⟩;unfold winsOf
 constructor
 ·intro hb;have := winL_mem hs _ _ _ hb;refine ⟨?_, by omega, by omega, this.2.1⟩;have h3 := Int.dvd_add this.2.2 hd
  rwa [Int.sub_add_cancel] at h3
 ·rintro ⟨hb, hb0, hb1, hb2⟩;refine winL_has hs _ _ _ ?_ hb2 (Int.dvd_sub hb hd) (by omega);obtain ⟨q, rfl⟩ := hb;unfold win0;rw [Int.mul_comm a.Step q];refine Int.mul_le_mul_of_nonneg_right ?_ (by omega)
  have : (max 0 (m - a.Length + 1) + a.Step - 1) / a.Step < q + 1 := by
   refine Int.ediv_lt_of_lt_mul (by omega) ?_;rw [Int.add_mul, Int.one_mul, Int.mul_comm q]
   omega
  omega
theorem find_min {p : Int → Bool} : ∀ {L : List Int}, L.Pairwise (· < ·) → ∀ {b}, L.find? p = some b → ∀ b' ∈ L, p b' = true → b ≤ b'
 | [], _, b, h => by simp at h
 | x :: L, hs, b, h => by
  rw [List.pairwise_cons] at hs;intro b' hb' hp;rw [List.find?_cons] at h
  cases hx : p x
  ·rw [hx] at h
   rcases List.mem_cons.1 hb' with rfl | hm
   ·rw [hx] at hp; cases hp
   ·exact find_min hs.2 h b' hm hp
  ·rw [hx] at h; cases h
   rcases List.mem_cons.1 hb' with rfl | hm
   ·exact Int.le_refl _
   ·have := hs.1 b' hm; omega
theorem find_wins {a : S1063} (h : SeatOk a) {p : Int → Bool} : ∀ {ms : List Int}, ms.Pairwise (· ≤ ·) → (∀ m ∈ ms, 0 ≤ m ∧ m ≤ 143999999) → ∀ {b}, (ms.flatMap (winsOf a)).find? p = some b → ∀ b' ∈ ms.flatMap (winsOf a), p b' = true → b ≤ b'
 | [], _, _, b, hf => by simp at hf
 | m :: ms, hs, hr, b, hf => by
  rw [List.pairwise_cons] at hs;have hm := hr m List.mem_cons_self;have hr' := fun x hx => hr x (List.mem_cons_of_mem m hx);intro b' hb' hp;rw [List.flatMap_cons, List.find?_append] at hf;rw [List.flatMap_cons, List.mem_append] at hb';have hso : (winsOf a m).Pairwise (· < ·) := winL_srt h.s0 _ _
  cases hx : (winsOf a m).find? p with
  | none =>
   rw [hx] at hf
   rcases hb' with hb' | hb'
   ·have := List.find?_eq_none.1 hx b' hb'; exact absurd hp this
   ·exact find_wins h hs.2 hr' (by simpa using hf) b' hb' hp
  | some c =>
   rw [hx] at hf
   have hcb : c = b := by simpa using hf
   subst hcb
   rcases hb' with hb' | hb'
   ·exact find_min hso hx b' hb' hp
   ·obtain ⟨m', hm', hb''⟩ := List.mem_flatMap.1 hb';have hmr := hr' m' hm';have hle := hs.1 m' hm';rw [wins_iff h hmr.1 hmr.2] at hb''
    rcases Int.lt_or_le b' c with hlt | hle2
    ·have hcm := (wins_iff h hm.1 hm.2).1 (List.mem_of_find?_eq_some hx);refine find_min hso hx b' ((wins_iff h hm.1 hm.2).2 ⟨hb''.1, hb''.2.1, by omega, by omega⟩) hp
    ·exact hle2
def ExB (a : S1063) (l : List S1079) (b : Int) : Bool := decide (a.Most < s1042 a l b)
def updS (a : S1063) (l : List S1079) (S : Option Int) (b : Int) : Option Int := if ExB a l b = true ∧ (S = none ∨ ∃ c, S = some c ∧ b < c) then some b else S
theorem updS_fold (a : S1063) (l : List S1079) : ∀ (L : List Int) (S : Option Int), (∀ c, S = some c → ExB a l c = true) →
  (L.foldl (updS a l) S = none → S = none ∧ ∀ b ∈ L, ExB a l b = false) ∧
  (∀ c, L.foldl (updS a l) S = some c → ExB a l c = true ∧ (S = some c ∨ c ∈ L) ∧ (∀ b ∈ L, ExB a l b = true → c ≤ b) ∧ ∀ d, S = some d → c ≤ d)
 | [], S, hS => ⟨fun h => ⟨h, by simp⟩, fun c h => ⟨hS c h, .inl h, by simp, fun d hd => by rw [show ([] : List Int).foldl (updS a l) S = S from rfl, hd] at h; cases h; exact Int.le_refl _⟩⟩
 | x :: L, S, hS => by
  rw [List.foldl_cons]
  have hu : ∀ c, updS a l S x = some c → ExB a l c = true := by
   intro c h;unfold updS at h
   split at h
   ·rename_i q; cases h; exact q.1
   ·exact hS c h
  have ih := updS_fold a l L (updS a l S x) hu;refine ⟨fun h => ?_, fun c h => ?_⟩
  ·have i1 := ih.1 h;have i2 := i1.1;unfold updS at i2
   split at i2
   ·cases i2
   ·rename_i q
    refine ⟨i2, fun b hb => ?_⟩
    rcases List.mem_cons.1 hb with rfl | hb
    ·cases he : ExB a l b
     ·rfl
     ·exact absurd ⟨he, .inl i2⟩ q
    ·exact i1.2 b hb
  ·obtain ⟨j1, j2, j3, j4⟩ := ih.2 c h;refine ⟨j1, ?_, ?_, ?_⟩
   ·rcases j2 with j2 | j2
    ·unfold updS at j2
     split at j2
     ·cases j2; exact .inr List.mem_cons_self
     ·exact .inl j2
    ·exact .inr (List.mem_cons_of_mem _ j2)
   ·intro b hb he
    rcases List.mem_cons.1 hb with rfl | hb
    ·by_cases hq : S = none ∨ ∃ c, S = some c ∧ b < c
     ·exact j4 b (by unfold updS; rw [if_pos ⟨he, hq⟩])
     ·cases hS' : S with
      | none => exact absurd (.inl hS') hq
      | some d =>
       have hbd : ¬ b < d := fun q => hq (.inr ⟨d, hS', q⟩);have := j4 d (by unfold updS; rw [if_neg (fun q => hq q.2)]; exact hS')
       omega
    ·exact j3 b hb he
   ·intro d hd
    by_cases hq : ExB a l x = true ∧ (S = none ∨ ∃ c, S = some c ∧ x < c)
    ·have := j4 x (by unfold updS; rw [if_pos hq])
     rcases hq.2 with h1 | ⟨e, h1, h2⟩
     ·rw [h1] at hd; cases hd
     ·rw [h1] at hd; cases hd; omega
    ·exact j4 d (by unfold updS; rw [if_neg hq]; exact hd)
theorem ex_has {a : S1063} {l : List S1079} {b : Int} (h : SeatOk a) (hm : ∀ m ∈ l, MovOk m) (hl : l.length ≤ 12) (h0 : 0 ≤ b) (h1 : b ≤ 150000000) (he : ExB a l b = true) :
  ∃ m ∈ l, s1113 a m = true ∧ b ≤ m.Moment ∧ m.Moment < b + a.Length := by
 have hw := window_ok h (fun m hmm => ⟨(hm m hmm).s0, (hm m hmm).s1⟩) hl h0 h1;have he := of_decide_eq_true he;rw [hw.2.1] at he;unfold W at he
 cases hf : l.filter (fun m => (s1113 a m && decide (b ≤ m.Moment)) && decide (m.Moment < b + a.Length)) with
 | nil => rw [hf] at he; have := h.m0; simp at he; omega
 | cons m t =>
  have : m ∈ l.filter (fun m => (s1113 a m && decide (b ≤ m.Moment)) && decide (m.Moment < b + a.Length)) := by rw [hf]; exact List.mem_cons_self
  obtain ⟨p, q⟩ := List.mem_filter.1 this;simp only [Bool.and_eq_true, decide_eq_true_eq] at q;exact ⟨m, p, q.1.1, q.1.2, q.2⟩
theorem first_eq {a : S1063} {l : List S1079} (h : SeatOk a) (hm : ∀ m ∈ l, MovOk m) (hl : l.length ≤ 12) :
  (((ownL a l).map S1079.Moment).flatMap (winsOf a)).find? (ExB a l) = (l.flatMap (fun m => winsOf a m.Moment)).foldl (updS a l) none := by
 have hf := updS_fold a l (l.flatMap (fun m => winsOf a m.Moment)) none (fun c h => by cases h)
 have mo : ∀ y, y ∈ ownL a l ↔ y ∈ l ∧ s1116 a y = true := fun y => by
  unfold ownL; rw [(isort_perm ltM (l.filter fun m => s1116 a m)).mem_iff, List.mem_filter]
 have hr : ∀ t ∈ (ownL a l).map S1079.Moment, 0 ≤ t ∧ t ≤ 143999999 := fun t ht => by
  obtain ⟨y, hy, rfl⟩ := List.mem_map.1 ht;have := hm y ((mo y).1 hy).1;exact ⟨this.m0, this.m1⟩
 have sub1 : ∀ b ∈ ((ownL a l).map S1079.Moment).flatMap (winsOf a), b ∈ l.flatMap (fun m => winsOf a m.Moment) := fun b hb => by
  obtain ⟨t, ht, hb⟩ := List.mem_flatMap.1 hb;obtain ⟨y, hy, rfl⟩ := List.mem_map.1 ht;exact List.mem_flatMap.2 ⟨y, ((mo y).1 hy).1, hb⟩
 have sub2 : ∀ b ∈ l.flatMap (fun m => winsOf a m.Moment), ExB a l b = true → b ∈ ((ownL a l).map S1079.Moment).flatMap (winsOf a) := fun b hb he => by
  obtain ⟨m, hmm, hb⟩ := List.mem_flatMap.1 hb;have mk := hm m hmm;rw [wins_iff h mk.m0 mk.m1] at hb;have k1 := mk.m1;obtain ⟨y, hy, hc, h3, h4⟩ := ex_has h hm hl hb.2.1 (by omega) he;have yk := hm y hy;refine List.mem_flatMap.2 ⟨y.Moment, List.mem_map.2 ⟨y, (mo y).2 ⟨hy, hc⟩, rfl⟩, ?_⟩;exact (wins_iff h yk.m0 yk.m1).2 ⟨hb.1, hb.2.1, by omega, h3⟩
 have hso : ((ownL a l).map S1079.Moment).Pairwise (· ≤ ·) := List.pairwise_map.2 (own_sorted a l)
 cases hF : (l.flatMap (fun m => winsOf a m.Moment)).foldl (updS a l) none with
 | none =>
  have := (hf.1 hF).2
  exact List.find?_eq_none.2 fun b hb => by rw [this b (sub1 b hb)]; simp
 | some c =>
  obtain ⟨j1, j2, j3, _⟩ := hf.2 c hF
  have hc : c ∈ l.flatMap (fun m => winsOf a m.Moment) := by
   rcases j2 with j2 | j2
   ·cases j2
   ·exact j2
  cases hP : (((ownL a l).map S1079.Moment).flatMap (winsOf a)).find? (ExB a l) with
  | none => exact absurd j1 (List.find?_eq_none.1 hP c (sub2 c hc j1))
  | some d =>
   have d1 := find_wins h hso hr hP c (sub2 c hc j1) j1;have d2 := j3 d (sub1 d (List.mem_of_find?_eq_some hP)) (List.find?_some hP);rw [show c = d by omega]
theorem ex_p3 (rec2 : Nat → Int → Int → Int → Int → Option (S1071 × Int)) {a : S1063} {l : List S1079} (h : SeatOk a) (hm : ∀ m ∈ l, 0 ≤ m.Seats ∧ m.Seats ≤ 999) (hl : l.length ≤ 12) (k k15 : Nat) : ∀ (ws : List Int) (x y z t : Int), (∀ b ∈ ws, 0 ≤ b ∧ b ≤ 150000000) →
  s1043_l3 rec2 k a ⟨(ownL a l).map S1079.Moment, sums 0 (ownL a l)⟩ k15 ws x y z t = (match ws.find? (ExB a l) with | some b => some (⟨(k : Int), b, s1042 a l b⟩, 0) | none => rec2 (k15 + 1) x y z t)
 | [], x, y, z, t, _ => by rw [s1043_l3]; rfl
 | b :: ws, x, y, z, t, hw => by
  have hb := hw b List.mem_cons_self;rw [s1043_l3, (window_ok h hm hl hb.1 hb.2).1];simp only [bindO];rw [List.find?_cons];unfold ExB
  cases hc : decide (a.Most < s1042 a l b)
  ·rw [cond_false, ex_p3 rec2 h hm hl k k15 ws x y z t fun c hc => hw c (List.mem_cons_of_mem _ hc)]; rfl
  ·rw [cond_true]
theorem ex_p2 (rec1 : Nat → Int → Int → Int → Int → Option (S1071 × Int)) {a : S1063} {l : List S1079} (h : SeatOk a) (hm : ∀ m ∈ l, 0 ≤ m.Seats ∧ m.Seats ≤ 999) (hl : l.length ≤ 12) (k : Nat) : ∀ (ms : List Int) (k15 : Nat) (x y z t : Int), (∀ m ∈ ms, 0 ≤ m ∧ m ≤ 143999999) →
  s1043_l2 rec1 k a ⟨(ownL a l).map S1079.Moment, sums 0 (ownL a l)⟩ ms k15 x y z t = (match (ms.flatMap (winsOf a)).find? (ExB a l) with | some b => some (⟨(k : Int), b, s1042 a l b⟩, 0) | none => rec1 (k + 1) x y z t)
 | [], k15, x, y, z, t, _ => by rw [s1043_l2]; rfl
 | m :: ms, k15, x, y, z, t, hr => by
  have hmr := hr m List.mem_cons_self;rw [s1043_l2, ex_p3 _ h hm hl k k15 _ x y z t (fun b hb => by have := (wins_iff h hmr.1 hmr.2).1 hb; omega), List.flatMap_cons, List.find?_append]
  cases hf : (winsOf a m).find? (ExB a l) with
  | some b => rfl
  | none =>
   have ih := ex_p2 rec1 h hm hl k ms (k15 + 1) x y z t fun c hc => hr c (List.mem_cons_of_mem _ hc)
   simpa using ih
def winsAll (a : S1063) (l : List S1079) : List Int := l.flatMap (fun m => winsOf a m.Moment)
theorem rm_spec {a : S1063} {l : List S1079} {m : Int} (h : SeatOk a) (hs : ∀ m ∈ l, 0 ≤ m.Seats ∧ m.Seats ≤ 999) (hl : l.length ≤ 12) (h1 : m ≤ 143999999) : ∀ (n : Nat) (b x : Int), 0 ≤ b →
  rm a l m n b x ≤ x ∧ (∀ c ∈ winL a.Step m n b, rm a l m n b x ≤ a.Most - s1042 a l c) ∧ (rm a l m n b x = x ∨ ∃ c ∈ winL a.Step m n b, rm a l m n b x = a.Most - s1042 a l c)
 | 0, b, x, _ => ⟨Int.le_refl _, by simp [winL], .inl rfl⟩
 | n + 1, b, x, hb => by
  rw [rm, winL]
  by_cases hc : b ≤ m
  ·rw [if_pos hc, if_pos hc];have hw := window_ok h hs hl hb (by omega);have hmost := h.m1;have hm0 := h.m0;rw [wrap_i64 (by unfold I64; omega)];have ih := rm_spec h hs hl h1 n (b + a.Step) (min x (a.Most - s1042 a l b)) (by have := h.s0; omega);refine ⟨by omega, fun c hc => ?_, ?_⟩
   ·rcases List.mem_cons.1 hc with rfl | hc
    ·omega
    ·exact ih.2.1 c hc
   ·rcases ih.2.2 with q | ⟨c, hc, q⟩
    ·by_cases hx : x ≤ a.Most - s1042 a l b
     ·exact .inl (by omega)
     ·exact .inr ⟨b, List.mem_cons_self, by omega⟩
    ·exact .inr ⟨c, List.mem_cons_of_mem _ hc, q⟩
  ·rw [if_neg hc, if_neg hc]; exact ⟨Int.le_refl _, by simp, .inl rfl⟩
theorem movs_iff (a : List S1079) : ∀ (t : List S1079) (k : Nat), s1099_l1 a s1100 t k = 0 ↔ ∀ y ∈ t, s1100 y [] = 0
 | [], k => by simp [s1099_l1]
 | y :: t, k => by
  rw [s1099_l1];have e : s1100 y (List.take (Int.toNat ((k : Nat) : Int)) a) = s1100 y [] := rfl;rw [e]
  by_cases h : s1100 y [] = 0
  ·rw [decide_eq_false (fun q => q h), cond_false, movs_iff a t (k + 1)]; simp [h]
  ·rw [decide_eq_true h, cond_true]; simp [h]
theorem movs_zero {l : List S1079} : s1027 l = 0 ↔ l.length ≤ 256 ∧ ∀ y ∈ l, s1100 y [] = 0 := by
 unfold s1027 s1099
 by_cases h : (256 : Int) < (l.length : Int)
 ·rw [decide_eq_true h, cond_true];exact ⟨fun q => absurd q (by decide), fun q => absurd q.1 (by omega)⟩
 ·rw [decide_eq_false h, cond_false, movs_iff];exact ⟨fun q => ⟨by omega, q⟩, fun q => q.2⟩
end Go.Sim
set_option maxRecDepth 10000
namespace Go.Sim
open Go.Proofs
abbrev kA : ByteArray := ⟨#[65]⟩
abbrev kD : ByteArray := ⟨#[68]⟩
abbrev kT : ByteArray := ⟨#[84]⟩
abbrev e0 : ByteArray := ⟨#[]⟩
def cL (kd : ByteArray) (most d : Int) : S2062 := ⟨⟨#[104, 111, 117, 114]⟩, kd, e0, 60, 60, 0, 1439, ⟨d, d + 2, 127⟩, most⟩
def sL (kd : ByteArray) (most : Int) : S1063 := ⟨e0, kd, 60, 60, most⟩
structure KOk3 (kd : ByteArray) (most d : Int) : Prop where
 k : kd = kA ∨ kd = kD ∨ kd = kT
 m0 : 0 ≤ most
 m1 : most ≤ 3
 d0 : 0 ≤ d
 d1 : d ≤ 90000
theorem s155_in {a b c : Int} (h : b ≤ a) (h2 : a ≤ c) : s155 a b c = 0 := by
 unfold s155 s154;rw [decide_eq_false (by omega), decide_eq_false (by omega)]; rfl
theorem per_zero {d : Int} (h0 : 0 ≤ d) (h1 : d ≤ 90000) : s102 ⟨d, d + 2, 127⟩ = 0 := by
 unfold s102;have e1 : s153 d = 0 := s155_in (by omega) (by omega);have e2 : s153 (d + 2) = 0 := s155_in (by omega) (by omega)
 have e3 : s154 (decide (d + 2 < d)) 11 = 0 := by rw [decide_eq_false (by omega)]; rfl
 have e4 : s154 (decide (400 < IntKind.i64.wrap (d + 2 - d))) 4 = 0 := by
  rw [show d + 2 - d = 2 by omega]; rfl
 have e5 : s155 127 1 127 = 0 := by decide
 dsimp only;rw [e1, e2, e3, e4, e5]
 rfl
theorem cL_zero {kd : ByteArray} {most d : Int} (h : KOk3 kd most d) : s2057 (cL kd most d) = 0 := by
 have h0 := h.m0; have h1 := h.m1;refine s2057_zero.2 ⟨?_, ?_, .inl rfl, by dsimp only [cL]; decide, by dsimp only [cL]; decide, by dsimp only [cL]; decide, by dsimp only [cL]; decide, by dsimp only [cL]; decide, per_zero h.d0 h.d1, ⟨h0, by show most ≤ _; omega⟩⟩
 ·dsimp only [cL]; rw [name_eq]; decide
 ·show mhas kindL kd = true
  rcases h.k with rfl | rfl | rfl <;> decide
theorem cL_ok {kd : ByteArray} {most d : Int} (h : KOk3 kd most d) : LimOk (cL kd most d) := lim_ok (cL_zero h)
theorem sL_ok {kd : ByteArray} {most d : Int} (h : KOk3 kd most d) : s1029 [sL kd most] = 0 ∧ SeatOk (sL kd most) := by
 have h0 := h.m0; have h1 := h.m1
 have hz : s1102 (sL kd most) [] = 0 := by
  unfold s1102;rw [s1085_eq, s89_zero];simp only [List.mem_cons, List.not_mem_nil, or_false, forall_eq_or_imp, forall_eq, sL];refine ⟨by decide, ?_, by decide, by decide, ?_⟩
  ·rw [s1086_zero _ _ (by decide), s88_eq]
   rcases h.k with rfl | rfl | rfl <;> decide
  ·rw [s1088_eq, s90_zero]; omega
 refine ⟨?_, ⟨by dsimp only [sL]; decide, by dsimp only [sL]; decide, by dsimp only [sL]; decide, by dsimp only [sL]; decide, h0, by show most ≤ _; omega, h.k⟩⟩;unfold s1029 s1101;rw [show decide ((32 : Int) < (List.length [sL kd most] : Int)) = false from rfl, cond_false];unfold s1101_l1;have e : s1102 (sL kd most) (List.take (Int.toNat ((0 : Nat) : Int)) [sL kd most]) = s1102 (sL kd most) [] := rfl;rw [e, hz]
 rfl
def mt (kd : ByteArray) (m : S1079) : Bool := decide (kd = kT) || decide (kd = m.Kind)
def cn (kd : ByteArray) (l : List S1079) (t : Int) : Int := ((l.filter (fun m => mt kd m && (decide (t ≤ m.Moment) && decide (m.Moment < t + 60)))).length : Nat)
theorem kind_is {kd : ByteArray} {most d : Int} (h : KOk3 kd most d) : (mgetD kindL kd none).isSome = true := kind_some.2 h.k
theorem s2116_mt {kd : ByteArray} {most d : Int} (h : KOk3 kd most d) (m : S1079) : s2116 (cL kd most d) m.Kind m.Terminal = mt kd m := by
 unfold s2116 mt cL;rw [kcnt_eq (kind_is h)]
 simp
theorem s1113_mt {kd : ByteArray} {most : Int} (m : S1079) : s1113 (sL kd most) m = mt kd m := by
 unfold s1113 mt sL
 simp
theorem ofL_eq {kd : ByteArray} {most d : Int} (h : KOk3 kd most d) (l : List S1079) : ofL (cL kd most d) l = (l.filter (mt kd)).map S1079.Moment := by
 unfold ofL;rw [show (fun m : S1079 => s2116 (cL kd most d) m.Kind m.Terminal) = mt kd from funext (s2116_mt h)]
theorem cnt_cn {kd : ByteArray} {most d : Int} (h : KOk3 kd most d) (l : List S1079) (t : Int) : cntI (ofL (cL kd most d) l) t 60 = cn kd l t := by
 rw [ofL_eq h];unfold cntI cn;rw [List.filter_map, List.length_map, List.filter_filter]
 congr 3
 funext m
 simp [Function.comp, Bool.and_comm]
theorem W_cn {kd : ByteArray} {most : Int} (t : Int) : ∀ (l : List S1079), (∀ m ∈ l, m.Seats = 1) → W (sL kd most) l t = cn kd l t
 | [], _ => rfl
 | m :: l, h => by
  have ih := W_cn (kd := kd) (most := most) t l fun x hx => h x (List.mem_cons_of_mem _ hx);have hm := h m List.mem_cons_self;unfold W cn at *;rw [List.filter_cons, List.filter_cons, s1113_mt, Bool.and_assoc];have e : (sL kd most).Length = 60 := rfl;rw [e] at ih ⊢
  split
  ·rw [List.map_cons, List.sum_cons, List.length_cons, ih, hm]; push_cast; omega
  ·exact ih
def dbl (m : S1079) : S1079 := ⟨m.Moment, m.Kind, m.Terminal, 2, m.Size, m.Noise, m.Name⟩
theorem W_dbl {kd : ByteArray} {most : Int} (t : Int) : ∀ (l : List S1079), W (sL kd most) (l.map dbl) t = 2 * cn kd l t
 | [] => rfl
 | m :: l => by
  have ih := W_dbl (kd := kd) (most := most) t l;unfold W cn at *;rw [List.map_cons, List.filter_cons, List.filter_cons, s1113_mt, Bool.and_assoc];have e : (sL kd most).Length = 60 := rfl;rw [e] at ih ⊢;have e2 : mt kd (dbl m) = mt kd m := rfl;have e3 : (dbl m).Moment = m.Moment := rfl;rw [e2, e3]
  split
  ·rw [List.map_cons, List.sum_cons, List.length_cons, ih, show (dbl m).Seats = 2 from rfl]; push_cast; omega
  ·exact ih
theorem cn_rng (kd : ByteArray) (l : List S1079) (t : Int) : 0 ≤ cn kd l t ∧ cn kd l t ≤ l.length := by
 unfold cn;have := List.length_filter_le (fun m => mt kd m && (decide (t ≤ m.Moment) && decide (m.Moment < t + 60))) l
 omega
theorem cn_pos {kd : ByteArray} {l : List S1079} {t : Int} (h : 0 < cn kd l t) : ∃ m ∈ l, mt kd m = true ∧ t ≤ m.Moment ∧ m.Moment < t + 60 := by
 unfold cn at h
 have h : 0 < (l.filter (fun m => mt kd m && (decide (t ≤ m.Moment) && decide (m.Moment < t + 60)))).length := by omega
 obtain ⟨m, hm⟩ := List.exists_mem_of_length_pos h;obtain ⟨p, q⟩ := List.mem_filter.1 hm;simp only [Bool.and_eq_true, decide_eq_true_eq] at q;exact ⟨m, p, q.1, q.2.1, q.2.2⟩
end Go.Sim
set_option maxRecDepth 10000
namespace Go.Sim
open Go.Proofs
theorem in127 {w : Int} (h0 : 0 ≤ w) (h1 : w ≤ 6) : s187 127 w = true := by
 have : w = 0 ∨ w = 1 ∨ w = 2 ∨ w = 3 ∨ w = 4 ∨ w = 5 ∨ w = 6 := by omega
 rcases this with rfl | rfl | rfl | rfl | rfl | rfl | rfl <;> decide
theorem has_day {kd : ByteArray} {most d : Int} (h : KOk3 kd most d) {x : Int} (h0 : d ≤ x) (h1 : x ≤ d + 2) : s2115 (cL kd most d) x = true := by
 have d0 := h.d0; have d1 := h.d1
 have e : s2148 ⟨d, d + 2, 127⟩ x = (true, 0) := by
  unfold s2148;have e1 : s153 x = 0 := s155_in (by omega) (by omega);rw [per_zero d0 d1, e1];have e2 : s152 [0, 0] = 0 := rfl;rw [e2, decide_eq_false (by simp), cond_false];unfold s2171;dsimp only;rw [decide_eq_true h0, decide_eq_true h1]
  have h6 : 0 ≤ s188 x ∧ s188 x ≤ 6 := by
   unfold s188;rw [wrap_i64 (by unfold I64; omega), Int.tmod_eq_emod_of_nonneg (by omega)];have := Int.emod_nonneg (x + 5) (show (7 : Int) ≠ 0 by decide);have := Int.emod_lt_of_pos (x + 5) (show (0 : Int) < 7 by decide)
   omega
  rw [in127 h6.1 h6.2]
  rfl
 unfold s2115;rw [show (cL kd most d).Period = ⟨d, d + 2, 127⟩ from rfl, e]
 rfl
theorem bN24 (kd : ByteArray) (most d : Int) : bN (cL kd most d) = 24 ∧ bF (cL kd most d) = 0 := by
 unfold bN bF cL;exact ⟨by dsimp only; decide, by dsimp only; decide⟩
theorem beg_in {kd : ByteArray} {most d : Int} (h : KOk3 kd most d) {x : Int} (h0 : d ≤ x) (h1 : x ≤ d + 2) : begL (cL kd most d) x = (List.range 24).map fun n => 1440 * x + 60 * ((n : Nat) : Int) := by
 have d0 := h.d0; have d1 := h.d1;unfold begL;rw [has_day h h0 h1];have e : (cL kd most d).Period = ⟨d, d + 2, 127⟩ := rfl;rw [e];dsimp only;rw [decide_eq_false (by omega : ¬ x < d), decide_eq_false (by omega : ¬ d + 2 < x)];simp only [Bool.or_self, Bool.not_true, cond_false];rw [(bN24 kd most d).1];refine List.map_congr_left fun n hn => ?_;rw [List.mem_range] at hn;have := (bAt_eq (cL_ok h) (d := x) (by omega) (by omega) (n := n) (by rw [(bN24 kd most d).1]; exact hn)).1;rw [this, (bN24 kd most d).2];show 1440 * x + 60 * (0 + (n : Int)) = _;rw [Int.zero_add]
theorem beg_out {kd : ByteArray} {most d x : Int} (h : x < d ∨ d + 2 < x) : begL (cL kd most d) x = [] := by
 unfold begL;have e : (cL kd most d).Period = ⟨d, d + 2, 127⟩ := rfl;rw [e];dsimp only
 rcases h with h | h
 ·rw [decide_eq_true h]; rfl
 ·rw [decide_eq_true h]; simp
theorem beg_mem {kd : ByteArray} {most d : Int} (h : KOk3 kd most d) {x t : Int} : t ∈ begL (cL kd most d) x ↔ d ≤ x ∧ x ≤ d + 2 ∧ (60 : Int) ∣ t ∧ 1440 * x ≤ t ∧ t < 1440 * x + 1440 := by
 by_cases hx : d ≤ x ∧ x ≤ d + 2
 ·rw [beg_in h hx.1 hx.2]
  constructor
  ·intro ht;obtain ⟨n, hn, rfl⟩ := List.mem_map.1 ht;rw [List.mem_range] at hn;refine ⟨hx.1, hx.2, ⟨24 * x + n, by omega⟩, by omega, by omega⟩
  ·rintro ⟨_, _, ⟨q, rfl⟩, h1, h2⟩;refine List.mem_map.2 ⟨(q - 24 * x).toNat, List.mem_range.2 (by omega), by omega⟩
 ·rw [beg_out (by omega)]
  constructor
  ·intro h; cases h
  ·rintro ⟨h1, h2, _⟩; exact absurd ⟨h1, h2⟩ hx
theorem win_mem {kd : ByteArray} {most d : Int} (h : KOk3 kd most d) {t : Int} : t ∈ windL (cL kd most d) ↔ (60 : Int) ∣ t ∧ 1440 * d ≤ t ∧ t < 1440 * d + 4320 := by
 unfold windL wdsL;have e : (cL kd most d).Period = ⟨d, d + 2, 127⟩ := rfl;rw [e];dsimp only;rw [show (d + 2 + 1 - d).toNat = 3 by omega];rw [List.mem_flatMap]
 constructor
 ·rintro ⟨k, hk, ht⟩;rw [List.mem_range] at hk;have := (beg_mem h).1 ht;exact ⟨this.2.2.1, by omega, by omega⟩
 ·rintro ⟨h1, h2, h3⟩;refine ⟨((t - 1440 * d) / 1440).toNat, List.mem_range.2 (by omega), (beg_mem h).2 ⟨by omega, by omega, h1, by omega, by omega⟩⟩
theorem win_srt {kd : ByteArray} {most d : Int} (h : KOk3 kd most d) : (windL (cL kd most d)).Pairwise (· < ·) := by
 unfold windL wdsL;have e : (cL kd most d).Period = ⟨d, d + 2, 127⟩ := rfl;rw [e];dsimp only;rw [show (d + 2 + 1 - d).toNat = 3 by omega];rw [List.pairwise_flatMap];refine ⟨fun k hk => ?_, List.pairwise_lt_range.imp_of_mem fun {i j} hi hj hij x hx y hy => ?_⟩
 ·rw [List.mem_range] at hk;rw [beg_in h (by omega) (by omega)];exact List.pairwise_map.2 (List.pairwise_lt_range.imp fun hij => by omega)
 ·have h1 := (beg_mem h).1 hx;have h2 := (beg_mem h).1 hy
  omega
theorem find_least {p : Int → Bool} : ∀ {l : List Int}, l.Pairwise (· < ·) → (l.find? p = none → ∀ b ∈ l, p b = false) ∧ ∀ t, l.find? p = some t → p t = true ∧ t ∈ l ∧ ∀ b ∈ l, p b = true → t ≤ b
 | [], _ => ⟨fun _ b hb => (by cases hb), fun t h => by cases h⟩
 | x :: l, hs => by
  rw [List.pairwise_cons] at hs;have ih := find_least (p := p) hs.2;rw [List.find?_cons]
  cases hx : p x with
  | true =>
   refine ⟨fun h => (by cases h), fun t h => ?_⟩
   cases h
   refine ⟨hx, List.mem_cons_self, fun b hb _ => ?_⟩
   rcases List.mem_cons.1 hb with rfl | hb
   ·exact Int.le_refl _
   ·exact Int.le_of_lt (hs.1 b hb)
  | false =>
   refine ⟨fun h b hb => ?_, fun t h => ?_⟩
   ·rcases List.mem_cons.1 hb with rfl | hb
    ·exact hx
    ·exact ih.1 h b hb
   ·obtain ⟨h1, h2, h3⟩ := ih.2 t h;refine ⟨h1, List.mem_cons_of_mem _ h2, fun b hb hp => ?_⟩
    rcases List.mem_cons.1 hb with rfl | hb
    ·rw [hx] at hp; cases hp
    ·exact h3 b hb hp
structure MsH (d : Int) (l : List S1079) : Prop where
 gr : ∀ m ∈ l, s1100 m [] = 0
 s : ∀ m ∈ l, m.Seats = 1
 lo : ∀ m ∈ l, 1440 * d ≤ m.Moment
 hi : ∀ m ∈ l, m.Moment < 1440 * d + 4320
 srt : (l.map S1079.Moment).Pairwise (· ≤ ·)
 len : l.length ≤ 8
end Go.Sim
set_option maxRecDepth 10000
namespace Go.Sim
open Go.Proofs
def s2018_l1  : List S2068 → Int → Int → Int → Int → Option (S2068 × Int)
 | [], x2, x3, x4, x5 => some ((S2068.mk 0 0 0), 7)
 | y6 :: t7, x2, x3, x4, x5 => some (y6, 0)
def s2018 (a0 : List S2062) (a1 : List S1079) : Option (S2068 × Int) :=
 bindO (s2050 a0 a1) fun r1 => (bif decide (r1 ≠ 0) then some ((S2068.mk 0 0 0), r1) else s2018_l1 (exL a1 a0 0) 0 0 0 0)
theorem c2018 {g : List (Nat × List Value)} (a0 : List S2062) (a1 : List S1079) {R : S2068 × Int}  (hb : a1.length ≤ 1000) (hR : s2018 a0 a1 = some R) : Con (EG g) 18 [G.sl 11 (List.map S2062.c a0), G.sl 7 (List.map S1079.c a1)] (G.tup [G.agg [G.int R.1.Limit, G.int R.1.Begin, G.int R.1.Count], G.int R.2]) := by
 unfold s2018 at hR;refine con_of_awm Tryz.func18 rfl rfl (inert_tup (inert_cons (inert_agg (inert_cons (inert_lit _) (inert_cons (inert_lit _) (inert_cons (inert_lit _) inert_nil)))) (inert_cons (inert_lit _) inert_nil))) fun w0 M0 => ?_;refine len_sl (f := S2062.c) (l := a0) 0 rfl fun hla0 => ?_;refine len_sl (f := S1079.c) (l := a1) 1 rfl fun hla1 => ?_;refine aw_seq ?_;refine aw_region [.w, .w] ?_;refine st_w rfl rfl (eff_alloc 4 rfl z2069 rfl rfl) rfl ?_;refine st_w rfl rfl (eff_alloc 5 rfl z37 rfl rfl) rfl ?_;refine st_nil ?_;refine aw_seq ?_;refine aw_seq ?_;obtain ⟨r1, br1, hR⟩ := bindO_inv hR;refine aw_region [.p, .p, .p, .p] ?_;refine st rfl rfl (eff_moveg rfl rfl) rfl ?_;refine st rfl rfl (eff_moveg rfl rfl) rfl ?_;refine st rfl rfl (eff_call rfl K2050 rfl (c2050 a0 a1 br1) (ag_cons rfl (ag_cons rfl ag_nil))) rfl ?_;refine st rfl rfl (eff_assigng rfl rfl) rfl ?_;refine st_nil ?_;refine aw_seq ?_;refine aw_region [.p, .p] ?_;refine st rfl rfl (eff_moveg rfl rfl) rfl ?_;refine st rfl rfl (eff_neq rfl rfl rfl) rfl ?_;refine st_nil ?_;refine aw_cond _ rfl (fun h1 => ?_) (fun h1 => ?_)
 ·replace h1 : (decide (r1 ≠ 0)) = true := h1;replace hR := condT hR h1;(try simp only [Bool.or_eq_true, Bool.and_eq_true, Bool.or_eq_false_iff, Bool.and_eq_false_iff, Bool.not_eq_true', Bool.not_eq_false', decide_eq_true_eq, decide_eq_false_iff_not] at h1);refine aw_seq ?_;refine aw_region [.p, .p, .w, .w] ?_;refine st rfl rfl (eff_build rfl z2069 rfl pl2069 pb_nil rfl) rfl ?_;refine st rfl rfl (eff_moveg rfl rfl) rfl ?_;refine st_wn rfl rfl (eff_store (tv := .g (G.agg [G.int 0, G.int 0, G.int 0])) rfl ty2069 rfl rfl rfl rfl rfl) ?_;refine st_wn rfl rfl (eff_store (tv := .g (G.int r1)) rfl ty37 rfl rfl rfl rfl rfl) ?_;refine st_nil ?_;refine aw_ret ?_;obtain rfl := Option.some.inj hR;exact resN rfl ⟨rv_cell rfl rfl ty2069 rfl rfl, rv_cell1 rfl rfl ty37 rfl, trivial⟩ (by simp)
 ·replace h1 : (decide (r1 ≠ 0)) = false := h1;replace hR := condF hR h1;(try simp only [Bool.or_eq_true, Bool.and_eq_true, Bool.or_eq_false_iff, Bool.and_eq_false_iff, Bool.not_eq_true', Bool.not_eq_false', decide_eq_true_eq, decide_eq_false_iff_not] at h1);obtain ⟨hlen, hlim, hms, hmv⟩ := both_in hb br1 h1;refine aw_skip ?_;refine aw_seq ?_;refine aw_seq ?_;refine aw_region [.p, .p, .p] ?_;refine st rfl rfl (eff_moveg rfl rfl) rfl ?_;refine st rfl rfl (eff_moveg rfl rfl) rfl ?_;refine st rfl rfl (eff_call rfl K2051 rfl (c2051 a0 a1) (ag_cons rfl (ag_cons rfl ag_nil))) rfl ?_;refine st_nil ?_;refine aw_block ?_;refine aw_rangeCN (α := S2068) (γ := Int × Int × Int × Int) (enc := winE) (l := [(4, .ptr 4 0), (5, .ptr 5 0), (17, .g (G.fn (.func 100) [] [G.ref [G.sl 11 (List.map S2062.c a0)], G.ref [G.sl 7 (List.map S1079.c a1)]]))]) (exL a1 a0 0) (fun g => [(4, .box [.g (G.int g.2.1), .g (G.int g.2.2.1), .g (G.int g.2.2.2)]), (5, .box [.g (G.int g.1)])]) (fun tl_ g => s2018_l1 tl_ g.1 g.2.1 g.2.2.1 g.2.2.2 = some R) (0, 0, 0, 0) (fun g y6 => (upd 7 (.ptr 7 0) (upd 18 (.g (winG y6)) (lookT [(4, .ptr 4 0), (5, .ptr 5 0), (17, .g (G.fn (.func 100) [] [G.ref [G.sl 11 (List.map S2062.c a0)], G.ref [G.sl 7 (List.map S1079.c a1)]]))])), (7, .box [.g (G.int y6.Limit), .g (G.int y6.Begin), .g (G.int y6.Count)]) :: (7, .box [.g (G.int 0), .g (G.int 0), .g (G.int 0)]) :: [(4, .box [.g (G.int g.2.1), .g (G.int g.2.2.1), .g (G.int g.2.2.2)]), (5, .box [.g (G.int g.1)])])) rfl ⟨rfl, rfl, rfl, trivial⟩ ⟨rfl, rfl, trivial⟩ rfl rfl K2100 (seq_exceeded a0 a1 (by omega) hlim hms) winG winG_E (by exact hR) rfl (fun _ => rfl) (fun _ => rfl) ?_ (fun _ _ => rfl) ?_ ?_
  ·rintro y6 ⟨x2, x3, x4, x5⟩ lp_ w1_ M1_ x1_;refine aw_region [.w, .w] ?_;refine st_w rfl rfl (eff_alloc 7 rfl z2069 rfl rfl) rfl ?_;refine st_wn rfl rfl (eff_store (tv := .g (G.agg [G.int y6.Limit, G.int y6.Begin, G.int y6.Count])) rfl ty2069 rfl rfl rfl rfl rfl) ?_;refine st_nil ?_;exact ⟨rfl, rfl⟩
  ·rintro y6 t7 ⟨x2, x3, x4, x5⟩ hx1 hR lp_ w1_ M1_ x1_;replace hR : s2018_l1 (y6 :: t7) x2 x3 x4 x5 = some R := hR;rw [s2018_l1] at hR;(try dsimp only at hR);refine aw_block ?_;refine aw_seq ?_;refine aw_region [.r, .w, .w] ?_;refine st_r rfl rfl (eff_loadOA rfl ty2069 rfl rfl rfl rfl) rfl ?_;refine st_wn rfl rfl (eff_store (tv := .g (G.agg [G.int y6.Limit, G.int y6.Begin, G.int y6.Count])) rfl ty2069 rfl rfl rfl rfl rfl) ?_;refine st_wn rfl rfl (eff_store (tv := .g (G.int 0)) rfl ty37 rfl rfl rfl rfl rfl) ?_;refine st_nil ?_;refine aw_ret ?_;refine ⟨[(4, .box [.g (G.int y6.Limit), .g (G.int y6.Begin), .g (G.int y6.Count)]), (5, .box [.g (G.int 0)])], ?_, rfl, rfl, ⟨rfl, rfl, trivial⟩⟩;refine aw_ret ?_;obtain rfl := Option.some.inj hR;exact resN rfl ⟨rv_cell rfl rfl ty2069 rfl rfl, rv_cell1 rfl rfl ty37 rfl, trivial⟩ (by simp)
  ·rintro ⟨x2, x3, x4, x5⟩ hR;replace hR : s2018_l1 [] x2 x3 x4 x5 = some R := hR;rw [s2018_l1] at hR;(try dsimp only at hR);refine aw_seq ?_;refine aw_region [.p, .w, .w] ?_;refine st rfl rfl (eff_build rfl z2069 rfl pl2069 pb_nil rfl) rfl ?_;refine st_wn rfl rfl (eff_store (tv := .g (G.agg [G.int 0, G.int 0, G.int 0])) rfl ty2069 rfl rfl rfl rfl rfl) ?_;refine st_wn rfl rfl (eff_store (tv := .g (G.int 7)) rfl ty37 rfl rfl rfl rfl rfl) ?_;refine st_nil ?_;refine aw_ret ?_;obtain rfl := Option.some.inj hR;exact resN rfl ⟨rv_cell rfl rfl ty2069 rfl rfl, rv_cell1 rfl rfl ty37 rfl, trivial⟩ (by simp)
end Go.Sim
set_option maxRecDepth 10000
namespace Go.Sim
open Go.Proofs
theorem gr_mov {m : S1079} (h : s1100 m [] = 0) : MovOk m :=
 (movs_ok (l := [m]) (movs_zero.2 ⟨by simp, fun y hy => by rw [List.mem_singleton.1 hy]; exact h⟩)).2 m (by simp)
theorem gr_mv {m : S1079} (h : s1100 m [] = 0) : MvOk m := by
 have h2 := gr_mov h;unfold s1100 at h;rw [s1085_eq, s89_zero] at h;simp only [List.mem_cons, List.not_mem_nil, or_false, forall_eq_or_imp, forall_eq] at h;obtain ⟨_, _, g3, _, g5, _, g7⟩ := h;rw [s1088_eq, s90_zero] at g5;rw [s1086_zero _ _ (by decide)] at g7;refine ⟨h2.m0, h2.m1, h2.kd, ?_, h2.s0, h2.s1, by omega, g5.2, h2.n0, h2.n1, by simpa using g7⟩;unfold s1089 at g3;rw [s1086_zero _ _ (by decide)] at g3
 by_cases ht : m.Terminal = (⟨#[]⟩ : ByteArray)
 ·exact .inl ht
 ·simp [ht] at g3; exact .inr g3
variable {kd : ByteArray} {most d : Int} {l : List S1079}
theorem MsH.check (h : MsH d l) : s2058 l = some 0 := (mvs_zero (by have := h.len; omega)).2 ⟨fun m hm => gr_mv (h.gr m hm), h.srt⟩
theorem MsH.mov (h : MsH d l) : ∀ m ∈ l, MovOk m := fun m hm => gr_mov (h.gr m hm)
theorem MsH.g27 (h : MsH d l) : s1027 l = 0 := movs_zero.2 ⟨by have := h.len; omega, h.gr⟩
theorem MsH.seat (h : MsH d l) : ∀ m ∈ l, 0 ≤ m.Seats ∧ m.Seats ≤ 999 := fun m hm => by rw [h.s m hm]; omega
theorem cL_all (h : KOk3 kd most d) : s2099 [cL kd most d] = 0 := by
 unfold s2099;rw [show decide (32 < (List.length [cL kd most d] : Int)) = false from rfl, cond_false];rw [s2099_l1, cL_zero h]
 rfl
theorem both_zero (h : KOk3 kd most d) (hm : MsH d l) : s2050 [cL kd most d] l = some 0 := by
 unfold s2050;rw [hm.check, cL_all h]
 rfl
def firstH (kd : ByteArray) (most d : Int) (l : List S1079) : Option Int := (windL (cL kd most d)).find? fun t => decide (most < cn kd l t)
theorem fm_head {p : Int → Bool} {f : Int → S2068} : ∀ (L : List Int), (L.find? p = none → L.filterMap (fun t => bif p t then some (f t) else none) = []) ∧ ∀ t, L.find? p = some t → ∃ r, L.filterMap (fun t => bif p t then some (f t) else none) = f t :: r
 | [] => ⟨fun _ => rfl, fun t h => by cases h⟩
 | x :: L => by
  have ih := fm_head (p := p) (f := f) L;rw [List.find?_cons, List.filterMap_cons]
  cases hx : p x with
  | true => exact ⟨fun h => (by cases h), fun t h => by cases h; exact ⟨_, rfl⟩⟩
  | false => exact ih
theorem exOne_eq (h : KOk3 kd most d) : exOne 0 (cL kd most d) (ofL (cL kd most d) l) = fun t => bif decide (most < cn kd l t) then some ⟨0, t, cn kd l t⟩ else none := by
 funext t
 unfold exOne;have e1 : (cL kd most d).Length = 60 := rfl;have e2 : (cL kd most d).Most = most := rfl;rw [e1, e2, cnt_cn h]
 rfl
theorem cap_first (h : KOk3 kd most d) (hm : MsH d l) : s2018 [cL kd most d] l = some (match firstH kd most d l with | some t => (⟨0, t, cn kd l t⟩, 0) | none => (⟨0, 0, 0⟩, 7)) := by
 unfold s2018;rw [both_zero h hm];simp only [bindO];rw [show decide ((0 : Int) ≠ 0) = false from rfl, cond_false]
 have e : exL l [cL kd most d] 0 = (windL (cL kd most d)).filterMap (exOne 0 (cL kd most d) (ofL (cL kd most d) l)) := by simp [exL]
 rw [e, exOne_eq h];have hf := fm_head (p := fun t => decide (most < cn kd l t)) (f := fun t => ⟨0, t, cn kd l t⟩) (windL (cL kd most d));unfold firstH
 cases ho : (windL (cL kd most d)).find? (fun t => decide (most < cn kd l t)) with
 | none => rw [hf.1 ho]; rfl
 | some t => obtain ⟨r, hr⟩ := hf.2 t ho; rw [hr]; rfl
theorem seen_W (h : KOk3 kd most d) (hm : MsH d l) {t : Int} (h0 : 0 ≤ t) (h1 : t ≤ 150000000) : s1042 (sL kd most) l t = cn kd l t := by
 rw [(window_ok (sL_ok h).2 hm.seat (by have := hm.len; omega) h0 h1).2.1, W_cn t l hm.s]
theorem hour_in (hm : MsH d l) {m : S1079} (h : m ∈ l) {b : Int} (hb : (60 : Int) ∣ b) (h1 : m.Moment - 60 + 1 ≤ b) (h2 : b ≤ m.Moment) : 1440 * d ≤ b ∧ b < 1440 * d + 4320 := by
 have := hm.lo m h; have := hm.hi m h;obtain ⟨q, rfl⟩ := hb
 omega
theorem all_wins (h : KOk3 kd most d) (hm : MsH d l) {b : Int} (hb : b ∈ winsAll (sL kd most) l) : b ∈ windL (cL kd most d) := by
 obtain ⟨m, hml, hw⟩ := List.mem_flatMap.1 hb;have hmo := hm.mov m hml;have hw := (wins_iff (sL_ok h).2 hmo.m0 hmo.m1).1 hw;have e1 : (sL kd most).Step = 60 := rfl;have e2 : (sL kd most).Length = 60 := rfl;rw [e1, e2] at hw;have := hour_in hm hml hw.1 hw.2.2.1 hw.2.2.2;exact (win_mem h).2 ⟨hw.1, this.1, this.2⟩
theorem ExB_cn (h : KOk3 kd most d) (hm : MsH d l) {b : Int} (hb : b ∈ windL (cL kd most d)) : ExB (sL kd most) l b = decide (most < cn kd l b) := by
 have := (win_mem h).1 hb;have := h.d0; have := h.d1;unfold ExB;rw [seen_W h hm (by omega) (by omega)]
 rfl
theorem exc_wins (h : KOk3 kd most d) (hm : MsH d l) {b : Int} (hb : b ∈ windL (cL kd most d)) (he : most < cn kd l b) : b ∈ winsAll (sL kd most) l := by
 have h0 := h.m0;obtain ⟨m, hml, _, h1, h2⟩ := cn_pos (by omega : 0 < cn kd l b);have hmo := hm.mov m hml;have hw := (win_mem h).1 hb;have := h.d0;refine List.mem_flatMap.2 ⟨m, hml, (wins_iff (sL_ok h).2 hmo.m0 hmo.m1).2 ?_⟩;have e1 : (sL kd most).Step = 60 := rfl;have e2 : (sL kd most).Length = 60 := rfl;rw [e1, e2];exact ⟨hw.1, by omega, by omega, h1⟩
theorem gr_first (h : KOk3 kd most d) (hm : MsH d l) : s1043 [sL kd most] l = some (match firstH kd most d l with | some t => (⟨0, t, cn kd l t⟩, 0) | none => (⟨0, 0, 0⟩, 7)) := by
 unfold s1043;have hs := sL_ok h
 have hl : l.length ≤ 12 := by have := hm.len; omega
 have ez : s1085 [s1029 [sL kd most], s1027 l] = 0 := by
  rw [s1085_eq, s89_zero, hs.1, hm.g27]; simp
 rw [ez, show decide ((0 : Int) ≠ 0) = false from rfl, cond_false, s1043_l1, s1111_ok _ hm.seat hl];simp only [bindO]
 have mo : ∀ t ∈ (ownL (sL kd most) l).map S1079.Moment, 0 ≤ t ∧ t ≤ 143999999 := fun t ht => by
  obtain ⟨y, hy, rfl⟩ := List.mem_map.1 ht;have hy2 := hm.mov y (List.mem_filter.1 ((isort_perm ltM (l.filter fun m => s1116 (sL kd most) m)).mem_iff.1 hy)).1;exact ⟨hy2.m0, hy2.m1⟩
 rw [ex_p2 _ hs.2 hm.seat hl 0 _ 0 0 0 0 0 mo, first_eq hs.2 hm.mov hl];have hf := updS_fold (sL kd most) l (winsAll (sL kd most) l) none (fun c h => by cases h);rw [show l.flatMap (fun m => winsOf (sL kd most) m.Moment) = winsAll (sL kd most) l from rfl];have hL := find_least (p := fun t => decide (most < cn kd l t)) (win_srt h);unfold firstH
 cases hF : (winsAll (sL kd most) l).foldl (updS (sL kd most) l) none with
 | none =>
  have h0 := (hf.1 hF).2
  have : (windL (cL kd most d)).find? (fun t => decide (most < cn kd l t)) = none := by
   rw [List.find?_eq_none];intro b hb he;have he := of_decide_eq_true he;have h1 := h0 b (exc_wins h hm hb he);rw [ExB_cn h hm hb, decide_eq_true he] at h1
   cases h1
  rw [this]
  rfl
 | some b =>
  obtain ⟨j1, j2, j3, _⟩ := hf.2 b hF
  have hb : b ∈ winsAll (sL kd most) l := by
   rcases j2 with j2 | j2
   ·cases j2
   ·exact j2
  have hb2 := all_wins h hm hb;rw [ExB_cn h hm hb2] at j1;have hw := (win_mem h).1 hb2;have := h.d0; have := h.d1
  cases hq : (windL (cL kd most d)).find? (fun t => decide (most < cn kd l t)) with
  | none =>
   have := hL.1 hq b hb2;rw [j1] at this; cases this
  | some t =>
   obtain ⟨q1, q2, q3⟩ := hL.2 t hq;have h1 := q3 b hb2 j1;have h2 := j3 t (exc_wins h hm q2 (of_decide_eq_true q1)) (by rw [ExB_cn h hm q2]; exact q1)
   obtain rfl : b = t := by omega
   dsimp only;rw [seen_W h hm (by omega) (by omega)]
   rfl
end Go.Sim
set_option maxRecDepth 10000
namespace Go.Sim
open Go.Proofs
variable {kd : ByteArray} {most d : Int} {l : List S1079}
theorem cnt_loop (a0 : S2062) (a1 : List S1079) (t : Int) : ∀ (L : List Int) (x y : Int), t ∈ L → s2020_l1 a0 a1 t L x y = some (cntI (ofL a0 a1) t a0.Length, 0)
 | [], _, _, h => by cases h
 | b :: L, x, y, h => by
  rw [s2020_l1]
  by_cases hb : b = t
  ·rw [decide_eq_true hb, cond_true]
  ·rw [decide_eq_false hb, cond_false];exact cnt_loop a0 a1 t L x y ((List.mem_cons.1 h).resolve_left fun e => hb e.symm)
theorem count_ok (h : KOk3 kd most d) (hm : MsH d l) {t : Int} (ht : t ∈ windL (cL kd most d)) : s2020 (cL kd most d) l t = some (cn kd l t, 0) := by
 have hw := (win_mem h).1 ht;have d0 := h.d0; have d1 := h.d1;unfold s2020;rw [hm.check];simp only [bindO]
 have ez : s2056 [s2057 (cL kd most d), 0, s2059 t 0 143999999] = 0 := by
  rw [s2056_zero, cL_zero h];simp only [List.mem_cons, List.not_mem_nil, or_false, forall_eq_or_imp, forall_eq, s2059_zero];exact ⟨trivial, trivial, by omega, by omega⟩
 rw [ez, show decide ((0 : Int) ≠ 0) = false from rfl, cond_false]
 have e : IntKind.i64.wrap (Int.tdiv t 1440) = t / 1440 := by
  rw [Int.tdiv_eq_ediv_of_nonneg (by omega), wrap_i64 (by unfold I64; omega)]
 rw [e, cnt_loop _ _ _ _ _ _ ((beg_mem h).2 ⟨by omega, by omega, hw.1, by omega, by omega⟩)];rw [show (cL kd most d).Length = 60 from rfl, cnt_cn h]
theorem seats_W (h : KOk3 kd most d) (l' : List S1079) (hg : ∀ m ∈ l', s1100 m [] = 0) (hl : l'.length ≤ 12) {t : Int} (h0 : 0 ≤ t) (h1 : t ≤ 143999999) : s1039 (sL kd most) l' t = some (W (sL kd most) l' t, 0) := by
 have hs := sL_ok h;have hm : ∀ m ∈ l', 0 ≤ m.Seats ∧ m.Seats ≤ 999 := fun m hm => ⟨(gr_mov (hg m hm)).s0, (gr_mov (hg m hm)).s1⟩
 have ez : s1085 [s1029 [sL kd most], s1027 l', s1098 t] = 0 := by
  rw [s1085_eq, s89_zero, hs.1, movs_zero.2 ⟨by omega, hg⟩, s1098_eq, (s96_zero t).2 ⟨h0, h1⟩]; simp
 unfold s1039;rw [ez, show decide ((0 : Int) ≠ 0) = false from rfl, cond_false, s1111_ok _ hm hl];simp only [bindO];have hw := window_ok hs.2 hm hl h0 (by omega : t ≤ 150000000);rw [hw.1, hw.2.1]
theorem dbl_gr {m : S1079} (h : s1100 m [] = 0) : s1100 (dbl m) [] = 0 := by
 unfold s1100 at *;rw [s1085_eq, s89_zero] at *;simp only [List.mem_cons, List.not_mem_nil, or_false, forall_eq_or_imp, forall_eq] at *;unfold dbl;refine ⟨h.1, h.2.1, h.2.2.1, ?_, h.2.2.2.2⟩;rw [s1088_eq, s90_zero]; dsimp only; decide
theorem room_loop {c : S2062} {n : Int} (hn0 : 0 ≤ n) (hn1 : n ≤ 1000) (h0 : 0 ≤ c.Most) (h1 : c.Most ≤ 999999999) : ∀ (L : List S2068) (x : Int), (∀ w ∈ L, w.Limit = 0 ∧ w.Count = n) → s2065_l1 [c] L x = some (if L = [] then x else min x (max 0 (c.Most - n)))
 | [], x, _ => by rw [s2065_l1]; simp
 | w :: L, x, h => by
  rw [s2065_l1, (h w List.mem_cons_self).1, (h w List.mem_cons_self).2];have e : ixO [c] 0 = some c := rfl;rw [e];simp only [bindO];rw [wrap_i64 (by unfold I64; omega), room_loop hn0 hn1 h0 h1 L _ fun v hv => h v (List.mem_cons_of_mem _ hv)]
  by_cases hL : L = []
  ·simp [hL]
  ·simp only [hL, if_false, reduceCtorEq]
   congr 1; omega
def hr (m : S1079) : Int := m.Moment / 60 * 60
theorem room_cap (h : KOk3 kd most d) (hm : MsH d l) {m : S1079} (hml : m ∈ l) : s2022 [cL kd most d] l m = some (if mt kd m = true then max 0 (most - cn kd l (hr m)) else 999999999, 0) := by
 have lo := hm.lo m hml; have hi := hm.hi m hml;have d0 := h.d0; have d1 := h.d1; have m0 := h.m0; have m1 := h.m1;unfold s2022;rw [both_zero h hm];simp only [bindO]
 have ez : s2056 [0, s2064 m] = 0 := by
  rw [s2056_zero, mv_zero.2 (gr_mv (hm.gr m hml))]; simp
 rw [ez, show decide ((0 : Int) ≠ 0) = false from rfl, cond_false];unfold s2065
 have ea : arL l m [cL kd most d] 0 = bif mt kd m then arW l m 0 (cL kd most d) 2 else [] := by
  simp only [arL, List.append_nil];rw [s2116_mt h]
 rw [ea]
 cases hk : mt kd m with
 | false =>
  simp only [cond_false, Bool.false_eq_true, if_false];rw [s2065_l1]
 | true =>
  simp only [cond_true, if_true];have hc := cn_rng kd l (hr m);have hlen := hm.len
  have hall : ∀ w ∈ arW l m 0 (cL kd most d) 2, w.Limit = 0 ∧ w.Count = cn kd l (hr m) := by
   intro w hw;obtain ⟨x, _, hw⟩ := List.mem_flatMap.1 hw;obtain ⟨b, hb, hw⟩ := List.mem_filterMap.1 hw;have hb := (beg_mem h).1 hb;unfold arOne at hw;have e1 : (cL kd most d).Length = 60 := rfl;rw [e1, cnt_cn h] at hw
   cases hq : (decide (b ≤ m.Moment) && decide (m.Moment < b + 60)) with
   | false => rw [hq] at hw; cases hw
   | true =>
    rw [hq] at hw;simp only [Bool.and_eq_true, decide_eq_true_eq] at hq;simp only [cond_true, Option.some.injEq] at hw;subst hw;obtain ⟨q, rfl⟩ := hb.2.2.1
    have : hr m = 60 * q := by unfold hr; omega
    rw [this];exact ⟨rfl, rfl⟩
  have hne : arW l m 0 (cL kd most d) 2 ≠ [] := by
   have : (⟨0, hr m, cn kd l (hr m)⟩ : S2068) ∈ arW l m 0 (cL kd most d) 2 := by
    refine List.mem_flatMap.2 ⟨m.Moment / 1440, by simp [dsL], List.mem_filterMap.2 ⟨hr m, (beg_mem h).2 ⟨by omega, by omega, ⟨m.Moment / 60, by unfold hr; omega⟩, by unfold hr; omega, by unfold hr; omega⟩, ?_⟩⟩;unfold arOne;have e1 : (cL kd most d).Length = 60 := rfl;rw [e1, cnt_cn h, decide_eq_true (by unfold hr; omega : hr m ≤ m.Moment), decide_eq_true (by unfold hr; omega : m.Moment < hr m + 60)]
    rfl
   intro e; rw [e] at this; cases this
  rw [room_loop hc.1 (by omega) (by show 0 ≤ most; exact m0) (by show most ≤ _; omega) _ _ hall, if_neg hne];have e2 : (cL kd most d).Most = most := rfl
  have : min 999999999 (max 0 (most - cn kd l (hr m))) = max 0 (most - cn kd l (hr m)) := by omega
  rw [e2, this]
theorem room_gr (h : KOk3 kd most d) (hm : MsH d l) {m : S1079} (hml : m ∈ l) : s1045 [sL kd most] l m = some (if mt kd m = true then (max 0 (most - cn kd l (hr m)), 0) else (0, 7)) := by
 have lo := hm.lo m hml; have hi := hm.hi m hml;have d0 := h.d0; have d1 := h.d1; have m0 := h.m0; have m1 := h.m1;have hs := sL_ok h
 have hl : l.length ≤ 12 := by have := hm.len; omega
 have hmo := hm.mov m hml
 have ez : s1085 [s1029 [sL kd most], s1027 l, s1027 [m]] = 0 := by
  rw [s1085_eq, s89_zero, hs.1, hm.g27, movs_zero.2 ⟨by simp, fun y hy => by rw [List.mem_singleton.1 hy]; exact hm.gr m hml⟩]; simp
 unfold s1045;rw [ez, show decide ((0 : Int) ≠ 0) = false from rfl, cond_false, s1045_l1];have e : s1116 (sL kd most) m = mt kd m := s1113_mt m;rw [e]
 cases hk : mt kd m with
 | false =>
  simp only [Bool.not_false, cond_true, Bool.false_eq_true, if_false]
  rfl
 | true =>
  simp only [Bool.not_true, cond_false, if_true];rw [s1111_ok _ hm.seat hl];simp only [bindO];have hw := win0_rng hs.2 hmo.m0 hmo.m1;have hr0 := rm_spec (m := m.Moment) hs.2 hm.seat hl hmo.m1 1450 (win0 (sL kd most).Length (sL kd most).Step m.Moment) 999 hw.1;unfold winsOf;rw [rm_prog _ hs.2 hm.seat hl hmo.m1 0 1450 _ _ hw.1];have ej : ∀ x, s1045_j1 (fun k_ z0_ z1_ => s1045_l1 l m [] k_ z0_ z1_) 0 true x = some (max 0 x, 0) := fun x => rfl;rw [ej];generalize hg : rm (sL kd most) l m.Moment 1450 (win0 (sL kd most).Length (sL kd most).Step m.Moment) 999 = g at *
  have hwin : ∀ c, c ∈ winL (sL kd most).Step m.Moment 1450 (win0 (sL kd most).Length (sL kd most).Step m.Moment) → c = hr m := fun c hc => by
   have hc : c ∈ winsOf (sL kd most) m.Moment := hc;have hc := (wins_iff hs.2 hmo.m0 hmo.m1).1 hc;have e1 : (sL kd most).Step = 60 := rfl;have e2 : (sL kd most).Length = 60 := rfl;rw [e1, e2] at hc;obtain ⟨q, rfl⟩ := hc.1;unfold hr; omega
  have hin : hr m ∈ winL (sL kd most).Step m.Moment 1450 (win0 (sL kd most).Length (sL kd most).Step m.Moment) := by
   show hr m ∈ winsOf (sL kd most) m.Moment;refine (wins_iff hs.2 hmo.m0 hmo.m1).2 ?_;have e1 : (sL kd most).Step = 60 := rfl;have e2 : (sL kd most).Length = 60 := rfl;rw [e1, e2];have := hmo.m0;exact ⟨⟨m.Moment / 60, by unfold hr; omega⟩, by unfold hr; omega, by unfold hr; omega, by unfold hr; omega⟩
  have hse : s1042 (sL kd most) l (hr m) = cn kd l (hr m) := seen_W h hm (by unfold hr; have := hmo.m0; omega) (by unfold hr; have := hmo.m1; omega);have hc := cn_rng kd l (hr m);have eM : (sL kd most).Most = most := rfl;have h1 := hr0.2.1 (hr m) hin;rw [hse, eM] at h1
  have h2 : g = 999 ∨ g = most - cn kd l (hr m) := by
   rcases hr0.2.2 with h2 | ⟨c, hc, h2⟩
   ·exact .inl h2
   ·rw [hwin c hc, hse, eM] at h2; exact .inr h2
  have : g = most - cn kd l (hr m) := by omega
  rw [this]
end Go.Sim
set_option maxRecDepth 10000
namespace Go.Sim
open Go.Proofs
def s2017 (a0 : ByteArray) (a1 : ByteArray) (a2 : Int) (a3 : S45) : S2062 × S1063 :=
 ((S2062.mk (⟨#[104, 111, 117, 114]⟩) a0 a1 60 60 0 1439 (S45.mk a3.fFrom a3.fTo a3.Days) a2), (S1063.mk a1 a0 60 60 a2))
set_option maxHeartbeats 8000000 in
theorem c2017 {g : List (Nat × List Value)} (a0 : ByteArray) (a1 : ByteArray) (a2 : Int) (a3 : S45)    : Con (EG g) 17 [G.str a0, G.str a1, G.int a2, G.agg [G.int a3.fFrom, G.int a3.fTo, G.int a3.Days]] (G.tup [G.agg [G.str ((s2017 a0 a1 a2 a3).1.Name), G.str ((s2017 a0 a1 a2 a3).1.Kind), G.str ((s2017 a0 a1 a2 a3).1.Terminal), G.int ((s2017 a0 a1 a2 a3).1.Length), G.int ((s2017 a0 a1 a2 a3).1.Step), G.int ((s2017 a0 a1 a2 a3).1.fFrom), G.int ((s2017 a0 a1 a2 a3).1.fTo), G.int ((s2017 a0 a1 a2 a3).1.Period.fFrom), G.int ((s2017 a0 a1 a2 a3).1.Period.fTo), G.int ((s2017 a0 a1 a2 a3).1.Period.Days), G.int ((s2017 a0 a1 a2 a3).1.Most)], G.agg [G.str ((s2017 a0 a1 a2 a3).2.Terminal), G.str ((s2017 a0 a1 a2 a3).2.Kind), G.int ((s2017 a0 a1 a2 a3).2.Length), G.int ((s2017 a0 a1 a2 a3).2.Step), G.int ((s2017 a0 a1 a2 a3).2.Most)]]) := by
 generalize hR : s2017 a0 a1 a2 a3 = R;unfold s2017 at hR;refine con_of_aw Tryz.func17 rfl rfl fun w0 M0 => ?_;refine aw_seq ?_;refine aw_region [.p, .w, .w] ?_;refine st rfl rfl (eff_box rfl rfl) rfl ?_;refine st_w rfl rfl (eff_alloc 8 rfl z2063 rfl rfl) rfl ?_;refine st_w rfl rfl (eff_alloc 9 rfl z1064 rfl rfl) rfl ?_;refine st_nil ?_;refine aw_seq ?_;refine aw_region [.p, .p, .p, .p, .p, .p, .p, .p, .p, .w, .w] ?_;refine st rfl rfl (eff_moveg rfl rfl) rfl ?_;refine st rfl rfl (eff_moveg rfl rfl) rfl ?_;refine st rfl rfl (eff_loadA rfl ty46 rfl rfl rfl) rfl ?_;refine st rfl rfl (eff_moveg rfl rfl) rfl ?_;refine st rfl rfl (eff_build rfl z2063 rfl pl2063 (pb_cons rfl (pb_cons rfl (pb_cons rfl (pb_cons rfl (pb_cons rfl (pb_cons rfl (pb_cons rfl (pb_cons rfl (pb_cons rfl pb_nil))))))))) rfl) rfl ?_;refine st rfl rfl (eff_moveg rfl rfl) rfl ?_;refine st rfl rfl (eff_moveg rfl rfl) rfl ?_;refine st rfl rfl (eff_moveg rfl rfl) rfl ?_;refine st rfl rfl (eff_build rfl z1064 rfl pl1064 (pb_cons rfl (pb_cons rfl (pb_cons rfl (pb_cons rfl (pb_cons rfl pb_nil))))) rfl) rfl ?_;refine st_wn rfl rfl (eff_store (tv := .g (G.agg [G.str (⟨#[104, 111, 117, 114]⟩), G.str a0, G.str a1, G.int 60, G.int 60, G.int 0, G.int 1439, G.int a3.fFrom, G.int a3.fTo, G.int a3.Days, G.int a2])) rfl ty2063 rfl rfl rfl rfl rfl) ?_;refine st_wn rfl rfl (eff_store (tv := .g (G.agg [G.str a1, G.str a0, G.int 60, G.int 60, G.int a2])) rfl ty1064 rfl rfl rfl rfl rfl) ?_;refine st_nil ?_;refine aw_ret ?_;subst hR;exact resN rfl ⟨rv_cell rfl rfl ty2063 rfl rfl, rv_cell rfl rfl ty1064 rfl rfl, trivial⟩ (by simp)
def s2017o (a0 : ByteArray) (a1 : ByteArray) (a2 : Int) (a3 : S45) : Option (S2062 × S1063) := some (s2017 a0 a1 a2 a3)
theorem c2017o {g : List (Nat × List Value)} (a0 : ByteArray) (a1 : ByteArray) (a2 : Int) (a3 : S45)    {R : S2062 × S1063} (hR : s2017o a0 a1 a2 a3 = some R) : Con (EG g) 17 [G.str a0, G.str a1, G.int a2, G.agg [G.int a3.fFrom, G.int a3.fTo, G.int a3.Days]] (G.tup [G.agg [G.str (R.1.Name), G.str (R.1.Kind), G.str (R.1.Terminal), G.int (R.1.Length), G.int (R.1.Step), G.int (R.1.fFrom), G.int (R.1.fTo), G.int (R.1.Period.fFrom), G.int (R.1.Period.fTo), G.int (R.1.Period.Days), G.int (R.1.Most)], G.agg [G.str (R.2.Terminal), G.str (R.2.Kind), G.int (R.2.Length), G.int (R.2.Step), G.int (R.2.Most)]]) := by
 cases hR; exact c2017 a0 a1 a2 a3
end Go.Sim
set_option maxRecDepth 10000
namespace Go.Sim
open Go.Proofs
noncomputable def s2004_j1 (rec5 : Nat → Option Bool) (k23 : Nat)  : Option Bool :=
 rec5 (k23 + 1)
noncomputable def s2004_l5 (rec3 : Nat → Option Bool) (x1 : List S1079) (k13 : Nat) (y14 : ByteArray) (r16 : S2062 × S1063) : List S1079 → Nat → Option Bool
 | [], k23 => rec3 (k13 + 1)
 | y24 :: t25, k23 => bindO (s2022 ([r16.1] : List S2062) x1 y24) fun r26 => bindO (s1045 ([r16.2] : List S1063) x1 y24) fun r27 => (bif (!decide (y14 = (⟨#[84]⟩))) && (!decide (y14 = y24.Kind)) then (bif ((decide (r26.1 ≠ 999999999)) || (decide (r26.2 ≠ 0))) || (decide (r27.2 ≠ 7)) then some false else s2004_j1 (fun k_ => s2004_l5 rec3 x1 k13 y14 r16 t25 k_) k23) else (bif (decide (IntKind.i64.wrap (r26.2 + r27.2) ≠ 0)) || (decide (r27.1 ≠ min r26.1 999)) then some false else s2004_j1 (fun k_ => s2004_l5 rec3 x1 k13 y14 r16 t25 k_) k23))
noncomputable def s2004_l4 (rec3 : Nat → Option Bool) (a2 : Int) (x1 : List S1079) (x6 : List S1079) (k13 : Nat) (y14 : ByteArray) (r16 : S2062 × S1063) : Nat → Int → Option Bool
 | 0, x19 => s2004_l5 rec3 x1 k13 y14 r16 x1 0
 | k21 + 1, x19 => bindO (s2020 r16.1 x1 (IntKind.i64.wrap ((IntKind.i64.wrap (1440 * a2)) + (IntKind.i64.wrap (60 * x19))))) fun r28 => bindO (s1039 r16.2 x1 (IntKind.i64.wrap ((IntKind.i64.wrap (1440 * a2)) + (IntKind.i64.wrap (60 * x19))))) fun r29 => bindO (s1039 r16.2 x6 (IntKind.i64.wrap ((IntKind.i64.wrap (1440 * a2)) + (IntKind.i64.wrap (60 * x19))))) fun r30 => (bif ((decide (IntKind.i64.wrap ((IntKind.i64.wrap (r28.2 + r29.2)) + r30.2) ≠ 0)) || (decide (r28.1 ≠ r29.1))) || (decide (r30.1 ≠ IntKind.i64.wrap (2 * r28.1))) then some false else s2004_l4 rec3 a2 x1 x6 k13 y14 r16 k21 (x19 + 1))
noncomputable def s2004_l3 (a1 : Int) (a2 : Int) (x1 : List S1079) (x6 : List S1079) : List ByteArray → Nat → Option Bool
 | [], k13 => some s2006
 | y14 :: t15, k13 => bindO (s2017o y14 (⟨#[]⟩) (Int.tmod (IntKind.i64.wrap a1) 4) (S45.mk a2 (IntKind.i64.wrap (a2 + 2)) 127)) fun r16 => bindO (s2018 ([r16.1] : List S2062) x1) fun r17 => bindO (s1043 ([r16.2] : List S1063) x1) fun r18 => (bif ((decide (r17.2 ≠ r18.2)) || ((decide (r17.2 ≠ 0)) && (decide (r17.2 ≠ 7)))) || ((decide (r17.2 = 0)) && (((decide (r17.1.Limit ≠ r18.1.Limit)) || (decide (r17.1.Begin ≠ r18.1.Moment))) || (decide (r17.1.Count ≠ r18.1.Seats)))) then some false else s2004_l4 (fun k_ => s2004_l3 a1 a2 x1 x6 t15 k_) a2 x1 x6 k13 y14 r16 (((72 : Int) - 0).toNat) 0)
noncomputable def s2004_l2 (a1 : Int) (a2 : Int) (x1 : List S1079) : List S1079 → Nat → (List S1079) → Option Bool
 | [], k8, x6 => bindO (s2009 x1) fun r11 => (bif decide (r11 ≠ 0) then some false else s2004_l3 a1 a2 x1 x6 ([⟨#[65]⟩, ⟨#[68]⟩, ⟨#[84]⟩] : List ByteArray) 0)
 | y9 :: t10, k8, x6 => s2004_l2 a1 a2 x1 t10 (k8 + 1) (x6 ++ ([(S1079.mk y9.Moment y9.Kind y9.Terminal 2 y9.Size y9.Noise y9.Name)] : List S1079))
noncomputable def s2004_l6 (rec1 : Nat → (List S1079) → Option Bool) (a2 : Int) (x1 : List S1079) (k3 : Nat) (y4 : S1079) : Nat → Int → Option Bool
 | 0, _ => none
 | k32 + 1, x31 => bindO (bif decide (x31 < (List.length x1 : Int)) then ixO x1 x31 else some default) fun y33 => (bif (decide (x31 < (List.length x1 : Int))) && (decide (y33.Moment ≤ IntKind.i64.wrap ((IntKind.i64.wrap (1440 * a2)) + (Int.tmod y4.Moment 4320)))) then s2004_l6 rec1 a2 x1 k3 y4 k32 (IntKind.i64.wrap (x31 + 1)) else rec1 (k3 + 1) ((([] ++ (List.take (Int.toNat x31) x1)) ++ ([(S1079.mk (IntKind.i64.wrap ((IntKind.i64.wrap (1440 * a2)) + (Int.tmod y4.Moment 4320))) y4.Kind y4.Terminal 1 y4.Size y4.Noise y4.Name)] : List S1079)) ++ (List.drop (Int.toNat x31) x1)))
noncomputable def s2004_l1 (a1 : Int) (a2 : Int) : List S1079 → Nat → (List S1079) → Option Bool
 | [], k3, x1 => s2004_l2 a1 a2 x1 x1 0 []
 | y4 :: t5, k3, x1 => s2004_l6 (fun k_ z0_ => s2004_l1 a1 a2 t5 k_ z0_) a2 x1 k3 y4 ((((List.length x1 : Int) - 0).toNat) + 1) 0
noncomputable def s2004 (a0 : List S1079) (a1 : Int) (a2 : Int) : Option Bool :=
 (bif (((decide (8 < (List.length a0 : Int))) || (!(s1020 a0 8))) || (decide ((s1028 a0) ≠ 0))) || (decide ((s90 a2 0 90000) ≠ 0)) then some s2006 else s2004_l1 a1 a2 a0 0 [])
set_option maxHeartbeats 16000000 in
theorem c2004 (a0 : List S1079) (a1 : Int) (a2 : Int) {R : Bool}   (hR : s2004 a0 a1 a2 = some R) : Con (EG glT) 4 [G.sl 7 (List.map S1079.c a0), G.lit (.int .u8 a1), G.int a2] (G.bool R) := by
 unfold s2004 at hR;refine con_of_aw Tryz.func4 rfl rfl fun w0 M0 => ?_;refine len_sl (f := S1079.c) (l := a0) 0 rfl fun hla0 => ?_;refine aw_seq ?_;refine aw_region [.p] ?_;refine st rfl rfl (eff_assigng rfl rfl) rfl ?_;refine st_nil ?_;refine aw_seq ?_;refine aw_seq ?_;refine aw_region [.p, .p, .p, .p, .p, .p, .p, .p, .p, .p, .p, .p, .p, .p, .p, .p, .p, .p] ?_;refine st rfl rfl (eff_moveg rfl rfl) rfl ?_;refine st rfl rfl (eff_lenM (f := S1079.c) (l := a0) rfl Tryz.underlying25 rfl) rfl ?_;refine st rfl rfl (eff_gtr rfl rfl rfl) rfl ?_;refine st rfl rfl (eff_moveg rfl rfl) rfl ?_;refine st_g rfl rfl rfl (gb_bool _ _) (fun h => eff_moveg rfl rfl) rfl ?_;refine st_g rfl rfl rfl (gb_bool _ _) (fun h => eff_call rfl K1020 rfl (c1020 a0 8) (ag_cons (gd h rfl) (ag_cons rfl ag_nil))) rfl ?_;refine st_g rfl rfl rfl (gb_bool _ _) (fun h => eff_not rfl (gd h rfl)) rfl ?_;refine st rfl rfl (eff_or rfl rfl rfl rfl) rfl ?_;refine st rfl rfl (eff_moveg rfl rfl) rfl ?_;refine st_g rfl rfl rfl (gb_bool _ _) (fun h => eff_moveg rfl rfl) rfl ?_;refine st_g rfl rfl rfl (gb_bool _ _) (fun h => eff_call rfl K1028 rfl (c1028 a0) (ag_cons (gd h rfl) ag_nil)) rfl ?_;refine st_g rfl rfl rfl (gb_bool _ _) (fun h => eff_neq rfl (gd h rfl) rfl) rfl ?_;refine st rfl rfl (eff_or rfl rfl rfl rfl) rfl ?_;refine st rfl rfl (eff_moveg rfl rfl) rfl ?_;refine st_g rfl rfl rfl (gb_bool _ _) (fun h => eff_moveg rfl rfl) rfl ?_;refine st_g rfl rfl rfl (gb_bool _ _) (fun h => eff_call rfl K90 rfl (c90 a2 0 90000) (ag_cons (gd h rfl) (ag_cons rfl (ag_cons rfl ag_nil)))) rfl ?_;refine st_g rfl rfl rfl (gb_bool _ _) (fun h => eff_neq rfl (gd h rfl) rfl) rfl ?_;refine st rfl rfl (eff_or rfl rfl rfl rfl) rfl ?_;refine st_nil ?_;refine aw_cond _ rfl (fun h1 => ?_) (fun h1 => ?_)
 ·replace h1 : ((((decide (8 < (List.length a0 : Int))) || (!(s1020 a0 8))) || (decide ((s1028 a0) ≠ 0))) || (decide ((s90 a2 0 90000) ≠ 0))) = true := h1;replace hR := condT hR h1;(try simp only [Bool.or_eq_true, Bool.and_eq_true, Bool.or_eq_false_iff, Bool.and_eq_false_iff, Bool.not_eq_true', Bool.not_eq_false', decide_eq_true_eq, decide_eq_false_iff_not] at h1);refine aw_seq ?_;refine aw_region [.p, .p] ?_;refine st rfl rfl (eff_call rfl K2006 rfl (c2006) ag_nil) rfl ?_;refine st rfl rfl (eff_assigng rfl rfl) rfl ?_;refine st_nil ?_;refine aw_ret ?_;exact res_e (res_c rfl (rv_g rfl)) (congrArg (fun R_ => G.bool R_) (Option.some.inj hR))
 ·replace h1 : ((((decide (8 < (List.length a0 : Int))) || (!(s1020 a0 8))) || (decide ((s1028 a0) ≠ 0))) || (decide ((s90 a2 0 90000) ≠ 0))) = false := h1;replace hR := condF hR h1;(try simp only [Bool.or_eq_true, Bool.and_eq_true, Bool.or_eq_false_iff, Bool.and_eq_false_iff, Bool.not_eq_true', Bool.not_eq_false', decide_eq_true_eq, decide_eq_false_iff_not] at h1)
  have hl8 : a0.length ≤ 8 := by omega
  refine aw_skip ?_;refine aw_seq ?_;refine aw_region [.w, .w] ?_;refine st_w rfl rfl (eff_nilL 7 44 7 rfl rfl rfl) rfl ?_;refine st_w rfl rfl (eff_nilL 8 44 7 rfl rfl rfl) rfl ?_;refine st_nil ?_;refine aw_seq ?_;refine aw_seq ?_;refine aw_region [.p, .p, .p] ?_;refine st rfl rfl (eff_moveg rfl rfl) rfl ?_;refine st rfl rfl (eff_lenM (f := S1079.c) (l := a0) rfl Tryz.underlying25 rfl) rfl ?_;refine st rfl rfl (eff_moveg rfl rfl) rfl ?_;refine st_nil ?_;refine aw_block ?_;refine aw_loop_g (γ := Nat × (List S1079) × (List S1079)) (fun g => ([(1, .g (G.lit (.int .u8 a1))), (2, .g (G.int a2)), (7, .osl 7 7 0 (List.length g.2.2)), (8, .osl 8 7 0 0), (56, .g (G.sl 7 (List.map S1079.c a0))), (57, .g (G.int (List.length a0 : Int))), (58, .g (G.int ((g.1 : Nat) : Int)))], [(7, .arr 44 7 (List.map S1079.c g.2.2)), (8, .arr 44 7 (List.map S1079.c []))])) (fun g => g.2.2.length ≤ g.1 ∧ g.1 ≤ a0.length ∧ a0.drop g.1 = g.2.1 ∧ s2004_l1 a1 a2 g.2.1 g.1 g.2.2 = some R) (fun g => List.length g.2.1) ⟨rfl, (0, a0, []), ⟨rfl, rfl, rfl, rfl, rfl, rfl, rfl, trivial⟩, ⟨rfl, rfl, trivial⟩, rfl, ⟨(by first | (simp; done) | (simp; omega)), (by first | (simp; done) | (simp; omega)), rfl, (by exact hR)⟩, trivial⟩ ?_
  ·rintro ⟨k3, u5, x1⟩ ⟨iv1_0, iv1_1, hd, hR⟩;replace hd : a0.drop k3 = u5 := hd;replace hR : s2004_l1 a1 a2 u5 k3 x1 = some R := hR;replace iv1_0 : x1.length ≤ k3 := iv1_0;replace iv1_1 : k3 ≤ a0.length := iv1_1;refine aw_seq ?_;refine aw_region [.p] ?_;refine st rfl rfl (eff_lss rfl rfl rfl) rfl ?_;refine st_nil ?_;refine len_sl (f := S1079.c) (l := a0) 56 rfl fun hlz1 => ?_;refine aw_seq ?_;refine aw_cond _ rfl (fun h2 => ?_) (fun h2 => ?_)
   ·replace h2 : (decide (((k3 : Nat) : Int) < (List.length a0 : Int))) = true := h2;refine Exists.elim (drop_cons hd (decT h2)) (fun y4 hq_ => ?_);refine Exists.elim hq_ (fun t5 hqq_ => ?_);have et5 := hqq_.1;have hx1 := hqq_.2.1;replace hd := hqq_.2.2;clear hqq_ hq_;rw [et5] at hR;replace h2 := decT h2;rw [s2004_l1] at hR;(try dsimp only at hR);refine aw_skip ?_;refine aw_seq ?_;refine aw_block ?_;refine aw_seq ?_;refine aw_region [.p, .p, .w, .w] ?_;refine st rfl rfl (eff_ix (f := S1079.c) (l := a0) (a := y4) rfl Tryz.underlying25 ty1080 rfl rfl (Int.natCast_nonneg _) hx1) rfl ?_;refine st rfl rfl (eff_loadA rfl ty1080 rfl rfl rfl) rfl ?_;refine st_w rfl rfl (eff_alloc 10 rfl z1080 rfl rfl) rfl ?_;refine st_wn rfl rfl (eff_store (tv := .g (G.agg [G.int y4.Moment, G.str y4.Kind, G.str y4.Terminal, G.int y4.Seats, G.int y4.Size, G.int y4.Noise, G.str y4.Name])) rfl ty1080 rfl rfl rfl rfl rfl) ?_;refine st_nil ?_;refine aw_seq ?_;refine aw_region [.p, .p, .p, .r, .p, .p, .p, .w, .p, .w] ?_;refine st rfl rfl (eff_moveg rfl rfl) rfl ?_;refine st rfl rfl (eff_mulw rfl rfl rfl) rfl ?_;refine st rfl rfl (eff_fieldO rfl fl1080_0 rfl) rfl ?_;refine st_r rfl rfl (eff_loadO rfl ty3 rfl rfl rfl) rfl ?_;refine st rfl rfl (eff_remt rfl rfl rfl (by decide)) rfl ?_;refine st rfl rfl (eff_addw rfl rfl rfl) rfl ?_;refine st rfl rfl (eff_fieldO rfl fl1080_0 rfl) rfl ?_;refine st_wn rfl rfl (eff_store (tv := .g (G.int (IntKind.i64.wrap ((IntKind.i64.wrap (1440 * a2)) + (Int.tmod y4.Moment 4320))))) rfl ty3 rfl rfl rfl rfl rfl) ?_;refine st rfl rfl (eff_fieldO rfl fl1080_3 rfl) rfl ?_;refine st_wn rfl rfl (eff_store (tv := .g (G.int 1)) rfl ty3 rfl rfl rfl rfl rfl) ?_;refine st_nil ?_;refine aw_seq ?_;refine aw_region [.p] ?_;refine st rfl rfl (eff_assigng rfl rfl) rfl ?_;refine st_nil ?_;refine aw_seq ?_;refine aw_block ?_;refine aw_loop_g (γ := Nat × Int) (fun g => ([(1, .g (G.lit (.int .u8 a1))), (2, .g (G.int a2)), (7, .osl 7 7 0 (List.length x1)), (8, .osl 8 7 0 0), (10, .ptr 10 0), (11, .g (G.int g.2)), (56, .g (G.sl 7 (List.map S1079.c a0))), (57, .g (G.int (List.length a0 : Int))), (58, .g (G.int ((k3 : Nat) : Int)))], [(7, .arr 44 7 (List.map S1079.c x1)), (8, .arr 44 7 (List.map S1079.c [])), (10, .box [.g (G.int (IntKind.i64.wrap ((IntKind.i64.wrap (1440 * a2)) + (Int.tmod y4.Moment 4320)))), .g (G.str y4.Kind), .g (G.str y4.Terminal), .g (G.int 1), .g (G.int y4.Size), .g (G.int y4.Noise), .g (G.str y4.Name)])])) (fun g => ((List.length x1 : Int) - g.2).toNat < g.1 ∧ 0 ≤ g.2 ∧ g.2 ≤ (List.length x1 : Int) ∧ s2004_l6 (fun k_ z0_ => s2004_l1 a1 a2 t5 k_ z0_) a2 x1 k3 y4 g.1 g.2 = some R) (fun g => g.1) ⟨rfl, ((((List.length x1 : Int) - 0).toNat) + 1, 0), ⟨rfl, rfl, rfl, rfl, rfl, rfl, rfl, rfl, rfl, trivial⟩, ⟨rfl, rfl, rfl, trivial⟩, rfl, ⟨Nat.lt_succ_self _, (by first | omega | (dsimp only; omega) | simp), (by first | omega | (dsimp only; omega) | simp), (by exact hR)⟩, trivial⟩ ?_
    ·rintro ⟨k32, x31⟩ ⟨hk6, iv6_0, iv6_1, hR⟩;replace hk6 : ((List.length x1 : Int) - x31).toNat < k32 := hk6;replace hR : s2004_l6 (fun k_ z0_ => s2004_l1 a1 a2 t5 k_ z0_) a2 x1 k3 y4 k32 x31 = some R := hR;replace iv6_0 : 0 ≤ x31 := iv6_0;replace iv6_1 : x31 ≤ (List.length x1 : Int) := iv6_1;obtain ⟨k32, hkq_⟩ : ∃ m, k32 = m + 1 := ⟨k32 - 1, by omega⟩;rw [hkq_] at hR;rw [s2004_l6] at hR;(try dsimp only at hR);have hw := wrap_i64 (n := x31 + 1) (by unfold I64; omega);refine aw_seq ?_;refine aw_seq ?_;refine Exists.elim (bindO_inv hR) (fun y33 hq_ => ?_);have by33 := hq_.1;replace hR := hq_.2;clear hq_;refine aw_draw [.p, .p, .p, .p, .p, .p, .p, .p, .p, .r, .p, .r, .p, .p] (by kernel_rfl) ?_;refine st rfl rfl (eff_moveg rfl rfl) rfl ?_;refine st rfl rfl (eff_moveO rfl rfl) rfl ?_;refine st rfl rfl (eff_lenO0 rfl Tryz.underlying25 rfl) rfl ?_;refine st rfl rfl (eff_lss rfl rfl rfl) rfl ?_;refine st rfl rfl (eff_moveg rfl rfl) rfl ?_;refine st_g rfl rfl rfl (gb_bool _ _) (fun h => eff_moveO rfl rfl) rfl ?_;refine st_g rfl rfl rfl (gb_bool _ _) (fun h => eff_moveg rfl rfl) rfl ?_;refine st_g rfl rfl rfl (gb_bool _ _) (fun h => eff_ixL rfl Tryz.underlying25 ty1080 (gd h rfl) (gd h rfl) (ixO_nn (condT1 by33 h)) (Nat.lt_of_lt_of_eq (get_lt (ixO_get (condT1 by33 h))) rfl)) rfl ?_;refine st_g rfl rfl rfl (gb_bool _ _) (fun h => eff_fieldE rfl fl1080_0 (gd h rfl)) rfl ?_;refine st_gr rfl rfl rfl (gb_bool _ _) (fun h => eff_ldE (f := S1079.c) (l := x1) (a := y33) rfl ty3 (gd h rfl) rfl (ixO_get (condT1 by33 h)) rfl) rfl ?_;refine st_g rfl rfl rfl (gb_bool _ _) (fun h => eff_fieldO rfl fl1080_0 rfl) rfl ?_;refine st_gr rfl rfl rfl (gb_bool _ _) (fun h => eff_loadO rfl ty3 (gd h rfl) rfl rfl) rfl ?_;refine st_g rfl rfl rfl (gb_bool _ _) (fun h => eff_leq rfl (gd h rfl) (gd h rfl)) rfl ?_;refine st rfl rfl (eff_and rfl rfl rfl rfl) rfl ?_;refine st_nil ?_;refine aw_cond _ rfl (fun h18 => ?_) (fun h18 => ?_)
     ·replace h18 : ((decide (x31 < (List.length x1 : Int))) && (decide (y33.Moment ≤ IntKind.i64.wrap ((IntKind.i64.wrap (1440 * a2)) + (Int.tmod y4.Moment 4320))))) = true := h18;replace hR := condT hR h18;(try simp only [Bool.or_eq_true, Bool.and_eq_true, Bool.or_eq_false_iff, Bool.and_eq_false_iff, Bool.not_eq_true', Bool.not_eq_false', decide_eq_true_eq, decide_eq_false_iff_not] at h18);refine aw_skip ?_;refine aw_block ?_;refine aw_region [.p, .p, .p] ?_;refine st rfl rfl (eff_moveg rfl rfl) rfl ?_;refine st rfl rfl (eff_addw rfl rfl rfl) rfl ?_;refine st rfl rfl (eff_assigng rfl rfl) rfl ?_;refine st_nil ?_;exact ⟨rfl, (k32, IntKind.i64.wrap (x31 + 1)), ⟨rfl, rfl, rfl, rfl, rfl, rfl, rfl, rfl, rfl, trivial⟩, ⟨rfl, rfl, rfl, trivial⟩, rfl, ⟨(by first | omega | (dsimp only; omega) | (simp at *; omega)), (by first | omega | (dsimp only; omega) | (simp at *; omega)), (by first | omega | (dsimp only; omega) | (simp at *; omega)), hR⟩, (by dsimp only; omega)⟩
     ·replace h18 : ((decide (x31 < (List.length x1 : Int))) && (decide (y33.Moment ≤ IntKind.i64.wrap ((IntKind.i64.wrap (1440 * a2)) + (Int.tmod y4.Moment 4320))))) = false := h18;replace hR := condF hR h18;(try simp only [Bool.or_eq_true, Bool.and_eq_true, Bool.or_eq_false_iff, Bool.and_eq_false_iff, Bool.not_eq_true', Bool.not_eq_false', decide_eq_true_eq, decide_eq_false_iff_not] at h18);refine aw_exit ?_;refine aw_freeze (l := [(1, .g (G.lit (.int .u8 a1))), (2, .g (G.int a2)), (7, .osl 7 7 0 (List.length x1)), (8, .osl 8 7 0 0), (10, .g (G.ref [G.int (IntKind.i64.wrap ((IntKind.i64.wrap (1440 * a2)) + (Int.tmod y4.Moment 4320))), G.str y4.Kind, G.str y4.Terminal, G.int 1, G.int y4.Size, G.int y4.Noise, G.str y4.Name])), (11, .g (G.int x31)), (56, .g (G.sl 7 (List.map S1079.c a0))), (57, .g (G.int (List.length a0 : Int))), (58, .g (G.int ((k3 : Nat) : Int)))]) (m := [(7, .arr 44 7 (List.map S1079.c x1)), (8, .arr 44 7 (List.map S1079.c []))]) 10 rfl ⟨.inl ⟨rfl, rfl⟩, .inl ⟨rfl, rfl⟩, .inl ⟨rfl, rfl⟩, .inl ⟨rfl, rfl⟩, .inr (frz_box rfl), .inl ⟨rfl, rfl⟩, .inl ⟨rfl, rfl⟩, .inl ⟨rfl, rfl⟩, .inl ⟨rfl, rfl⟩, trivial⟩ ⟨rfl, rfl, trivial⟩ rfl rfl ?_;refine aw_ends ?_;refine aw_draw2 [.w, .pn 86, .pn 86, .pn 86, .kn 86, .pn 86, .pn 86, .kn 86, .pn 86, .pn 86, .pn 86, .kn 86, .p] (by kernel_rfl) ?_;refine st_w rfl rfl (eff_buildSO (xs := List.map S1079.c []) 86 rfl Tryz.underlying25 ty1080 z1080 rfl ps_nil rfl (by simp [S1079.c]) (by decide) rfl) rfl ?_;refine st_pn rfl rfl (eff_moveO rfl rfl) rfl rfl rfl ?_;refine st_pn rfl rfl (eff_moveg rfl rfl) rfl rfl rfl ?_;refine st_pn rfl rfl (eff_slO (a := 0) (c := Int.toNat x31) rfl Tryz.underlying25 ty1080 rfl bnd_none (bnd_some rfl (by omega)) (by omega) (by omega)) rfl rfl rfl ?_;refine st_kn rfl rfl (eff_appL (f := S1079.c) (out := []) (new := List.take (Int.toNat x31) x1) rfl app1025 rfl rfl (src_eq rfl (src_oslC (l := x1) rfl rfl (by simp [S1079.c]) (by omega) (by omega))) (refsN rfl) (by simp; omega)) rfl ?_;refine st_pn rfl rfl (eff_loadA rfl ty1080 rfl rfl rfl) rfl rfl rfl ?_;refine st_pn rfl rfl (eff_buildSlice rfl Tryz.underlying25 ty1080 z1080 rfl (ps_cons rfl ps_nil) rfl (by exact lens rfl) (by decide)) rfl rfl rfl ?_;refine st_kn rfl rfl (eff_appL (f := S1079.c) (out := [] ++ (List.take (Int.toNat x31) x1)) (new := ([(S1079.mk (IntKind.i64.wrap ((IntKind.i64.wrap (1440 * a2)) + (Int.tmod y4.Moment 4320))) y4.Kind y4.Terminal 1 y4.Size y4.Noise y4.Name)] : List S1079)) rfl app1025 rfl rfl (src_eq rfl (src_sl (by decide) (by simp [S1079.c]))) (refsN rfl) (by simp; omega)) rfl ?_;refine st_pn rfl rfl (eff_moveO rfl rfl) rfl rfl rfl ?_;refine st_pn rfl rfl (eff_moveg rfl rfl) rfl rfl rfl ?_;refine st_pn rfl rfl (eff_slO (a := Int.toNat x31) (c := List.length x1) rfl Tryz.underlying25 ty1080 rfl (bnd_some rfl (by omega)) bnd_none (by omega) (by omega)) rfl rfl rfl ?_;refine st_kn rfl rfl (eff_appL (f := S1079.c) (out := ([] ++ (List.take (Int.toNat x31) x1)) ++ ([(S1079.mk (IntKind.i64.wrap ((IntKind.i64.wrap (1440 * a2)) + (Int.tmod y4.Moment 4320))) y4.Kind y4.Terminal 1 y4.Size y4.Noise y4.Name)] : List S1079)) (new := List.drop (Int.toNat x31) x1) rfl app1025 rfl rfl (src_eq rfl (src_oslA (l := x1) rfl rfl (by simp [S1079.c]) (by omega) (by omega))) (refsN rfl) (by simp; omega)) rfl ?_;refine st rfl rfl (eff_assignO rfl rfl) rfl ?_;refine st_nil ?_;refine ⟨[(7, 86)], [(1, .g (G.lit (.int .u8 a1))), (2, .g (G.int a2)), (7, .osl 7 7 0 (List.length ((([] ++ (List.take (Int.toNat x31) x1)) ++ ([(S1079.mk (IntKind.i64.wrap ((IntKind.i64.wrap (1440 * a2)) + (Int.tmod y4.Moment 4320))) y4.Kind y4.Terminal 1 y4.Size y4.Noise y4.Name)] : List S1079)) ++ (List.drop (Int.toNat x31) x1)))), (8, .osl 8 7 0 0), (56, .g (G.sl 7 (List.map S1079.c a0))), (57, .g (G.int (List.length a0 : Int))), (58, .g (G.int ((k3 : Nat) : Int)))], [(7, .arr 44 7 (List.map S1079.c ((([] ++ (List.take (Int.toNat x31) x1)) ++ ([(S1079.mk (IntKind.i64.wrap ((IntKind.i64.wrap (1440 * a2)) + (Int.tmod y4.Moment 4320))) y4.Kind y4.Terminal 1 y4.Size y4.Noise y4.Name)] : List S1079)) ++ (List.drop (Int.toNat x31) x1)))), (8, .arr 44 7 (List.map S1079.c []))], ⟨rfl, rfl, rfl, rfl, rfl, rfl, rfl, trivial⟩, ⟨rfl, rfl, trivial⟩, rfl, rfl, rfl, ?_⟩;refine aw_region [.p, .p] ?_;refine st rfl rfl (eff_add rfl rfl rfl (by unfold I64; omega)) rfl ?_;refine st rfl rfl (eff_moveg rfl rfl) rfl ?_;refine st_nil ?_;exact ⟨rfl, (k3 + 1, t5, (([] ++ (List.take (Int.toNat x31) x1)) ++ ([(S1079.mk (IntKind.i64.wrap ((IntKind.i64.wrap (1440 * a2)) + (Int.tmod y4.Moment 4320))) y4.Kind y4.Terminal 1 y4.Size y4.Noise y4.Name)] : List S1079)) ++ (List.drop (Int.toNat x31) x1)), ⟨rfl, rfl, rfl, rfl, rfl, rfl, rfl, trivial⟩, ⟨rfl, rfl, trivial⟩, rfl, ⟨(by first | omega | (dsimp only; omega) | (simp at *; omega)), (by first | omega | (dsimp only; omega) | (simp at *; omega)), hd, hR⟩, by simp [et5]⟩
   ·replace h2 : (decide (((k3 : Nat) : Int) < (List.length a0 : Int))) = false := h2;have hn_ := drop_nil hd (decF h2);rw [hn_] at hR;rw [s2004_l1] at hR;refine aw_exit ?_;refine aw_seq ?_;refine aw_seq ?_;refine aw_freeze (l := [(1, .g (G.lit (.int .u8 a1))), (2, .g (G.int a2)), (7, .g (G.sl 7 (List.map S1079.c x1))), (8, .osl 8 7 0 0)]) (m := [(8, .arr 44 7 (List.map S1079.c []))]) 7 rfl ⟨.inl ⟨rfl, rfl⟩, .inl ⟨rfl, rfl⟩, .inr (frz_arr rfl), .inl ⟨rfl, rfl⟩, trivial⟩ ⟨rfl, trivial⟩ rfl rfl ?_;refine aw_region [.p, .p, .p] ?_;refine st rfl rfl (eff_moveg rfl rfl) rfl ?_;refine st rfl rfl (eff_lenM (f := S1079.c) (l := x1) rfl Tryz.underlying25 rfl) rfl ?_;refine st rfl rfl (eff_moveg rfl rfl) rfl ?_;refine st_nil ?_;refine aw_block ?_;refine aw_loop_g (γ := Nat × (List S1079) × (List S1079)) (fun g => ([(1, .g (G.lit (.int .u8 a1))), (2, .g (G.int a2)), (7, .g (G.sl 7 (List.map S1079.c x1))), (8, .osl 8 7 0 (List.length g.2.2)), (99, .g (G.sl 7 (List.map S1079.c x1))), (100, .g (G.int (List.length x1 : Int))), (101, .g (G.int ((g.1 : Nat) : Int)))], [(8, .arr 44 7 (List.map S1079.c g.2.2))])) (fun g => g.2.2.length ≤ g.1 ∧ g.1 ≤ 8 ∧ g.2.2.length ≤ g.1 ∧ x1.drop g.1 = g.2.1 ∧ s2004_l2 a1 a2 x1 g.2.1 g.1 g.2.2 = some R) (fun g => List.length g.2.1) ⟨rfl, (0, x1, []), ⟨rfl, rfl, rfl, rfl, rfl, rfl, rfl, trivial⟩, ⟨rfl, trivial⟩, rfl, ⟨(by first | (simp; done) | (simp; omega)), (by first | (simp; done) | (simp; omega)), (by first | (simp; done) | (simp; omega)), rfl, (by exact hR)⟩, trivial⟩ ?_
    ·rintro ⟨k8, u10, x6⟩ ⟨iv2_0, iv2_1, iv2_2, hd2, hR⟩;replace hd2 : x1.drop k8 = u10 := hd2;replace hR : s2004_l2 a1 a2 x1 u10 k8 x6 = some R := hR;replace iv2_0 : x6.length ≤ k8 := iv2_0;replace iv2_1 : k8 ≤ 8 := iv2_1;replace iv2_2 : x6.length ≤ k8 := iv2_2;refine aw_seq ?_;refine aw_region [.p] ?_;refine st rfl rfl (eff_lss rfl rfl rfl) rfl ?_;refine st_nil ?_;refine len_sl (f := S1079.c) (l := x1) 7 rfl fun hlz2 => ?_;refine aw_seq ?_;refine aw_cond _ rfl (fun h4 => ?_) (fun h4 => ?_)
     ·replace h4 : (decide (((k8 : Nat) : Int) < (List.length x1 : Int))) = true := h4;refine Exists.elim (drop_cons hd2 (decT h4)) (fun y9 hq_ => ?_);refine Exists.elim hq_ (fun t10 hqq_ => ?_);have et10 := hqq_.1;have hx2 := hqq_.2.1;replace hd2 := hqq_.2.2;clear hqq_ hq_;rw [et10] at hR;replace h4 := decT h4;rw [s2004_l2] at hR;(try dsimp only at hR);refine aw_skip ?_;refine aw_seq ?_;refine aw_block ?_;refine aw_seq ?_;refine aw_region [.p, .p, .w, .w] ?_;refine st rfl rfl (eff_ix (f := S1079.c) (l := x1) (a := y9) rfl Tryz.underlying25 ty1080 rfl rfl (Int.natCast_nonneg _) hx2) rfl ?_;refine st rfl rfl (eff_loadA rfl ty1080 rfl rfl rfl) rfl ?_;refine st_w rfl rfl (eff_alloc 13 rfl z1080 rfl rfl) rfl ?_;refine st_wn rfl rfl (eff_store (tv := .g (G.agg [G.int y9.Moment, G.str y9.Kind, G.str y9.Terminal, G.int y9.Seats, G.int y9.Size, G.int y9.Noise, G.str y9.Name])) rfl ty1080 rfl rfl rfl rfl rfl) ?_;refine st_nil ?_;refine aw_seq ?_;refine aw_region [.p, .w] ?_;refine st rfl rfl (eff_fieldO rfl fl1080_3 rfl) rfl ?_;refine st_wn rfl rfl (eff_store (tv := .g (G.int 2)) rfl ty3 rfl rfl rfl rfl rfl) ?_;refine st_nil ?_;refine aw_region [.p, .r, .p, .k, .p] ?_;refine st rfl rfl (eff_moveO rfl rfl) rfl ?_;refine st_r rfl rfl (eff_loadOA rfl ty1080 rfl rfl rfl rfl) rfl ?_;refine st rfl rfl (eff_buildSlice rfl Tryz.underlying25 ty1080 z1080 rfl (ps_cons rfl ps_nil) rfl (by exact lens rfl) (by decide)) rfl ?_;refine st_k rfl rfl (eff_appL (f := S1079.c) (out := x6) (new := ([(S1079.mk y9.Moment y9.Kind y9.Terminal 2 y9.Size y9.Noise y9.Name)] : List S1079)) rfl app1025 rfl rfl (src_eq rfl (src_sl (by decide) (by simp [S1079.c]))) (refsN rfl) (by simp; omega)) rfl ?_;refine st rfl rfl (eff_assignO rfl rfl) rfl ?_;refine st_nil ?_;refine aw_region [.p, .p] ?_;refine st rfl rfl (eff_add rfl rfl rfl (by unfold I64; omega)) rfl ?_;refine st rfl rfl (eff_moveg rfl rfl) rfl ?_;refine st_nil ?_;exact ⟨rfl, (k8 + 1, t10, x6 ++ ([(S1079.mk y9.Moment y9.Kind y9.Terminal 2 y9.Size y9.Noise y9.Name)] : List S1079)), ⟨rfl, rfl, rfl, rfl, rfl, rfl, rfl, trivial⟩, ⟨rfl, trivial⟩, rfl, ⟨(by first | omega | (dsimp only; omega) | (simp at *; omega)), (by first | omega | (dsimp only; omega) | (simp at *; omega)), (by first | omega | (dsimp only; omega) | (simp at *; omega)), hd2, hR⟩, by simp [et10]⟩
     ·replace h4 : (decide (((k8 : Nat) : Int) < (List.length x1 : Int))) = false := h4;have hn_ := drop_nil hd2 (decF h4);rw [hn_] at hR;rw [s2004_l2] at hR;refine aw_exit ?_;refine aw_seq ?_;refine aw_seq ?_;refine aw_freeze (l := [(1, .g (G.lit (.int .u8 a1))), (2, .g (G.int a2)), (7, .g (G.sl 7 (List.map S1079.c x1))), (8, .g (G.sl 7 (List.map S1079.c x6)))]) (m := []) 8 rfl ⟨.inl ⟨rfl, rfl⟩, .inl ⟨rfl, rfl⟩, .inl ⟨rfl, rfl⟩, .inr (frz_arr rfl), trivial⟩ trivial rfl rfl ?_;refine Exists.elim (bindO_inv hR) (fun r11 hq_ => ?_);have br11 := hq_.1;replace hR := hq_.2;clear hq_;refine aw_region [.p, .p, .p] ?_;refine st rfl rfl (eff_moveg rfl rfl) rfl ?_;refine st rfl rfl (eff_call rfl K2009 rfl (c2009 x1 br11) (ag_cons rfl ag_nil)) rfl ?_;refine st rfl rfl (eff_neq rfl rfl rfl) rfl ?_;refine st_nil ?_;refine aw_cond _ rfl (fun h6 => ?_) (fun h6 => ?_)
      ·replace h6 : (decide (r11 ≠ 0)) = true := h6;replace hR := condT hR h6;(try simp only [Bool.or_eq_true, Bool.and_eq_true, Bool.or_eq_false_iff, Bool.and_eq_false_iff, Bool.not_eq_true', Bool.not_eq_false', decide_eq_true_eq, decide_eq_false_iff_not] at h6);refine aw_seq ?_;refine aw_region [.p] ?_;refine st rfl rfl (eff_assigng rfl rfl) rfl ?_;refine st_nil ?_;refine aw_ret ?_;exact res_e (res_c rfl (rv_g rfl)) (congrArg (fun R_ => G.bool R_) (Option.some.inj hR))
      ·replace h6 : (decide (r11 ≠ 0)) = false := h6;replace hR := condF hR h6;(try simp only [Bool.or_eq_true, Bool.and_eq_true, Bool.or_eq_false_iff, Bool.and_eq_false_iff, Bool.not_eq_true', Bool.not_eq_false', decide_eq_true_eq, decide_eq_false_iff_not] at h6);refine aw_skip ?_;refine aw_seq ?_;refine aw_region [.p, .p, .p, .p, .w, .w] ?_;refine st rfl rfl (eff_moveg rfl rfl) rfl ?_;refine st rfl rfl (eff_moveg rfl rfl) rfl ?_;refine st rfl rfl (eff_addw rfl rfl rfl) rfl ?_;refine st rfl rfl (eff_build rfl z46 rfl pl46 (pb_cons rfl (pb_cons rfl (pb_cons rfl pb_nil))) rfl) rfl ?_;refine st_w rfl rfl (eff_alloc 14 rfl z46 rfl rfl) rfl ?_;refine st_wn rfl rfl (eff_store (tv := .g (G.agg [G.int a2, G.int (IntKind.i64.wrap (a2 + 2)), G.int 127])) rfl ty46 rfl rfl rfl rfl rfl) ?_;refine st_nil ?_;refine aw_seq ?_;refine aw_seq ?_;refine aw_region [.p, .p, .p] ?_;refine st rfl rfl (eff_buildSlice rfl Tryz.underlying61 ty9 z9 rfl (ps_cons rfl (ps_cons rfl (ps_cons rfl ps_nil))) rfl (by simp []) (by decide)) rfl ?_;refine st rfl rfl (eff_lenM (f := cStr) (l := ([⟨#[65]⟩, ⟨#[68]⟩, ⟨#[84]⟩] : List ByteArray)) rfl Tryz.underlying61 rfl) rfl ?_;refine st rfl rfl (eff_moveg rfl rfl) rfl ?_;refine st_nil ?_;refine aw_block ?_;refine aw_loop_g (γ := Nat × (List ByteArray)) (fun g => ([(1, .g (G.lit (.int .u8 a1))), (2, .g (G.int a2)), (7, .g (G.sl 7 (List.map S1079.c x1))), (8, .g (G.sl 7 (List.map S1079.c x6))), (14, .ptr 14 0), (118, .g (G.sl 1 (List.map cStr ([⟨#[65]⟩, ⟨#[68]⟩, ⟨#[84]⟩] : List ByteArray)))), (119, .g (G.int (List.length ([⟨#[65]⟩, ⟨#[68]⟩, ⟨#[84]⟩] : List ByteArray) : Int))), (120, .g (G.int ((g.1 : Nat) : Int)))], [(14, .box [.g (G.int a2), .g (G.int (IntKind.i64.wrap (a2 + 2))), .g (G.int 127)])])) (fun g => ([⟨#[65]⟩, ⟨#[68]⟩, ⟨#[84]⟩] : List ByteArray).drop g.1 = g.2 ∧ s2004_l3 a1 a2 x1 x6 g.2 g.1 = some R) (fun g => List.length g.2) ⟨rfl, (0, ([⟨#[65]⟩, ⟨#[68]⟩, ⟨#[84]⟩] : List ByteArray)), ⟨rfl, rfl, rfl, rfl, rfl, rfl, rfl, rfl, trivial⟩, ⟨rfl, trivial⟩, rfl, ⟨rfl, (by exact hR)⟩, trivial⟩ ?_
       ·rintro ⟨k13, u15⟩ ⟨hd3, hR⟩;replace hd3 : ([⟨#[65]⟩, ⟨#[68]⟩, ⟨#[84]⟩] : List ByteArray).drop k13 = u15 := hd3;replace hR : s2004_l3 a1 a2 x1 x6 u15 k13 = some R := hR;refine aw_seq ?_;refine aw_region [.p] ?_;refine st rfl rfl (eff_lss rfl rfl rfl) rfl ?_;refine st_nil ?_;refine len_sl (f := cStr) (l := ([⟨#[65]⟩, ⟨#[68]⟩, ⟨#[84]⟩] : List ByteArray)) 118 rfl fun hlz3 => ?_;refine aw_seq ?_;refine aw_cond _ rfl (fun h7 => ?_) (fun h7 => ?_)
        ·replace h7 : (decide (((k13 : Nat) : Int) < (List.length ([⟨#[65]⟩, ⟨#[68]⟩, ⟨#[84]⟩] : List ByteArray) : Int))) = true := h7;refine Exists.elim (drop_cons hd3 (decT h7)) (fun y14 hq_ => ?_);refine Exists.elim hq_ (fun t15 hqq_ => ?_);have et15 := hqq_.1;have hx3 := hqq_.2.1;replace hd3 := hqq_.2.2;clear hqq_ hq_;rw [et15] at hR;replace h7 := decT h7;rw [s2004_l3] at hR;(try dsimp only at hR);refine aw_skip ?_;refine aw_seq ?_;refine aw_block ?_;refine aw_seq ?_;refine aw_region [.p, .p, .p] ?_;refine st rfl rfl (eff_ix (f := cStr) (l := ([⟨#[65]⟩, ⟨#[68]⟩, ⟨#[84]⟩] : List ByteArray)) (a := y14) rfl Tryz.underlying61 ty9 rfl rfl (Int.natCast_nonneg _) hx3) rfl ?_;refine st rfl rfl (eff_load rfl ty9 rfl) rfl ?_;refine st rfl rfl (eff_assigng rfl rfl) rfl ?_;refine st_nil ?_;refine aw_seq ?_;refine Exists.elim (bindO_inv hR) (fun r16 hq_ => ?_);have br16 := hq_.1;replace hR := hq_.2;clear hq_;refine aw_region [.p, .p, .p, .p, .r, .p, .p, .p, .p, .w, .w, .w, .w] ?_;refine st rfl rfl (eff_moveg rfl rfl) rfl ?_;refine st rfl rfl (eff_moveg rfl rfl) rfl ?_;refine st rfl rfl (eff_conv rfl Tryz.underlying5 Tryz.underlying3 rfl) rfl ?_;refine st rfl rfl (eff_remt rfl rfl rfl (by decide)) rfl ?_;refine st_r rfl rfl (eff_loadOA rfl ty46 rfl rfl rfl rfl) rfl ?_;refine st rfl rfl (eff_call rfl K2017 rfl (c2017o y14 (⟨#[]⟩) (Int.tmod (IntKind.i64.wrap a1) 4) (S45.mk a2 (IntKind.i64.wrap (a2 + 2)) 127) br16) (ag_cons rfl (ag_cons rfl (ag_cons rfl (ag_cons rfl ag_nil))))) rfl ?_;refine st rfl rfl (eff_moveg rfl rfl) rfl ?_;refine st rfl rfl (eff_extract rfl rfl rfl) rfl ?_;refine st rfl rfl (eff_extract rfl rfl rfl) rfl ?_;refine st_w rfl rfl (eff_alloc 17 rfl z2063 rfl rfl) rfl ?_;refine st_w rfl rfl (eff_alloc 18 rfl z1064 rfl rfl) rfl ?_;refine st_wn rfl rfl (eff_store (tv := .g (G.agg [G.str r16.1.Name, G.str r16.1.Kind, G.str r16.1.Terminal, G.int r16.1.Length, G.int r16.1.Step, G.int r16.1.fFrom, G.int r16.1.fTo, G.int r16.1.Period.fFrom, G.int r16.1.Period.fTo, G.int r16.1.Period.Days, G.int r16.1.Most])) rfl ty2063 rfl rfl rfl rfl rfl) ?_;refine st_wn rfl rfl (eff_store (tv := .g (G.agg [G.str r16.2.Terminal, G.str r16.2.Kind, G.int r16.2.Length, G.int r16.2.Step, G.int r16.2.Most])) rfl ty1064 rfl rfl rfl rfl rfl) ?_;refine st_nil ?_;refine aw_seq ?_;refine Exists.elim (bindO_inv hR) (fun r17 hq_ => ?_);have br17 := hq_.1;replace hR := hq_.2;clear hq_;refine aw_region [.r, .p, .p, .p, .p, .p, .p, .w, .w, .p] ?_;refine st_r rfl rfl (eff_loadOA rfl ty2063 rfl rfl rfl rfl) rfl ?_;refine st rfl rfl (eff_buildSlice rfl Tryz.underlying72 ty2063 z2063 rfl (ps_cons rfl ps_nil) rfl (by simp [S2062.c, S45.c]) (by decide)) rfl ?_;refine st rfl rfl (eff_moveg rfl rfl) rfl ?_;refine st rfl rfl (eff_call rfl K2018 rfl (c2018 ([r16.1] : List S2062) x1 (by first | assumption | omega | (simp [copyL_len]; done) | (simp [copyL_len]; omega)) br17) (ag_cons rfl (ag_cons rfl ag_nil))) rfl ?_;refine st rfl rfl (eff_moveg rfl rfl) rfl ?_;refine st rfl rfl (eff_extract rfl rfl rfl) rfl ?_;refine st rfl rfl (eff_extract rfl rfl rfl) rfl ?_;refine st_w rfl rfl (eff_alloc 19 rfl z2069 rfl rfl) rfl ?_;refine st_wn rfl rfl (eff_store (tv := .g (G.agg [G.int r17.1.Limit, G.int r17.1.Begin, G.int r17.1.Count])) rfl ty2069 rfl rfl rfl rfl rfl) ?_;refine st rfl rfl (eff_assigng rfl rfl) rfl ?_;refine st_nil ?_;refine aw_seq ?_;refine Exists.elim (bindO_inv hR) (fun r18 hq_ => ?_);have br18 := hq_.1;replace hR := hq_.2;clear hq_;refine aw_region [.r, .p, .p, .p, .p, .p, .p, .w, .w, .p] ?_;refine st_r rfl rfl (eff_loadOA rfl ty1064 rfl rfl rfl rfl) rfl ?_;refine st rfl rfl (eff_buildSlice rfl Tryz.underlying77 ty1064 z1064 rfl (ps_cons rfl ps_nil) rfl (by simp [S1063.c]) (by decide)) rfl ?_;refine st rfl rfl (eff_moveg rfl rfl) rfl ?_;refine st rfl rfl (eff_call rfl K1043 rfl (c1043 ([r16.2] : List S1063) x1 (fun _ => by omega) br18) (ag_cons rfl (ag_cons rfl ag_nil))) rfl ?_;refine st rfl rfl (eff_moveg rfl rfl) rfl ?_;refine st rfl rfl (eff_extract rfl rfl rfl) rfl ?_;refine st rfl rfl (eff_extract rfl rfl rfl) rfl ?_;refine st_w rfl rfl (eff_alloc 21 rfl z1072 rfl rfl) rfl ?_;refine st_wn rfl rfl (eff_store (tv := .g (G.agg [G.int r18.1.Limit, G.int r18.1.Moment, G.int r18.1.Seats])) rfl ty1072 rfl rfl rfl rfl rfl) ?_;refine st rfl rfl (eff_assigng rfl rfl) rfl ?_;refine st_nil ?_;refine aw_seq ?_;refine aw_seq ?_;refine aw_region [.p, .p, .p, .p, .p, .p, .p, .p, .p, .p, .p, .p, .p, .p, .p, .p, .r, .p, .r, .p, .p, .p, .r, .p, .r, .p, .p, .p, .p, .r, .p, .r, .p, .p, .p, .p] ?_;refine st rfl rfl (eff_moveg rfl rfl) rfl ?_;refine st rfl rfl (eff_moveg rfl rfl) rfl ?_;refine st rfl rfl (eff_neq rfl rfl rfl) rfl ?_;refine st rfl rfl (eff_moveg rfl rfl) rfl ?_;refine st_g rfl rfl rfl (gb_bool _ _) (fun h => eff_moveg rfl rfl) rfl ?_;refine st_g rfl rfl rfl (gb_bool _ _) (fun h => eff_neq rfl (gd h rfl) rfl) rfl ?_;refine st_g rfl rfl rfl (gb_bool _ _) (fun h => eff_moveg rfl (gd h rfl)) rfl ?_;refine st_g rfl rfl rfl (gb_if _ _ _) (fun h => eff_moveg rfl rfl) rfl ?_;refine st_g rfl rfl rfl (gb_if _ _ _) (fun h => eff_neq rfl (gd h rfl) rfl) rfl ?_;refine st_g rfl rfl rfl (gb_bool _ _) (fun h => eff_and rfl (gd h rfl) rfl (gd2 h rfl)) rfl ?_;refine st rfl rfl (eff_or rfl rfl rfl rfl) rfl ?_;refine st rfl rfl (eff_moveg rfl rfl) rfl ?_;refine st_g rfl rfl rfl (gb_bool _ _) (fun h => eff_moveg rfl rfl) rfl ?_;refine st_g rfl rfl rfl (gb_bool _ _) (fun h => eff_eql rfl (gd h rfl) rfl) rfl ?_;refine st_g rfl rfl rfl (gb_bool _ _) (fun h => eff_moveg rfl (gd h rfl)) rfl ?_;refine st_g rfl rfl rfl (gb_if _ _ _) (fun h => eff_fieldO rfl fl2069_0 rfl) rfl ?_;refine st_gr rfl rfl rfl (gb_if _ _ _) (fun h => eff_loadO rfl ty3 (gd h rfl) rfl rfl) rfl ?_;refine st_g rfl rfl rfl (gb_if _ _ _) (fun h => eff_fieldO rfl fl1072_0 rfl) rfl ?_;refine st_gr rfl rfl rfl (gb_if _ _ _) (fun h => eff_loadO rfl ty3 (gd h rfl) rfl rfl) rfl ?_;refine st_g rfl rfl rfl (gb_if _ _ _) (fun h => eff_neq rfl (gd h rfl) (gd h rfl)) rfl ?_;refine st_g rfl rfl rfl (gb_if _ _ _) (fun h => eff_moveg rfl (gd h rfl)) rfl ?_;refine st_g rfl rfl rfl (gb_if _ _ _) (fun h => eff_fieldO rfl fl2069_1 rfl) rfl ?_;refine st_gr rfl rfl rfl (gb_if _ _ _) (fun h => eff_loadO rfl ty3 (gd h rfl) rfl rfl) rfl ?_;refine st_g rfl rfl rfl (gb_if _ _ _) (fun h => eff_fieldO rfl fl1072_1 rfl) rfl ?_;refine st_gr rfl rfl rfl (gb_if _ _ _) (fun h => eff_loadO rfl ty3 (gd h rfl) rfl rfl) rfl ?_;refine st_g rfl rfl rfl (gb_if _ _ _) (fun h => eff_neq rfl (gd h rfl) (gd h rfl)) rfl ?_;refine st_g rfl rfl rfl (gb_if _ _ _) (fun h => eff_or rfl (gd h rfl) rfl (gd2 h rfl)) rfl ?_;refine st_g rfl rfl rfl (gb_if _ _ _) (fun h => eff_moveg rfl (gd h rfl)) rfl ?_;refine st_g rfl rfl rfl (gb_if _ _ _) (fun h => eff_fieldO rfl fl2069_2 rfl) rfl ?_;refine st_gr rfl rfl rfl (gb_if _ _ _) (fun h => eff_loadO rfl ty3 (gd h rfl) rfl rfl) rfl ?_;refine st_g rfl rfl rfl (gb_if _ _ _) (fun h => eff_fieldO rfl fl1072_2 rfl) rfl ?_;refine st_gr rfl rfl rfl (gb_if _ _ _) (fun h => eff_loadO rfl ty3 (gd h rfl) rfl rfl) rfl ?_;refine st_g rfl rfl rfl (gb_if _ _ _) (fun h => eff_neq rfl (gd h rfl) (gd h rfl)) rfl ?_;refine st_g rfl rfl rfl (gb_if _ _ _) (fun h => eff_or rfl (gd h rfl) rfl (gd2 h rfl)) rfl ?_;refine st_g rfl rfl rfl (gb_bool _ _) (fun h => eff_and rfl (gd h rfl) rfl (gd2 h rfl)) rfl ?_;refine st rfl rfl (eff_or rfl rfl rfl rfl) rfl ?_;refine st_nil ?_;refine aw_cond _ rfl (fun h9 => ?_) (fun h9 => ?_)
         ·replace h9 : (((decide (r17.2 ≠ r18.2)) || ((decide (r17.2 ≠ 0)) && (decide (r17.2 ≠ 7)))) || ((decide (r17.2 = 0)) && (((decide (r17.1.Limit ≠ r18.1.Limit)) || (decide (r17.1.Begin ≠ r18.1.Moment))) || (decide (r17.1.Count ≠ r18.1.Seats))))) = true := h9;replace hR := condT hR h9;(try simp only [Bool.or_eq_true, Bool.and_eq_true, Bool.or_eq_false_iff, Bool.and_eq_false_iff, Bool.not_eq_true', Bool.not_eq_false', decide_eq_true_eq, decide_eq_false_iff_not] at h9);refine aw_seq ?_;refine aw_region [.p] ?_;refine st rfl rfl (eff_assigng rfl rfl) rfl ?_;refine st_nil ?_;refine aw_ret ?_;exact res_e (res_c rfl (rv_g rfl)) (congrArg (fun R_ => G.bool R_) (Option.some.inj hR))
         ·replace h9 : (((decide (r17.2 ≠ r18.2)) || ((decide (r17.2 ≠ 0)) && (decide (r17.2 ≠ 7)))) || ((decide (r17.2 = 0)) && (((decide (r17.1.Limit ≠ r18.1.Limit)) || (decide (r17.1.Begin ≠ r18.1.Moment))) || (decide (r17.1.Count ≠ r18.1.Seats))))) = false := h9;replace hR := condF hR h9;(try simp only [Bool.or_eq_true, Bool.and_eq_true, Bool.or_eq_false_iff, Bool.and_eq_false_iff, Bool.not_eq_true', Bool.not_eq_false', decide_eq_true_eq, decide_eq_false_iff_not] at h9);refine aw_skip ?_;refine aw_seq ?_;refine aw_seq ?_;refine aw_region [.p] ?_;refine st rfl rfl (eff_moveg rfl rfl) rfl ?_;refine st_nil ?_;refine aw_block ?_;refine aw_loop_g (γ := Nat × Int) (fun g => ([(1, .g (G.lit (.int .u8 a1))), (2, .g (G.int a2)), (7, .g (G.sl 7 (List.map S1079.c x1))), (8, .g (G.sl 7 (List.map S1079.c x6))), (14, .ptr 14 0), (16, .g (G.str y14)), (17, .ptr 17 0), (18, .ptr 18 0), (118, .g (G.sl 1 (List.map cStr ([⟨#[65]⟩, ⟨#[68]⟩, ⟨#[84]⟩] : List ByteArray)))), (119, .g (G.int (List.length ([⟨#[65]⟩, ⟨#[68]⟩, ⟨#[84]⟩] : List ByteArray) : Int))), (120, .g (G.int ((k13 : Nat) : Int))), (183, .g (G.int g.2))], [(14, .box [.g (G.int a2), .g (G.int (IntKind.i64.wrap (a2 + 2))), .g (G.int 127)]), (17, .box [.g (G.str r16.1.Name), .g (G.str r16.1.Kind), .g (G.str r16.1.Terminal), .g (G.int r16.1.Length), .g (G.int r16.1.Step), .g (G.int r16.1.fFrom), .g (G.int r16.1.fTo), .g (G.int r16.1.Period.fFrom), .g (G.int r16.1.Period.fTo), .g (G.int r16.1.Period.Days), .g (G.int r16.1.Most)]), (18, .box [.g (G.str r16.2.Terminal), .g (G.str r16.2.Kind), .g (G.int r16.2.Length), .g (G.int r16.2.Step), .g (G.int r16.2.Most)])])) (fun g => g.1 = ((72 : Int) - g.2).toNat ∧ 0 ≤ g.2 ∧ s2004_l4 (fun k_ => s2004_l3 a1 a2 x1 x6 t15 k_) a2 x1 x6 k13 y14 r16 g.1 g.2 = some R) (fun g => g.1) ⟨rfl, (((72 : Int) - 0).toNat, 0), ⟨rfl, rfl, rfl, rfl, rfl, rfl, rfl, rfl, rfl, rfl, rfl, rfl, trivial⟩, ⟨rfl, rfl, rfl, trivial⟩, rfl, ⟨rfl, (by first | omega | (dsimp only; omega) | simp), (by exact hR)⟩, trivial⟩ ?_
          ·rintro ⟨k21, x19⟩ ⟨hk4, iv4_0, hR⟩;replace hk4 : k21 = ((72 : Int) - x19).toNat := hk4;replace hR : s2004_l4 (fun k_ => s2004_l3 a1 a2 x1 x6 t15 k_) a2 x1 x6 k13 y14 r16 k21 x19 = some R := hR;replace iv4_0 : 0 ≤ x19 := iv4_0;refine aw_seq ?_;refine aw_region [.p] ?_;refine st rfl rfl (eff_lss rfl rfl rfl) rfl ?_;refine st_nil ?_;refine aw_seq ?_;refine aw_cond _ rfl (fun h10 => ?_) (fun h10 => ?_)
           ·replace h10 : (decide (x19 < 72)) = true := h10;replace h10 := decT h10;obtain ⟨k21, hkq_⟩ : ∃ m, k21 = m + 1 := ⟨k21 - 1, by omega⟩;rw [hkq_] at hR;rw [s2004_l4] at hR;(try dsimp only at hR);refine aw_skip ?_;refine aw_seq ?_;refine aw_block ?_;refine aw_seq ?_;refine aw_region [.p, .p] ?_;refine st rfl rfl (eff_moveg rfl rfl) rfl ?_;refine st rfl rfl (eff_assigng rfl rfl) rfl ?_;refine st_nil ?_;refine aw_seq ?_;refine aw_region [.p, .p, .p, .p, .p, .p] ?_;refine st rfl rfl (eff_moveg rfl rfl) rfl ?_;refine st rfl rfl (eff_mulw rfl rfl rfl) rfl ?_;refine st rfl rfl (eff_moveg rfl rfl) rfl ?_;refine st rfl rfl (eff_mulw rfl rfl rfl) rfl ?_;refine st rfl rfl (eff_addw rfl rfl rfl) rfl ?_;refine st rfl rfl (eff_assigng rfl rfl) rfl ?_;refine st_nil ?_;refine aw_seq ?_;refine Exists.elim (bindO_inv hR) (fun r28 hq_ => ?_);have br28 := hq_.1;replace hR := hq_.2;clear hq_;refine aw_region [.r, .p, .p, .p, .p, .p, .p, .p, .p] ?_;refine st_r rfl rfl (eff_loadOA rfl ty2063 rfl rfl rfl rfl) rfl ?_;refine st rfl rfl (eff_moveg rfl rfl) rfl ?_;refine st rfl rfl (eff_moveg rfl rfl) rfl ?_;refine st rfl rfl (eff_call rfl K2020 rfl (c2020 r16.1 x1 (IntKind.i64.wrap ((IntKind.i64.wrap (1440 * a2)) + (IntKind.i64.wrap (60 * x19)))) (by first | assumption | omega | (simp [copyL_len]; done) | (simp [copyL_len]; omega)) br28) (ag_cons rfl (ag_cons rfl (ag_cons rfl ag_nil)))) rfl ?_;refine st rfl rfl (eff_moveg rfl rfl) rfl ?_;refine st rfl rfl (eff_extract rfl rfl rfl) rfl ?_;refine st rfl rfl (eff_extract rfl rfl rfl) rfl ?_;refine st rfl rfl (eff_assigng rfl rfl) rfl ?_;refine st rfl rfl (eff_assigng rfl rfl) rfl ?_;refine st_nil ?_;refine aw_seq ?_;refine Exists.elim (bindO_inv hR) (fun r29 hq_ => ?_);have br29 := hq_.1;replace hR := hq_.2;clear hq_;refine aw_region [.r, .p, .p, .p, .p, .p, .p, .p, .p] ?_;refine st_r rfl rfl (eff_loadOA rfl ty1064 rfl rfl rfl rfl) rfl ?_;refine st rfl rfl (eff_moveg rfl rfl) rfl ?_;refine st rfl rfl (eff_moveg rfl rfl) rfl ?_;refine st rfl rfl (eff_call rfl K1039 rfl (c1039 r16.2 x1 (IntKind.i64.wrap ((IntKind.i64.wrap (1440 * a2)) + (IntKind.i64.wrap (60 * x19)))) (fun _ => by omega) br29) (ag_cons rfl (ag_cons rfl (ag_cons rfl ag_nil)))) rfl ?_;refine st rfl rfl (eff_moveg rfl rfl) rfl ?_;refine st rfl rfl (eff_extract rfl rfl rfl) rfl ?_;refine st rfl rfl (eff_extract rfl rfl rfl) rfl ?_;refine st rfl rfl (eff_assigng rfl rfl) rfl ?_;refine st rfl rfl (eff_assigng rfl rfl) rfl ?_;refine st_nil ?_;refine aw_seq ?_;refine Exists.elim (bindO_inv hR) (fun r30 hq_ => ?_);have br30 := hq_.1;replace hR := hq_.2;clear hq_;refine aw_region [.r, .p, .p, .p, .p, .p, .p, .p, .p] ?_;refine st_r rfl rfl (eff_loadOA rfl ty1064 rfl rfl rfl rfl) rfl ?_;refine st rfl rfl (eff_moveg rfl rfl) rfl ?_;refine st rfl rfl (eff_moveg rfl rfl) rfl ?_;refine st rfl rfl (eff_call rfl K1039 rfl (c1039 r16.2 x6 (IntKind.i64.wrap ((IntKind.i64.wrap (1440 * a2)) + (IntKind.i64.wrap (60 * x19)))) (fun _ => by omega) br30) (ag_cons rfl (ag_cons rfl (ag_cons rfl ag_nil)))) rfl ?_;refine st rfl rfl (eff_moveg rfl rfl) rfl ?_;refine st rfl rfl (eff_extract rfl rfl rfl) rfl ?_;refine st rfl rfl (eff_extract rfl rfl rfl) rfl ?_;refine st rfl rfl (eff_assigng rfl rfl) rfl ?_;refine st rfl rfl (eff_assigng rfl rfl) rfl ?_;refine st_nil ?_;refine aw_seq ?_;refine aw_region [.p, .p, .p, .p, .p, .p, .p, .p, .p, .p, .p, .p, .p, .p, .p, .p, .p] ?_;refine st rfl rfl (eff_moveg rfl rfl) rfl ?_;refine st rfl rfl (eff_moveg rfl rfl) rfl ?_;refine st rfl rfl (eff_addw rfl rfl rfl) rfl ?_;refine st rfl rfl (eff_moveg rfl rfl) rfl ?_;refine st rfl rfl (eff_addw rfl rfl rfl) rfl ?_;refine st rfl rfl (eff_neq rfl rfl rfl) rfl ?_;refine st rfl rfl (eff_moveg rfl rfl) rfl ?_;refine st_g rfl rfl rfl (gb_bool _ _) (fun h => eff_moveg rfl rfl) rfl ?_;refine st_g rfl rfl rfl (gb_bool _ _) (fun h => eff_moveg rfl rfl) rfl ?_;refine st_g rfl rfl rfl (gb_bool _ _) (fun h => eff_neq rfl (gd h rfl) (gd h rfl)) rfl ?_;refine st rfl rfl (eff_or rfl rfl rfl rfl) rfl ?_;refine st rfl rfl (eff_moveg rfl rfl) rfl ?_;refine st_g rfl rfl rfl (gb_bool _ _) (fun h => eff_moveg rfl rfl) rfl ?_;refine st_g rfl rfl rfl (gb_bool _ _) (fun h => eff_moveg rfl rfl) rfl ?_;refine st_g rfl rfl rfl (gb_bool _ _) (fun h => eff_mulw rfl rfl (gd h rfl)) rfl ?_;refine st_g rfl rfl rfl (gb_bool _ _) (fun h => eff_neq rfl (gd h rfl) (gd h rfl)) rfl ?_;refine st rfl rfl (eff_or rfl rfl rfl rfl) rfl ?_;refine st_nil ?_;refine aw_cond _ rfl (fun h17 => ?_) (fun h17 => ?_)
            ·replace h17 : (((decide (IntKind.i64.wrap ((IntKind.i64.wrap (r28.2 + r29.2)) + r30.2) ≠ 0)) || (decide (r28.1 ≠ r29.1))) || (decide (r30.1 ≠ IntKind.i64.wrap (2 * r28.1)))) = true := h17;replace hR := condT hR h17;(try simp only [Bool.or_eq_true, Bool.and_eq_true, Bool.or_eq_false_iff, Bool.and_eq_false_iff, Bool.not_eq_true', Bool.not_eq_false', decide_eq_true_eq, decide_eq_false_iff_not] at h17);refine aw_seq ?_;refine aw_region [.p] ?_;refine st rfl rfl (eff_assigng rfl rfl) rfl ?_;refine st_nil ?_;refine aw_ret ?_;exact res_e (res_c rfl (rv_g rfl)) (congrArg (fun R_ => G.bool R_) (Option.some.inj hR))
            ·replace h17 : (((decide (IntKind.i64.wrap ((IntKind.i64.wrap (r28.2 + r29.2)) + r30.2) ≠ 0)) || (decide (r28.1 ≠ r29.1))) || (decide (r30.1 ≠ IntKind.i64.wrap (2 * r28.1)))) = false := h17;replace hR := condF hR h17;(try simp only [Bool.or_eq_true, Bool.and_eq_true, Bool.or_eq_false_iff, Bool.and_eq_false_iff, Bool.not_eq_true', Bool.not_eq_false', decide_eq_true_eq, decide_eq_false_iff_not] at h17);refine aw_skip ?_;refine aw_region [.p, .p] ?_;refine st rfl rfl (eff_add rfl rfl rfl (by (try dsimp only); unfold I64; omega)) rfl ?_;refine st rfl rfl (eff_moveg rfl rfl) rfl ?_;refine st_nil ?_;exact ⟨rfl, (k21, x19 + 1), ⟨rfl, rfl, rfl, rfl, rfl, rfl, rfl, rfl, rfl, rfl, rfl, rfl, trivial⟩, ⟨rfl, rfl, rfl, trivial⟩, rfl, ⟨(by first | omega | (dsimp only; omega) | (simp at *; omega)), (by first | omega | (dsimp only; omega) | (simp at *; omega)), hR⟩, (by dsimp only; omega)⟩
           ·replace h10 : (decide (x19 < 72)) = false := h10;replace h10 := decF h10
            have hkz_ : k21 = 0 := by omega
            rw [hkz_] at hR;rw [s2004_l4] at hR;refine aw_exit ?_;refine aw_seq ?_;refine aw_region [.p, .p, .p] ?_;refine st rfl rfl (eff_moveg rfl rfl) rfl ?_;refine st rfl rfl (eff_lenM (f := S1079.c) (l := x1) rfl Tryz.underlying25 rfl) rfl ?_;refine st rfl rfl (eff_moveg rfl rfl) rfl ?_;refine st_nil ?_;refine aw_block ?_;refine aw_loop_g (γ := Nat × (List S1079)) (fun g => ([(1, .g (G.lit (.int .u8 a1))), (2, .g (G.int a2)), (7, .g (G.sl 7 (List.map S1079.c x1))), (8, .g (G.sl 7 (List.map S1079.c x6))), (14, .ptr 14 0), (16, .g (G.str y14)), (17, .ptr 17 0), (18, .ptr 18 0), (118, .g (G.sl 1 (List.map cStr ([⟨#[65]⟩, ⟨#[68]⟩, ⟨#[84]⟩] : List ByteArray)))), (119, .g (G.int (List.length ([⟨#[65]⟩, ⟨#[68]⟩, ⟨#[84]⟩] : List ByteArray) : Int))), (120, .g (G.int ((k13 : Nat) : Int))), (230, .g (G.sl 7 (List.map S1079.c x1))), (231, .g (G.int (List.length x1 : Int))), (232, .g (G.int ((g.1 : Nat) : Int)))], [(14, .box [.g (G.int a2), .g (G.int (IntKind.i64.wrap (a2 + 2))), .g (G.int 127)]), (17, .box [.g (G.str r16.1.Name), .g (G.str r16.1.Kind), .g (G.str r16.1.Terminal), .g (G.int r16.1.Length), .g (G.int r16.1.Step), .g (G.int r16.1.fFrom), .g (G.int r16.1.fTo), .g (G.int r16.1.Period.fFrom), .g (G.int r16.1.Period.fTo), .g (G.int r16.1.Period.Days), .g (G.int r16.1.Most)]), (18, .box [.g (G.str r16.2.Terminal), .g (G.str r16.2.Kind), .g (G.int r16.2.Length), .g (G.int r16.2.Step), .g (G.int r16.2.Most)])])) (fun g => x1.drop g.1 = g.2 ∧ s2004_l5 (fun k_ => s2004_l3 a1 a2 x1 x6 t15 k_) x1 k13 y14 r16 g.2 g.1 = some R) (fun g => List.length g.2) ⟨rfl, (0, x1), ⟨rfl, rfl, rfl, rfl, rfl, rfl, rfl, rfl, rfl, rfl, rfl, rfl, rfl, rfl, trivial⟩, ⟨rfl, rfl, rfl, trivial⟩, rfl, ⟨rfl, (by exact hR)⟩, trivial⟩ ?_
            ·rintro ⟨k23, u25⟩ ⟨hd5, hR⟩;replace hd5 : x1.drop k23 = u25 := hd5;replace hR : s2004_l5 (fun k_ => s2004_l3 a1 a2 x1 x6 t15 k_) x1 k13 y14 r16 u25 k23 = some R := hR;refine aw_seq ?_;refine aw_region [.p] ?_;refine st rfl rfl (eff_lss rfl rfl rfl) rfl ?_;refine st_nil ?_;refine len_sl (f := S1079.c) (l := x1) 7 rfl fun hlz5 => ?_;refine aw_seq ?_;refine aw_cond _ rfl (fun h12 => ?_) (fun h12 => ?_)
             ·replace h12 : (decide (((k23 : Nat) : Int) < (List.length x1 : Int))) = true := h12;refine Exists.elim (drop_cons hd5 (decT h12)) (fun y24 hq_ => ?_);refine Exists.elim hq_ (fun t25 hqq_ => ?_);have et25 := hqq_.1;have hx5 := hqq_.2.1;replace hd5 := hqq_.2.2;clear hqq_ hq_;rw [et25] at hR;replace h12 := decT h12;rw [s2004_l5] at hR;(try dsimp only at hR);refine aw_skip ?_;refine aw_cut_g (γ := Unit) (fun g => ([(1, .g (G.lit (.int .u8 a1))), (2, .g (G.int a2)), (7, .g (G.sl 7 (List.map S1079.c x1))), (8, .g (G.sl 7 (List.map S1079.c x6))), (14, .ptr 14 0), (16, .g (G.str y14)), (17, .ptr 17 0), (18, .ptr 18 0), (118, .g (G.sl 1 (List.map cStr ([⟨#[65]⟩, ⟨#[68]⟩, ⟨#[84]⟩] : List ByteArray)))), (119, .g (G.int (List.length ([⟨#[65]⟩, ⟨#[68]⟩, ⟨#[84]⟩] : List ByteArray) : Int))), (120, .g (G.int ((k13 : Nat) : Int))), (230, .g (G.sl 7 (List.map S1079.c x1))), (231, .g (G.int (List.length x1 : Int))), (232, .g (G.int ((k23 : Nat) : Int)))], [(14, .box [.g (G.int a2), .g (G.int (IntKind.i64.wrap (a2 + 2))), .g (G.int 127)]), (17, .box [.g (G.str r16.1.Name), .g (G.str r16.1.Kind), .g (G.str r16.1.Terminal), .g (G.int r16.1.Length), .g (G.int r16.1.Step), .g (G.int r16.1.fFrom), .g (G.int r16.1.fTo), .g (G.int r16.1.Period.fFrom), .g (G.int r16.1.Period.fTo), .g (G.int r16.1.Period.Days), .g (G.int r16.1.Most)]), (18, .box [.g (G.str r16.2.Terminal), .g (G.str r16.2.Kind), .g (G.int r16.2.Length), .g (G.int r16.2.Step), .g (G.int r16.2.Most)])])) (fun g => s2004_j1 (fun k_ => s2004_l5 (fun k_ => s2004_l3 a1 a2 x1 x6 t15 k_) x1 k13 y14 r16 t25 k_) k23 = some R) ?_ ?_
              ·refine aw_block ?_;refine aw_seq ?_;refine aw_region [.p, .p, .w, .w] ?_;refine st rfl rfl (eff_ix (f := S1079.c) (l := x1) (a := y24) rfl Tryz.underlying25 ty1080 rfl rfl (Int.natCast_nonneg _) hx5) rfl ?_;refine st rfl rfl (eff_loadA rfl ty1080 rfl rfl rfl) rfl ?_;refine st_w rfl rfl (eff_alloc 32 rfl z1080 rfl rfl) rfl ?_;refine st_wn rfl rfl (eff_store (tv := .g (G.agg [G.int y24.Moment, G.str y24.Kind, G.str y24.Terminal, G.int y24.Seats, G.int y24.Size, G.int y24.Noise, G.str y24.Name])) rfl ty1080 rfl rfl rfl rfl rfl) ?_;refine st_nil ?_;refine aw_seq ?_;refine Exists.elim (bindO_inv hR) (fun r26 hq_ => ?_);have br26 := hq_.1;replace hR := hq_.2;clear hq_;refine aw_region [.r, .p, .p, .r, .p, .p, .p, .p, .p, .p] ?_;refine st_r rfl rfl (eff_loadOA rfl ty2063 rfl rfl rfl rfl) rfl ?_;refine st rfl rfl (eff_buildSlice rfl Tryz.underlying72 ty2063 z2063 rfl (ps_cons rfl ps_nil) rfl (by simp [S2062.c, S45.c]) (by decide)) rfl ?_;refine st rfl rfl (eff_moveg rfl rfl) rfl ?_;refine st_r rfl rfl (eff_loadOA rfl ty1080 rfl rfl rfl rfl) rfl ?_;refine st rfl rfl (eff_call rfl K2022 rfl (c2022 ([r16.1] : List S2062) x1 y24 (by first | assumption | omega | (simp [copyL_len]; done) | (simp [copyL_len]; omega)) br26) (ag_cons rfl (ag_cons rfl (ag_cons rfl ag_nil)))) rfl ?_;refine st rfl rfl (eff_moveg rfl rfl) rfl ?_;refine st rfl rfl (eff_extract rfl rfl rfl) rfl ?_;refine st rfl rfl (eff_extract rfl rfl rfl) rfl ?_;refine st rfl rfl (eff_assigng rfl rfl) rfl ?_;refine st rfl rfl (eff_assigng rfl rfl) rfl ?_;refine st_nil ?_;refine aw_seq ?_;refine Exists.elim (bindO_inv hR) (fun r27 hq_ => ?_);have br27 := hq_.1;replace hR := hq_.2;clear hq_;refine aw_region [.r, .p, .p, .r, .p, .p, .p, .p, .p, .p] ?_;refine st_r rfl rfl (eff_loadOA rfl ty1064 rfl rfl rfl rfl) rfl ?_;refine st rfl rfl (eff_buildSlice rfl Tryz.underlying77 ty1064 z1064 rfl (ps_cons rfl ps_nil) rfl (by simp [S1063.c]) (by decide)) rfl ?_;refine st rfl rfl (eff_moveg rfl rfl) rfl ?_;refine st_r rfl rfl (eff_loadOA rfl ty1080 rfl rfl rfl rfl) rfl ?_;refine st rfl rfl (eff_call rfl K1045 rfl (c1045 ([r16.2] : List S1063) x1 y24 (fun _ => by omega) br27) (ag_cons rfl (ag_cons rfl (ag_cons rfl ag_nil)))) rfl ?_;refine st rfl rfl (eff_moveg rfl rfl) rfl ?_;refine st rfl rfl (eff_extract rfl rfl rfl) rfl ?_;refine st rfl rfl (eff_extract rfl rfl rfl) rfl ?_;refine st rfl rfl (eff_assigng rfl rfl) rfl ?_;refine st rfl rfl (eff_assigng rfl rfl) rfl ?_;refine st_nil ?_;refine aw_seq ?_;refine aw_seq ?_;refine aw_region [.p, .p, .p, .p, .p, .r, .p, .p] ?_;refine st rfl rfl (eff_moveg rfl rfl) rfl ?_;refine st rfl rfl (eff_sne rfl rfl rfl) rfl ?_;refine st rfl rfl (eff_moveg rfl rfl) rfl ?_;refine st_g rfl rfl rfl (gb_bool _ _) (fun h => eff_moveg rfl rfl) rfl ?_;refine st_g rfl rfl rfl (gb_bool _ _) (fun h => eff_fieldO rfl fl1080_1 rfl) rfl ?_;refine st_gr rfl rfl rfl (gb_bool _ _) (fun h => eff_loadO rfl ty9 (gd h rfl) rfl rfl) rfl ?_;refine st_g rfl rfl rfl (gb_bool _ _) (fun h => eff_sne rfl (gd h rfl) (gd h rfl)) rfl ?_;refine st rfl rfl (eff_and rfl rfl rfl rfl) rfl ?_;refine st_nil ?_;refine aw_cond _ rfl (fun h14 => ?_) (fun h14 => ?_)
               ·replace h14 : ((!decide (y14 = (⟨#[84]⟩))) && (!decide (y14 = y24.Kind))) = true := h14;replace hR := condT hR h14;(try simp only [Bool.or_eq_true, Bool.and_eq_true, Bool.or_eq_false_iff, Bool.and_eq_false_iff, Bool.not_eq_true', Bool.not_eq_false', decide_eq_true_eq, decide_eq_false_iff_not] at h14);refine aw_seq ?_;refine aw_seq ?_;refine aw_region [.p, .p, .p, .p, .p, .p, .p, .p, .p, .p] ?_;refine st rfl rfl (eff_moveg rfl rfl) rfl ?_;refine st rfl rfl (eff_neq rfl rfl rfl) rfl ?_;refine st rfl rfl (eff_moveg rfl rfl) rfl ?_;refine st_g rfl rfl rfl (gb_bool _ _) (fun h => eff_moveg rfl rfl) rfl ?_;refine st_g rfl rfl rfl (gb_bool _ _) (fun h => eff_neq rfl (gd h rfl) rfl) rfl ?_;refine st rfl rfl (eff_or rfl rfl rfl rfl) rfl ?_;refine st rfl rfl (eff_moveg rfl rfl) rfl ?_;refine st_g rfl rfl rfl (gb_bool _ _) (fun h => eff_moveg rfl rfl) rfl ?_;refine st_g rfl rfl rfl (gb_bool _ _) (fun h => eff_neq rfl (gd h rfl) rfl) rfl ?_;refine st rfl rfl (eff_or rfl rfl rfl rfl) rfl ?_;refine st_nil ?_;refine aw_cond _ rfl (fun h15 => ?_) (fun h15 => ?_)
                ·replace h15 : (((decide (r26.1 ≠ 999999999)) || (decide (r26.2 ≠ 0))) || (decide (r27.2 ≠ 7))) = true := h15;replace hR := condT hR h15;(try simp only [Bool.or_eq_true, Bool.and_eq_true, Bool.or_eq_false_iff, Bool.and_eq_false_iff, Bool.not_eq_true', Bool.not_eq_false', decide_eq_true_eq, decide_eq_false_iff_not] at h15);refine aw_seq ?_;refine aw_region [.p] ?_;refine st rfl rfl (eff_assigng rfl rfl) rfl ?_;refine st_nil ?_;refine aw_ret ?_;exact res_e (res_c rfl (rv_g rfl)) (congrArg (fun R_ => G.bool R_) (Option.some.inj hR))
                ·replace h15 : (((decide (r26.1 ≠ 999999999)) || (decide (r26.2 ≠ 0))) || (decide (r27.2 ≠ 7))) = false := h15;replace hR := condF hR h15;(try simp only [Bool.or_eq_true, Bool.and_eq_true, Bool.or_eq_false_iff, Bool.and_eq_false_iff, Bool.not_eq_true', Bool.not_eq_false', decide_eq_true_eq, decide_eq_false_iff_not] at h15);refine aw_skip ?_;refine aw_exit ?_;exact ⟨rfl, (), ⟨rfl, rfl, rfl, rfl, rfl, rfl, rfl, rfl, rfl, rfl, rfl, rfl, rfl, rfl, trivial⟩, ⟨rfl, rfl, rfl, trivial⟩, rfl, hR, trivial⟩
               ·replace h14 : ((!decide (y14 = (⟨#[84]⟩))) && (!decide (y14 = y24.Kind))) = false := h14;replace hR := condF hR h14;(try simp only [Bool.or_eq_true, Bool.and_eq_true, Bool.or_eq_false_iff, Bool.and_eq_false_iff, Bool.not_eq_true', Bool.not_eq_false', decide_eq_true_eq, decide_eq_false_iff_not] at h14);refine aw_skip ?_;refine aw_seq ?_;refine aw_region [.p, .p, .p, .p, .p, .p, .p, .p, .p, .p] ?_;refine st rfl rfl (eff_moveg rfl rfl) rfl ?_;refine st rfl rfl (eff_moveg rfl rfl) rfl ?_;refine st rfl rfl (eff_addw rfl rfl rfl) rfl ?_;refine st rfl rfl (eff_neq rfl rfl rfl) rfl ?_;refine st rfl rfl (eff_moveg rfl rfl) rfl ?_;refine st_g rfl rfl rfl (gb_bool _ _) (fun h => eff_moveg rfl rfl) rfl ?_;refine st_g rfl rfl rfl (gb_bool _ _) (fun h => eff_moveg rfl rfl) rfl ?_;refine st_g rfl rfl rfl (gb_bool _ _) (fun h => eff_min rfl (gd h rfl) rfl) rfl ?_;refine st_g rfl rfl rfl (gb_bool _ _) (fun h => eff_neq rfl (gd h rfl) (gd h rfl)) rfl ?_;refine st rfl rfl (eff_or rfl rfl rfl rfl) rfl ?_;refine st_nil ?_;refine aw_cond _ rfl (fun h16 => ?_) (fun h16 => ?_)
                ·replace h16 : ((decide (IntKind.i64.wrap (r26.2 + r27.2) ≠ 0)) || (decide (r27.1 ≠ min r26.1 999))) = true := h16;replace hR := condT hR h16;(try simp only [Bool.or_eq_true, Bool.and_eq_true, Bool.or_eq_false_iff, Bool.and_eq_false_iff, Bool.not_eq_true', Bool.not_eq_false', decide_eq_true_eq, decide_eq_false_iff_not] at h16);refine aw_seq ?_;refine aw_region [.p] ?_;refine st rfl rfl (eff_assigng rfl rfl) rfl ?_;refine st_nil ?_;refine aw_ret ?_;exact res_e (res_c rfl (rv_g rfl)) (congrArg (fun R_ => G.bool R_) (Option.some.inj hR))
                ·replace h16 : ((decide (IntKind.i64.wrap (r26.2 + r27.2) ≠ 0)) || (decide (r27.1 ≠ min r26.1 999))) = false := h16;replace hR := condF hR h16;(try simp only [Bool.or_eq_true, Bool.and_eq_true, Bool.or_eq_false_iff, Bool.and_eq_false_iff, Bool.not_eq_true', Bool.not_eq_false', decide_eq_true_eq, decide_eq_false_iff_not] at h16);refine aw_skip ?_;exact ⟨rfl, (), ⟨rfl, rfl, rfl, rfl, rfl, rfl, rfl, rfl, rfl, rfl, rfl, rfl, rfl, rfl, trivial⟩, ⟨rfl, rfl, rfl, trivial⟩, rfl, hR, trivial⟩
              ·rintro ⟨⟩ hR;replace hR : s2004_j1 (fun k_ => s2004_l5 (fun k_ => s2004_l3 a1 a2 x1 x6 t15 k_) x1 k13 y14 r16 t25 k_) k23 = some R := hR;unfold s2004_j1 at hR;refine aw_region [.p, .p] ?_;refine st rfl rfl (eff_add rfl rfl rfl (by unfold I64; omega)) rfl ?_;refine st rfl rfl (eff_moveg rfl rfl) rfl ?_;refine st_nil ?_;exact ⟨rfl, (k23 + 1, t25), ⟨rfl, rfl, rfl, rfl, rfl, rfl, rfl, rfl, rfl, rfl, rfl, rfl, rfl, rfl, trivial⟩, ⟨rfl, rfl, rfl, trivial⟩, rfl, ⟨hd5, hR⟩, by simp [et25]⟩
             ·replace h12 : (decide (((k23 : Nat) : Int) < (List.length x1 : Int))) = false := h12;have hn_ := drop_nil hd5 (decF h12);rw [hn_] at hR;rw [s2004_l5] at hR;refine aw_exit ?_;refine aw_region [.p, .p] ?_;refine st rfl rfl (eff_add rfl rfl rfl (by unfold I64; omega)) rfl ?_;refine st rfl rfl (eff_moveg rfl rfl) rfl ?_;refine st_nil ?_;exact ⟨rfl, (k13 + 1, t15), ⟨rfl, rfl, rfl, rfl, rfl, rfl, rfl, rfl, trivial⟩, ⟨rfl, trivial⟩, rfl, ⟨hd3, hR⟩, by simp [et15]⟩
        ·replace h7 : (decide (((k13 : Nat) : Int) < (List.length ([⟨#[65]⟩, ⟨#[68]⟩, ⟨#[84]⟩] : List ByteArray) : Int))) = false := h7;have hn_ := drop_nil hd3 (decF h7);rw [hn_] at hR;rw [s2004_l3] at hR;refine aw_exit ?_;refine aw_seq ?_;refine aw_region [.p, .p] ?_;refine st rfl rfl (eff_call rfl K2006 rfl (c2006) ag_nil) rfl ?_;refine st rfl rfl (eff_assigng rfl rfl) rfl ?_;refine st_nil ?_;refine aw_ret ?_;exact res_e (res_c rfl (rv_g rfl)) (congrArg (fun R_ => G.bool R_) (Option.some.inj hR))
end Go.Sim
set_option maxRecDepth 10000
namespace Go.Sim
open Go.Proofs
theorem s2027_zero {m : S1079} (h : MvOk m) : s2027 m = 0 := by
 unfold s2027
 have e1 : s2074 m.Moment 0 143999999 = false := by unfold s2074; rw [decide_eq_false (by have := h.m0; omega), decide_eq_false (by have := h.m1; omega)]; rfl
 have e2 : ((!decide (m.Kind = (⟨#[65]⟩ : ByteArray))) && (!decide (m.Kind = (⟨#[68]⟩ : ByteArray)))) = false := by rcases h.k with k | k <;> simp [k]
 have e3 : s2075 m.Terminal = true := by
  unfold s2075
  rcases h.t with k | k
  ·simp [k]
  ·rw [name_eq] at k; simp [k]
 have e4 : s2074 m.Seats 0 999 = false := by unfold s2074; rw [decide_eq_false (by have := h.s0; omega), decide_eq_false (by have := h.s1; omega)]; rfl
 have e5 : s2074 m.Size 0 9 = false := by unfold s2074; rw [decide_eq_false (by have := h.z0; omega), decide_eq_false (by have := h.z1; omega)]; rfl
 have e6 : s2074 m.Noise 0 99 = false := by unfold s2074; rw [decide_eq_false (by have := h.n0; omega), decide_eq_false (by have := h.n1; omega)]; rfl
 have e7 : s91 m.Name = true := by rw [← name_eq]; exact h.nm
 rw [e1, e2, e3, e4, e5, e6, e7]
 rfl
theorem s2009_l1z : ∀ (t pre : List S1079), (pre ++ t).length ≤ 30000 → (∀ m ∈ t, MvOk m) → ascM (pre.getLast?.map S1079.Moment) t → s2009_l1 (pre ++ t) t pre.length = some 0
 | [], pre, _, _, _ => rfl
 | y :: t, pre, hl, hm, ha => by
  rw [s2009_l1, s2027_zero (hm y List.mem_cons_self), show decide ((0 : Int) ≠ 0) = false from rfl, cond_false];have ih := s2009_l1z t (pre ++ [y]) (by simpa using hl) (fun m h => hm m (List.mem_cons_of_mem _ h)) (by simpa using ha.2)
  have e1 : pre ++ [y] ++ t = pre ++ y :: t := by simp
  have e2 : (pre ++ [y]).length = pre.length + 1 := by simp
  rw [e1, e2] at ih
  by_cases hp : 0 < pre.length
  ·have hlen : pre.length ≤ 30000 := by simp at hl; omega
   have e : IntKind.i64.wrap (((pre.length : Nat) : Int) - 1) = ((pre.length - 1 : Nat) : Int) := by
    rw [wrap_i64 (by unfold I64; omega)]; omega
   rw [decide_eq_true (by omega : (0 : Int) < ((pre.length : Nat) : Int)), cond_true, e, ixO_at (by simp; omega), List.getElem_append_left (by omega : pre.length - 1 < pre.length)];simp only [bindO, Bool.true_and]
   have hq : pre.getLast? = some (pre[pre.length - 1]'(by omega)) := by rw [List.getLast?_eq_getElem?, List.getElem?_eq_getElem (by omega)]
   rw [hq] at ha;have := ha.1 _ rfl;rw [decide_eq_false (by omega), cond_false];exact ih
  ·rw [decide_eq_false (by omega : ¬ (0 : Int) < ((pre.length : Nat) : Int)), cond_false];simp only [bindO, Bool.false_and, cond_false];exact ih
variable {d : Int}
theorem MsH.nine {l : List S1079} (h : MsH d l) : s2009 l = some 0 := by
 unfold s2009;rw [decide_eq_false (by have := h.len; omega), cond_false];exact s2009_l1z l [] (by have := h.len; simp; omega) (fun m hm => gr_mv (h.gr m hm)) (srt_ascM (fun x hx => by cases hx) h.srt)
def mv1 (d : Int) (m : S1079) : S1079 := ⟨1440 * d + m.Moment % 4320, m.Kind, m.Terminal, 1, m.Size, m.Noise, m.Name⟩
theorem mv1_gr (h0 : 0 ≤ d) (h1 : d ≤ 90000) {m : S1079} (h : s1100 m [] = 0) : s1100 (mv1 d m) [] = 0 := by
 unfold s1100 at *;rw [s1085_eq, s89_zero] at *;simp only [List.mem_cons, List.not_mem_nil, or_false, forall_eq_or_imp, forall_eq] at *;unfold mv1;refine ⟨?_, h.2.1, h.2.2.1, ?_, h.2.2.2.2⟩
 ·rw [s1098_eq, s96_zero]; dsimp only; omega
 ·rw [s1088_eq, s90_zero]; dsimp only; decide
theorem mv1_eq (h0 : 0 ≤ d) (h1 : d ≤ 90000) {m : S1079} (h : 0 ≤ m.Moment) : (⟨IntKind.i64.wrap ((IntKind.i64.wrap (1440 * d)) + (Int.tmod m.Moment 4320)), m.Kind, m.Terminal, 1, m.Size, m.Noise, m.Name⟩ : S1079) = mv1 d m := by
 rw [Int.tmod_eq_emod_of_nonneg h, wrap_i64 (n := 1440 * d) (by unfold I64; omega), wrap_i64 (by unfold I64; omega)]
 rfl
theorem ins_ok {l : List S1079} {y : S1079} (h : MsH d l) (hl : l.length + 1 ≤ 8) (hy : s1100 y [] = 0) (hs : y.Seats = 1) (lo : 1440 * d ≤ y.Moment) (hi : y.Moment < 1440 * d + 4320) {j : Nat} (h1 : ∀ m ∈ l.take j, m.Moment ≤ y.Moment) (h2 : ∀ m ∈ l.drop j, y.Moment ≤ m.Moment) :
  MsH d (l.take j ++ [y] ++ l.drop j) := by
 have hmem : ∀ m, m ∈ l.take j ++ [y] ++ l.drop j → m = y ∨ m ∈ l := fun m hm => by
  rcases List.mem_append.1 hm with hm | hm
  ·rcases List.mem_append.1 hm with hm | hm
   ·exact .inr (List.mem_of_mem_take hm)
   ·exact .inl (List.mem_singleton.1 hm)
  ·exact .inr (List.mem_of_mem_drop hm)
 refine ⟨fun m hm => ?_, fun m hm => ?_, fun m hm => ?_, fun m hm => ?_, ?_, ?_⟩
 ·rcases hmem m hm with rfl | hm
  ·exact hy
  ·exact h.gr m hm
 ·rcases hmem m hm with rfl | hm
  ·exact hs
  ·exact h.s m hm
 ·rcases hmem m hm with rfl | hm
  ·exact lo
  ·exact h.lo m hm
 ·rcases hmem m hm with rfl | hm
  ·exact hi
  ·exact h.hi m hm
 ·have hsrt := h.srt;rw [List.pairwise_map] at hsrt ⊢;rw [← List.take_append_drop j l] at hsrt;obtain ⟨p1, p2, p3⟩ := List.pairwise_append.1 hsrt;rw [List.append_assoc, List.pairwise_append];refine ⟨p1, List.pairwise_cons.2 ⟨fun m hm => h2 m hm, p2⟩, fun a ha b hb => ?_⟩
  rcases List.mem_append.1 hb with hb | hb
  ·rw [List.mem_singleton.1 hb]; exact h1 a ha
  ·exact p3 a ha b hb
 ·have : (l.take j ++ [y] ++ l.drop j).length = l.length + 1 := by simp; omega
  omega
theorem ins_loop (rec1 : Nat → List S1079 → Option Bool) (h0 : 0 ≤ d) (h1 : d ≤ 90000) {l : List S1079} (h : MsH d l) (hl : l.length + 1 ≤ 8) (k3 : Nat) {y : S1079} (hy : s1100 y [] = 0) (hrec : ∀ l', MsH d l' → l'.length = l.length + 1 → rec1 (k3 + 1) l' = some true) :
  ∀ (k i : Nat), i ≤ l.length → l.length - i < k → (∀ m ∈ l.take i, m.Moment ≤ (mv1 d y).Moment) → s2004_l6 rec1 d l k3 y k (i : Int) = some true
 | 0, i, _, hk, _ => by omega
 | k + 1, i, hi, hk, hpre => by
  have hy0 := (gr_mov hy).m0
  have e1 : IntKind.i64.wrap ((IntKind.i64.wrap (1440 * d)) + (Int.tmod y.Moment 4320)) = (mv1 d y).Moment := by
   have := mv1_eq h0 h1 hy0;exact congrArg S1079.Moment this
  rw [s2004_l6, mv1_eq h0 h1 hy0, e1]
  have hdone : (∀ m ∈ l.drop i, (mv1 d y).Moment ≤ m.Moment) → rec1 (k3 + 1) ((([] ++ (List.take (Int.toNat (i : Int)) l)) ++ ([mv1 d y] : List S1079)) ++ (List.drop (Int.toNat (i : Int)) l)) = some true := fun hd => by
   rw [List.nil_append, Int.toNat_natCast];refine hrec _ (ins_ok h hl (mv1_gr h0 h1 hy) rfl ?_ ?_ hpre hd) (by simp; omega)
   ·show _ ≤ 1440 * d + y.Moment % 4320; omega
   ·show 1440 * d + y.Moment % 4320 < _; omega
  by_cases hlt : i < l.length
  ·rw [decide_eq_true (by omega : (i : Int) < (l.length : Int)), cond_true, ixO_at hlt];simp only [bindO, Bool.true_and]
   by_cases hle : l[i].Moment ≤ (mv1 d y).Moment
   ·rw [decide_eq_true hle, cond_true, wrap_i64 (by unfold I64; have := h.len; omega), show ((i : Int) + 1) = ((i + 1 : Nat) : Int) by push_cast; rfl];refine ins_loop rec1 h0 h1 h hl k3 hy hrec k (i + 1) (by omega) (by omega) fun m hm => ?_;rw [List.take_add_one, List.getElem?_eq_getElem hlt] at hm
    rcases List.mem_append.1 hm with hm | hm
    ·exact hpre m hm
    ·simp at hm; rw [hm]; exact hle
   ·rw [decide_eq_false hle, cond_false];refine hdone fun m hm => ?_;have hsrt := h.srt;rw [List.pairwise_map] at hsrt;rw [List.drop_eq_getElem_cons hlt] at hm
    rcases List.mem_cons.1 hm with rfl | hm
    ·omega
    ·have hq := hsrt.sublist (List.drop_sublist i l);rw [List.drop_eq_getElem_cons hlt, List.pairwise_cons] at hq;have := hq.1 m hm
     omega
  ·rw [decide_eq_false (by omega : ¬ (i : Int) < (l.length : Int)), cond_false];simp only [bindO, Bool.false_and, cond_false];refine hdone fun m hm => ?_;rw [List.drop_eq_nil_of_le (by omega)] at hm; cases hm
end Go.Sim
set_option maxRecDepth 10000
namespace Go.Sim
open Go.Proofs
variable {kd : ByteArray} {most d : Int}
theorem rooms_ok (h : KOk3 kd most d) {l : List S1079} (hm : MsH d l) (rec3 : Nat → Option Bool) (k13 : Nat) (hrec : rec3 (k13 + 1) = some true) : ∀ (t : List S1079) (k : Nat), (∀ m ∈ t, m ∈ l) → s2004_l5 rec3 l k13 kd (cL kd most d, sL kd most) t k = some true
 | [], k, _ => by rw [s2004_l5]; exact hrec
 | m :: t, k, ht => by
  have hml := ht m List.mem_cons_self;have ih := rooms_ok h hm rec3 k13 hrec t (k + 1) fun x hx => ht x (List.mem_cons_of_mem _ hx);rw [s2004_l5];dsimp only;rw [room_cap h hm hml, room_gr h hm hml];simp only [bindO]
  have hmt : ((!decide (kd = (⟨#[84]⟩ : ByteArray))) && (!decide (kd = m.Kind))) = !(mt kd m) := by
   unfold mt; rw [Bool.not_or]
  rw [hmt];have hj : s2004_j1 (fun k_ => s2004_l5 rec3 l k13 kd (cL kd most d, sL kd most) t k_) k = some true := ih;rw [hj];have h0 := h.m0; have h1 := h.m1
  cases hk : mt kd m with
  | false => simp
  | true =>
   have hc := cn_rng kd l (hr m);simp only [Bool.not_true, cond_false, if_true];have e1 : IntKind.i64.wrap (0 + 0) = 0 := rfl;rw [e1, decide_eq_false (by omega : ¬ max 0 (most - cn kd l (hr m)) ≠ min (max 0 (most - cn kd l (hr m))) 999)]
   rfl
theorem hours_ok (h : KOk3 kd most d) {l : List S1079} (hm : MsH d l) (rec3 : Nat → Option Bool) (k13 : Nat) (hrec : rec3 (k13 + 1) = some true) : ∀ (k : Nat) (x : Int), 0 ≤ x → x + k ≤ 72 → s2004_l4 rec3 d l (l.map dbl) k13 kd (cL kd most d, sL kd most) k x = some true
 | 0, x, _, _ => by rw [s2004_l4]; exact rooms_ok h hm rec3 k13 hrec l 0 fun _ h => h
 | k + 1, x, h0, h1 => by
  have d0 := h.d0; have d1 := h.d1;rw [s2004_l4];dsimp only
  have e : IntKind.i64.wrap ((IntKind.i64.wrap (1440 * d)) + (IntKind.i64.wrap (60 * x))) = 1440 * d + 60 * x := by
   rw [wrap_i64 (n := 1440 * d) (by unfold I64; omega), wrap_i64 (n := 60 * x) (by unfold I64; omega), wrap_i64 (by unfold I64; omega)]
  have hl := hm.len
  have hg : ∀ m ∈ l.map dbl, s1100 m [] = 0 := fun m hx => by
   obtain ⟨y, hy, rfl⟩ := List.mem_map.1 hx;exact dbl_gr (hm.gr y hy)
  rw [e, count_ok h hm ((win_mem h).2 ⟨⟨24 * d + x, by omega⟩, by omega, by omega⟩), seats_W h l hm.gr (by omega) (by omega) (by omega), seats_W h (l.map dbl) hg (by simp; omega) (by omega) (by omega)];simp only [bindO];rw [W_cn _ l hm.s, W_dbl];have hc := cn_rng kd l (1440 * d + 60 * x);have e1 : IntKind.i64.wrap (IntKind.i64.wrap (0 + 0) + 0) = 0 := rfl;rw [e1, wrap_i64 (by unfold I64; omega)];simp only [ne_eq, not_true_eq_false, decide_false, Bool.or_self, cond_false];exact hours_ok h hm rec3 k13 hrec k (x + 1) (by omega) (by omega)
theorem kinds_ok {a1 : Int} (h0 : 0 ≤ d) (h1 : d ≤ 90000) (ha : 0 ≤ a1) (ha2 : a1 ≤ 255) {l : List S1079} (hm : MsH d l) : ∀ (ks : List ByteArray) (k : Nat), (∀ x ∈ ks, x = kA ∨ x = kD ∨ x = kT) → s2004_l3 a1 d l (l.map dbl) ks k = some true
 | [], k, _ => by rw [s2004_l3, s2006_eq]
 | kd :: ks, k, hk => by
  have ih := kinds_ok h0 h1 ha ha2 hm ks (k + 1) fun x hx => hk x (List.mem_cons_of_mem _ hx)
  have em : Int.tmod (IntKind.i64.wrap a1) 4 = a1 % 4 := by
   rw [wrap_i64 (by unfold I64; omega), Int.tmod_eq_emod_of_nonneg ha]
  have ho : KOk3 kd (a1 % 4) d := ⟨hk kd List.mem_cons_self, by omega, by omega, h0, h1⟩;rw [s2004_l3, em, wrap_i64 (n := d + 2) (by unfold I64; omega)];have e2 : s2017o kd (⟨#[]⟩) (a1 % 4) (S45.mk d (d + 2) 127) = some (cL kd (a1 % 4) d, sL kd (a1 % 4)) := rfl;rw [e2];simp only [bindO];rw [cap_first ho hm, gr_first ho hm];simp only [bindO];have hh := hours_ok ho hm (fun k_ => s2004_l3 a1 d l (l.map dbl) ks k_) k ih 72 0 (by omega) (by omega);have h72 : ((72 : Int) - 0).toNat = 72 := rfl;rw [h72]
  cases hq : firstH kd (a1 % 4) d l with
  | none => simpa [hq] using hh
  | some t => simpa [hq] using hh
theorem dbl_loop {a1 : Int} (h0 : 0 ≤ d) (h1 : d ≤ 90000) (ha : 0 ≤ a1) (ha2 : a1 ≤ 255) {l : List S1079} (hm : MsH d l) : ∀ (t : List S1079) (k : Nat) (x : List S1079), x ++ t.map dbl = l.map dbl → s2004_l2 a1 d l t k x = some true
 | [], k, x, hx => by
  rw [s2004_l2, hm.nine];simp only [bindO];rw [show decide ((0 : Int) ≠ 0) = false from rfl, cond_false]
  have : x = l.map dbl := by simpa using hx
  rw [this];exact kinds_ok h0 h1 ha ha2 hm _ 0 (fun y hy => by simpa using hy)
 | y :: t, k, x, hx => by
  rw [s2004_l2];exact dbl_loop h0 h1 ha ha2 hm t (k + 1) _ (by rw [← hx]; simp [dbl])
theorem sort_loop {a1 : Int} (h0 : 0 ≤ d) (h1 : d ≤ 90000) (ha : 0 ≤ a1) (ha2 : a1 ≤ 255) : ∀ (t : List S1079) (k : Nat) (l : List S1079), MsH d l → l.length + t.length ≤ 8 → (∀ m ∈ t, s1100 m [] = 0) → s2004_l1 a1 d t k l = some true
 | [], k, l, hm, _, _ => by
  rw [s2004_l1];exact dbl_loop h0 h1 ha ha2 hm l 0 [] rfl
 | y :: t, k, l, hm, hl, hg => by
  rw [List.length_cons] at hl;rw [s2004_l1];refine ins_loop (fun k_ z0_ => s2004_l1 a1 d t k_ z0_) h0 h1 hm (by omega) k (hg y List.mem_cons_self) (fun l' hm' hl' => sort_loop h0 h1 ha ha2 t (k + 1) l' hm' (by omega) fun m h => hg m (List.mem_cons_of_mem _ h)) _ 0 (Nat.zero_le _) (by omega) (by simp)
theorem s2004_true (a0 : List S1079) (a1 a2 : Int) (ha : 0 ≤ a1) (ha2 : a1 ≤ 255) : s2004 a0 a1 a2 = some true := by
 unfold s2004
 cases hc : (((decide (8 < (List.length a0 : Int))) || (!(s1020 a0 8))) || (decide ((s1028 a0) ≠ 0))) || (decide ((s90 a2 0 90000) ≠ 0)) with
 | true => rw [cond_true, s2006_eq]
 | false =>
  rw [cond_false];simp only [Bool.or_eq_false_iff, decide_eq_false_iff_not, Decidable.not_not] at hc;have h90 := (s90_zero _ _ _).1 hc.2;have hm := hc.1.2;rw [movs_eq] at hm;have hz := movs_zero.1 hm;exact sort_loop h90.1 h90.2 ha ha2 a0 0 [] ⟨(fun m h => by cases h), (fun m h => by cases h), (fun m h => by cases h), (fun m h => by cases h), List.Pairwise.nil, by simp⟩ (by simp; omega) hz.2
end Go.Sim
