/-
  What is proved: lemmas and contracts of functions on the way to the law topBeaconHours (part 11).
-/
import Derived.Test.YtkeegnagpekgmaaGreatVrA7
import Derived.Test.YtkeegnagpekgmaaGreatVrB1
import Derived.Test.YtkeegnagpekgmaaGreatVrA5
import Derived.Test.YtkeegnagpekgmaaGreatVrA9
import Derived.Test.YtkeegnagpekgmaaGreatVrA8
import Derived.RangeFuncBox
import Derived.RangeFuncNested
import Derived.RangeFuncBound
import Derived.RangeFuncCalls
import Derived.RangeFuncLeaves
import Derived.Shelf.Abstract
import Derived.Shelf.RegionOpen
import Derived.WalkKit
import Derived.OwnWalkIn
import Derived.TacticsInMore
import Derived.LoopNIn
import Derived.LoopIn
import Derived.Lib.Hide
import Derived.Test.YtkeegnagpekgmaaGreatVrA2
set_option linter.unusedSectionVars false
set_option linter.unusedSimpArgs false
set_option linter.unusedVariables false
set_option linter.unnecessarySimpa false
set_option linter.deprecated false
namespace Go.Sim
theorem f89_k : ∀ (l : List Int) (k k' : Nat), s89_l1 l k = s89_l1 l k'
 | [], _, _ => rfl
 | x :: l, k, k' => by simp only [s89_l1]; rw [f89_k l (k + 1) (k' + 1)]
theorem s89_nil : s89 [] = 0 := rfl
theorem s89_cons (x : Int) (l : List Int) : s89 (x :: l) = if x = 0 then s89 l else x := by
 unfold s89;simp only [s89_l1];rw [f89_k l (0 + 1) 0]
 by_cases h : x = 0 <;> simp [h]
theorem f1085_k : ∀ (l : List Int) (k : Nat), s1085_l1 l k = s89_l1 l k
 | [], _ => rfl
 | x :: l, k => by simp only [s1085_l1, s89_l1]; rw [f1085_k l (k + 1)]
theorem s1085_eq (l : List Int) : s1085 l = s89 l := f1085_k l 0
theorem s1088_eq (a b c : Int) : s1088 a b c = s90 a b c := rfl
theorem s1098_eq (a : Int) : s1098 a = s96 a := rfl
theorem s90_ite (a b c : Int) : s90 a b c = if b ≤ a ∧ a ≤ c then 0 else 3 := by
 unfold s90
 by_cases h1 : a < b <;> by_cases h2 : c < a <;> simp [h1, h2] <;> omega
theorem s1086_ite (b : Bool) (e : Int) : s1086 b e = if b = true then e else 0 := by cases b <;> rfl
theorem decode_lo {s : ByteArray} {i : Nat} (h : (s.get! i).toNat < 128) : Utf8.decode s i = ((s.get! i).toNat, 1) := by
 unfold Utf8.decode
 simp [h]
theorem decode_hi {s : ByteArray} {i : Nat} (h : 128 ≤ (s.get! i).toNat) : 128 ≤ (Utf8.decode s i).1 := by
 unfold Utf8.decode;simp only [Nat.add_zero];rw [if_neg (by omega)]
 repeat' split
 all_goals first | assumption | (simp [Utf8.runeError]; done) | (rename_i h2; simp only [Bool.and_eq_true, decide_eq_true_eq] at h2; have h3 := h2.1; dsimp only; omega)
theorem get_toList {s : ByteArray} {i : Nat} (h : i < s.data.toList.length) : s.get! i = s.data.toList[i] := by
 have h' : i < s.data.size := by simpa using h
 show s.data[i]! = _;rw [getElem!_pos s.data i h']
 simp
theorem name_loop (s : ByteArray) : ∀ n pos, s.size ≤ pos + n → s147_l1 (runesF s n pos) = s91_l1 (s.data.toList.drop pos) pos := by
 intro n
 induction n with
 | zero =>
  intro pos h;rw [List.drop_eq_nil_of_le (by simpa using h)]; rfl
 | succ n ih =>
  intro pos h;unfold runesF
  split
  ·rename_i hp
   have hl : pos < s.data.toList.length := by simpa using hp
   rw [List.drop_eq_getElem_cons hl, s147_l1, s91_l1, ← get_toList hl]
   rcases Nat.lt_or_ge (s.get! pos).toNat 128 with hb | hb
   ·rw [decode_lo hb, ih (pos + 1) (by omega)];have e1 : (decide (((pos : Nat) : Int) = 0)) = decide ((pos : Int) = 0) := rfl;dsimp only;rw [Bool.or_comm ((decide ((65 : Int) ≤ _)) && _)]
   ·have hb2 := decode_hi hb
    have c1 : (!(((decide ((65 : Int) ≤ ((Utf8.decode s pos).1 : Int))) && (decide (((Utf8.decode s pos).1 : Int) ≤ 90))) || ((decide ((97 : Int) ≤ ((Utf8.decode s pos).1 : Int))) && (decide (((Utf8.decode s pos).1 : Int) ≤ 122))))) = true := by
     simp; omega
    have c2 : (!(((decide ((97 : Int) ≤ ((s.get! pos).toNat : Int))) && (decide (((s.get! pos).toNat : Int) ≤ 122))) || ((decide ((65 : Int) ≤ ((s.get! pos).toNat : Int))) && (decide (((s.get! pos).toNat : Int) ≤ 90))))) = true := by
     simp; omega
    dsimp only;rw [c1, c2]
    have d1 : (decide (((Utf8.decode s pos).1 : Int) ≠ 95) && (decide (((Utf8.decode s pos).1 : Int) < 48) || decide (57 < ((Utf8.decode s pos).1 : Int)))) = true := by simp; omega
    have d2 : (decide (((s.get! pos).toNat : Int) ≠ 95) && (decide (((s.get! pos).toNat : Int) < 48) || decide (57 < ((s.get! pos).toNat : Int)))) = true := by simp; omega
    rw [d1, d2]; simp
  ·rename_i hp
   rw [List.drop_eq_nil_of_le (by simpa using hp)]; rfl
theorem name_eq (s : ByteArray) : s147 s = s91 s := by
 unfold s147 s91 runes;rw [name_loop s _ 0 (by omega)]; rfl
theorem ixO_at {α : Type} {l : List α} {i : Nat} (h : i < l.length) : ixO l (i : Int) = some l[i] := by
 unfold ixO; rw [decide_eq_true (by omega), cond_true]; simp [h]
theorem index_k {α : Type} (p : α → Bool) (F : List α → Nat → Int) (h0 : ∀ k, F [] k = -1) (h1 : ∀ y t k, F (y :: t) k = bif p y then ((k : Nat) : Int) else F t (k + 1)) :
  ∀ l k, decide (0 ≤ F l k) = l.any p
 | [], k => by rw [h0]; rfl
 | y :: t, k => by
  rw [h1, List.any_cons]
  cases p y with
  | true => simp
  | false => simpa using index_k p F h0 h1 t (k + 1)
theorem s88_eq (l : List ByteArray) (a : ByteArray) : s88 l a = l.any fun x => decide (a = x) :=
 index_k (fun x => decide (a = x)) (s148_l1 a) (fun _ => rfl) (fun _ _ _ => rfl) l 0
theorem s1194_eqc (a b : Int) : s1194 a b = decide (a < b) := by
 have h : ∀ x, s202 x = false := fun x => by unfold s202; simp
 unfold s1194; rw [h]; simp
theorem srtc_iff (t : Int) : ∀ {ms : List Int}, ms.Pairwise (· ≤ ·) → ∀ i (hi : i < ms.length), (ms[i] < t ↔ i < (ms.takeWhile (fun x => decide (x < t))).length)
 | [], _, i, hi => by simp at hi
 | x :: ms, h, i, hi => by
  rw [List.pairwise_cons] at h
  by_cases hx : x < t
  ·rw [List.takeWhile_cons_of_pos (by simp [hx])]
   cases i with
   | zero => simp [hx]
   | succ i =>
    have := srtc_iff t h.2 i (by simpa using hi);simp only [List.getElem_cons_succ, List.length_cons]
    omega
  ·rw [List.takeWhile_cons_of_neg (by simp [hx])]
   cases i with
   | zero => simp; omega
   | succ i =>
    have := h.1 (ms[i]'(by simpa using hi)) (List.getElem_mem _);simp only [List.getElem_cons_succ, List.length_nil]
    omega
theorem bsc_loop (t : Int) {ms : List Int} (h : ms.Pairwise (· ≤ ·)) (p : Nat) (hp : p = (ms.takeWhile (fun x => decide (x < t))).length) : ∀ (k lo hi : Nat), lo ≤ p → p ≤ hi → hi ≤ ms.length → hi - lo < k → ∃ b, s2149_l1 ms t k (lo : Int) (hi : Int) = some ((p : Int), b)
 | 0, lo, hi, _, _, _, h => by omega
 | k + 1, lo, hi, h1, h2, h3, h4 => by
  rw [s2149_l1]
  by_cases hc : lo < hi
  ·rw [decide_eq_true (by omega : (lo : Int) < (hi : Int)), cond_true]
   have e : ((lo : Int) + (hi : Int)) / 2 = (((lo + hi) / 2 : Nat) : Int) := by omega
   have hlt : (lo + hi) / 2 < ms.length := by omega
   rw [e, ixO_at hlt];simp only [bindO];rw [s1194_eqc];have hi' := srtc_iff t h ((lo + hi) / 2) hlt;rw [← hp] at hi'
   by_cases hm : ms[(lo + hi) / 2] < t
   ·rw [decide_eq_true hm, cond_true, show ((((lo + hi) / 2 : Nat) : Int) + 1) = (((lo + hi) / 2 + 1 : Nat) : Int) by push_cast; rfl];exact bsc_loop t h p hp k _ _ (by have := hi'.1 hm; omega) h2 h3 (by omega)
   ·rw [decide_eq_false hm, cond_false];exact bsc_loop t h p hp k _ _ h1 (by have : ¬ (lo + hi) / 2 < p := fun q => hm (hi'.2 q); omega) (by omega) (by omega)
  ·have e1 : lo = p := by omega
   subst e1;rw [decide_eq_false (by omega : ¬ (lo : Int) < (hi : Int)), cond_false]
   by_cases hl : lo < ms.length
   ·rw [decide_eq_true (by omega : (lo : Int) < (ms.length : Int)), cond_true, ixO_at hl];simp only [bindO, Bool.true_and]
    cases hq : (!(decide (ms[lo] = t)))
    ·exact ⟨_, rfl⟩
    ·exact ⟨_, rfl⟩
   ·rw [decide_eq_false (by omega : ¬ (lo : Int) < (ms.length : Int)), cond_false];simp only [bindO, Bool.false_and, cond_false];exact ⟨_, rfl⟩
theorem tw_filter (t : Int) : ∀ {ms : List Int}, ms.Pairwise (· ≤ ·) → (ms.takeWhile (fun x => decide (x < t))).length = (ms.filter (fun x => decide (x < t))).length
 | [], _ => rfl
 | x :: ms, h => by
  rw [List.pairwise_cons] at h
  by_cases hx : x < t
  ·rw [List.takeWhile_cons_of_pos (by simp [hx]), List.filter_cons_of_pos (by simp [hx]), List.length_cons, List.length_cons, tw_filter t h.2]
  ·rw [List.takeWhile_cons_of_neg (by simp [hx]), List.filter_cons_of_neg (by simp [hx])]
   symm
   rw [List.length_nil, List.length_eq_zero_iff, List.filter_eq_nil_iff];intro y hy;have := h.1 y hy
   simp; omega
def cntI (ms : List Int) (b len : Int) : Int := ((ms.filter (fun x => decide (b ≤ x) && decide (x < b + len))).length : Nat)
theorem filter_diff (b len : Int) (hl : 0 ≤ len) : ∀ (ms : List Int), ((ms.filter (fun x => decide (x < b + len))).length : Int) - (ms.filter (fun x => decide (x < b))).length = cntI ms b len
 | [] => rfl
 | x :: ms => by
  have ih := filter_diff b len hl ms;unfold cntI at ih ⊢;simp only [List.filter_cons]
  by_cases h1 : x < b
  ·have h2 : x < b + len := by omega
   have h3 : ¬ b ≤ x := by omega
   simp only [h1, h2, h3, decide_true, decide_false, if_true, Bool.false_and, Bool.false_eq_true, if_false, List.length_cons]
   push_cast; omega
  ·by_cases h2 : x < b + len
   ·have h3 : b ≤ x := by omega
    simp only [h1, h2, h3, decide_true, decide_false, if_true, Bool.true_and, Bool.and_self, Bool.false_eq_true, if_false, List.length_cons]
    push_cast; omega
   ·simp only [h1, h2, decide_false, if_true, Bool.and_false, Bool.false_eq_true, if_false];exact ih
theorem s2117_ok {ms : List Int} (h : ms.Pairwise (· ≤ ·)) (t : Int) : s2117 ms t = some ((ms.filter (fun x => decide (x < t))).length : Int) := by
 unfold s2117 s2149;obtain ⟨b, hb⟩ := bsc_loop t h _ rfl (((List.length ms : Int) - 0).toNat + 1) 0 ms.length (Nat.zero_le _) (List.takeWhile_sublist _).length_le (Nat.le_refl _) (by omega);have hb : s2149_l1 ms t (((List.length ms : Int) - 0).toNat + 1) 0 (List.length ms : Int) = _ := hb;rw [hb, tw_filter t h]
 rfl
theorem s2062_ok {ms : List Int} (h : ms.Pairwise (· ≤ ·)) (hl : ms.length ≤ 1000) {b len : Int} (hb : 0 ≤ b) (hb2 : b ≤ 2000000000) (hlen : 0 ≤ len) (hlen2 : len ≤ 1440) : s2062 ms b len = some (cntI ms b len) := by
 unfold s2062;rw [wrap_i64 (by unfold I64; omega), s2117_ok h, s2117_ok h];simp only [bindO];have h1 := List.length_filter_le (fun x => decide (x < b + len)) ms;have h2 := List.length_filter_le (fun x => decide (x < b)) ms;rw [wrap_i64 (by unfold I64; omega), filter_diff b len hlen]
end Go.Sim
set_option maxRecDepth 10000
namespace Go.Sim
open Go.Proofs
structure LimOk (a : S2062) : Prop where
 k : (mgetD kindL a.Kind none).isSome = true
 s0 : 1 ≤ a.Step
 s1 : a.Step ≤ 1440
 l0 : 1 ≤ a.Length
 l1 : a.Length ≤ 1440
 f0 : 0 ≤ a.fFrom
 f1 : a.fFrom ≤ 1439
 t0 : 0 ≤ a.fTo
 t1 : a.fTo ≤ 1439
 p0 : 0 ≤ a.Period.fFrom
 p1 : a.Period.fTo ≤ 1000000
 m0 : 0 ≤ a.Most
 m1 : a.Most ≤ 999999999
theorem bF_eq {a : S2062} (h : LimOk a) : bF a = (a.fFrom + a.Step - 1) / a.Step ∧ 0 ≤ bF a ∧ bF a ≤ 3000 ∧ a.fFrom ≤ a.Step * bF a := by
 have h1 := h.s0; have h2 := h.s1; have h3 := h.f0; have h4 := h.f1
 have e : bF a = (a.fFrom + a.Step - 1) / a.Step := by
  unfold bF;rw [wrap_i64 (n := a.fFrom + a.Step) (by unfold I64; omega), wrap_i64 (n := a.fFrom + a.Step - 1) (by unfold I64; omega), Int.tdiv_eq_ediv_of_nonneg (by omega)];have b1 : 0 ≤ (a.fFrom + a.Step - 1) / a.Step := Int.ediv_nonneg (by omega) (by omega);have b2 : (a.fFrom + a.Step - 1) / a.Step ≤ a.fFrom + a.Step - 1 := Int.ediv_le_self _ (by omega);rw [wrap_i64 (by unfold I64; omega)]
 have b1 : 0 ≤ (a.fFrom + a.Step - 1) / a.Step := Int.ediv_nonneg (by omega) (by omega);have b2 : (a.fFrom + a.Step - 1) / a.Step ≤ a.fFrom + a.Step - 1 := Int.ediv_le_self _ (by omega);have b3 := Int.emod_add_mul_ediv (a.fFrom + a.Step - 1) a.Step;have b4 := Int.emod_lt_of_pos (a.fFrom + a.Step - 1) (show 0 < a.Step by omega);refine ⟨e, by omega, by omega, ?_⟩;rw [e]; omega
theorem bN_eq {a : S2062} (h : LimOk a) : bN a = max 0 (a.fTo / a.Step - bF a + 1) := by
 obtain ⟨_, h5, h6, _⟩ := bF_eq h;have h1 := h.s0; have h3 := h.t0; have h4 := h.t1;have b1 : 0 ≤ a.fTo / a.Step := Int.ediv_nonneg (by omega) (by omega);have b2 : a.fTo / a.Step ≤ a.fTo := Int.ediv_le_self _ (by omega);unfold bN;rw [Int.tdiv_eq_ediv_of_nonneg (by omega), wrap_i64 (n := a.fTo / a.Step) (by unfold I64; omega), wrap_i64 (n := a.fTo / a.Step - bF a) (by unfold I64; omega), wrap_i64 (by unfold I64; omega)]
theorem bAt_eq {a : S2062} (h : LimOk a) {d : Int} (hd : 0 ≤ d) (hd2 : d ≤ 1000000) {n : Nat} (hn : n < (bN a).toNat) : bAt a d n = 1440 * d + a.Step * (bF a + n) ∧ a.fFrom ≤ a.Step * (bF a + n) ∧ a.Step * (bF a + n) ≤ a.fTo := by
 obtain ⟨_, h5, h6, h7⟩ := bF_eq h;have hbn := bN_eq h;have h1 := h.s0; have h2 := h.s1; have h3 := h.t0; have h4 := h.t1;have b2 : a.fTo / a.Step ≤ a.fTo := Int.ediv_le_self _ (by omega)
 have hle : bF a + n ≤ a.fTo / a.Step := by omega
 have hm : a.Step * (bF a + n) ≤ a.Step * (a.fTo / a.Step) := Int.mul_le_mul_of_nonneg_left hle (by omega);have b3 := Int.emod_add_mul_ediv a.fTo a.Step;have b4 := Int.emod_nonneg a.fTo (show a.Step ≠ 0 by omega);have hm2 : a.Step * bF a ≤ a.Step * (bF a + n) := Int.mul_le_mul_of_nonneg_left (by omega) (by omega);refine ⟨?_, by omega, by omega⟩;unfold bAt;have hf := h.f0;rw [wrap_i64 (n := 1440 * d) (by unfold I64; omega), wrap_i64 (n := bF a + n) (by unfold I64; omega), wrap_i64 (n := a.Step * (bF a + n)) (by unfold I64; omega), wrap_i64 (by unfold I64; omega)]
theorem begL_rng {a : S2062} (h : LimOk a) {d b : Int} (hb : b ∈ begL a d) : a.Period.fFrom ≤ d ∧ d ≤ a.Period.fTo ∧ 1440 * d ≤ b ∧ b ≤ 1440 * d + 1439 := by
 have hp0 := h.p0; have hp1 := h.p1;unfold begL at hb
 cases hc : (((decide (d < a.Period.fFrom)) || (decide (a.Period.fTo < d))) || (!(s2115 a d))) with
 | true => rw [hc] at hb; cases hb
 | false =>
  rw [hc] at hb;simp only [Bool.or_eq_false_iff, decide_eq_false_iff_not] at hc;obtain ⟨n, hn, rfl⟩ := List.mem_map.1 hb;rw [List.mem_range] at hn;have := bAt_eq h (d := d) (by omega) (by omega) hn;have := h.f0; have := h.t1
  omega
theorem windL_rng {a : S2062} (h : LimOk a) {b : Int} (hb : b ∈ windL a) : 0 ≤ b ∧ b ≤ 2000000000 := by
 have hp0 := h.p0; have hp1 := h.p1;obtain ⟨k, _, hk⟩ := List.mem_flatMap.1 hb;have := begL_rng h hk
 omega
def exOne (i : Nat) (l : S2062) (own : List Int) (b : Int) : Option S2068 := bif decide (cntI own b l.Length > l.Most) then some ⟨(i : Nat), b, cntI own b l.Length⟩ else none
def exL (ms : List S1079) : List S2062 → Nat → List S2068
 | [], _ => []
 | l :: t, i => (windL l).filterMap (exOne i l (ofL l ms)) ++ exL ms t (i + 1)
def winE (x : S2068) : Value := .agg #[.int .i64 x.Limit, .int .i64 x.Begin, .int .i64 x.Count]
def winG (x : S2068) : G := G.agg [G.int x.Limit, G.int x.Begin, G.int x.Count]
theorem winG_E (x : S2068) (w : World) (M : Nat → Prop) : (winG x).p w M (winE x) := ⟨[_, _, _], rfl, ⟨rfl, rfl⟩, ⟨rfl, rfl⟩, ⟨rfl, rfl⟩, trivial⟩
theorem winG_eq {x : S2068} {w : World} {M : Nat → Prop} {ρ : Rho} {v : Value} (h : TRel w M ρ (.g (winG x)) v) : v = winE x := by
 obtain ⟨vs, rfl, h⟩ := h
 match vs, h with
 | [a, b, c], ⟨⟨h1, _⟩, ⟨h2, _⟩, ⟨h3, _⟩, _⟩ =>
  have h1 : a = .int .i64 x.Limit := h1;have h2 : b = .int .i64 x.Begin := h2;have h3 : c = .int .i64 x.Count := h3;rw [h1, h2, h3]; rfl
theorem kpl69 : placesK Tryz.prog 69 = some [(0, 1), (1, 1), (2, 1)] := by kernel_rfl
theorem kz122 : zeroK Tryz.prog 122 = some [.slice none 0 0] := by kernel_rfl
theorem kty122 : tyK Tryz.prog 122 = some (1, false) := by kernel_rfl
theorem kz63 : zeroK Tryz.prog 63 = some [.string ⟨#[]⟩, .string ⟨#[]⟩, .string ⟨#[]⟩, .int .i64 0, .int .i64 0, .int .i64 0, .int .i64 0, .int .i64 0, .int .i64 0, .int .i64 0, .int .i64 0] := by kernel_rfl
theorem kty72 : tyK Tryz.prog 72 = some (1, false) := by kernel_rfl
theorem kty25 : tyK Tryz.prog 25 = some (1, false) := by kernel_rfl
theorem kE61 : Known Tryz.prog 61 := ⟨_, Tryz.func61, by kernel_rfl, by kernel_rfl⟩
theorem kE62 : Known Tryz.prog 62 := ⟨_, Tryz.func62, by kernel_rfl, by kernel_rfl⟩
structure MsOk (ms : List S1079) : Prop where
 len : ms.length ≤ 1000
 sz : ∀ m ∈ ms, m.Kind.size ≤ 1000 ∧ m.Terminal.size ≤ 1000
 srt : (ms.map S1079.Moment).Pairwise (· ≤ ·)
theorem ofL_sorted {ms : List S1079} (h : MsOk ms) (l : S2062) : (ofL l ms).Pairwise (· ≤ ·) := by
 have h := h.srt;unfold ofL;rw [List.pairwise_map] at h ⊢;exact h.filter _
theorem ofL_len {ms : List S1079} (h : MsOk ms) (l : S2062) : (ofL l ms).length ≤ 1000 := by
 have := List.length_filter_le (fun m => s2116 l m.Kind m.Terminal) ms;have := h.len;unfold ofL;rw [List.length_map]; omega
theorem seq_exceeded {g : List (Nat × List Value)} (a0 : List S2062) (a1 : List S1079) (hl0 : a0.length ≤ 1000) (hl : ∀ x ∈ a0, LimOk x) (hm : MsOk a1) : SeqN (EG g) 100 [G.ref [G.sl 11 (List.map S2062.c a0)], G.ref [G.sl 7 (List.map S1079.c a1)]] winE (exL a1 a0 0) := by
 refine seqN_of_iw Tryz.func100 rfl rfl rfl fun l C => ?_;refine iw_seq ?_;refine iw_region [.p] ?_;refine st rfl rfl (eff_box rfl rfl) rfl ?_;refine st_nil ?_;refine iw_seq ?_;refine iw_region [.p, .p, .p] ?_;refine st rfl rfl (eff_load rfl kty72 rfl) rfl ?_;refine st rfl rfl (eff_lenM (f := S2062.c) (l := a0) rfl Tryz.underlying72 rfl) rfl ?_;refine st rfl rfl (eff_moveg rfl rfl) rfl ?_;refine st_nil ?_;refine iw_block ?_;refine iw_loop_g (γ := Nat × List S2062 × List S2068) (fun g => [(1, .g (G.ref [G.sl 11 (List.map S2062.c a0)])), (2, .g (G.ref [G.sl 7 (List.map S1079.c a1)])), (3, .g (G.ref [G.lit (.func (.yield l) #[] #[])])), (9, .g (G.sl 11 (List.map S2062.c a0))), (10, .g (G.int (List.length a0 : Int))), (11, .g (G.int ((g.1 : Nat) : Int)))])
  (fun g => (g.2.2, false)) (fun g => a0.drop g.1 = g.2.1 ∧ g.2.2 ++ exL a1 g.2.1 g.1 = exL a1 a0 0) (fun g => List.length g.2.1) ⟨rfl, (0, a0, []), ⟨rfl, rfl, rfl, rfl, rfl, rfl, trivial⟩, rfl, rfl, ⟨rfl, rfl⟩, trivial⟩ ?_
 rintro ⟨k, tl, pre0⟩ ⟨hd, hR⟩;replace hd : a0.drop k = tl := hd;replace hR : pre0 ++ exL a1 tl k = exL a1 a0 0 := hR;refine iw_seq ?_;refine iw_region [.p] ?_;refine st rfl rfl (eff_lss rfl rfl rfl) rfl ?_;refine st_nil ?_;refine iw_seq ?_;refine iw_cond _ rfl (fun h1 => ?_) (fun h1 => ?_)
 ·replace h1 : (decide (((k : Nat) : Int) < (List.length a0 : Int))) = true := h1;obtain ⟨y, tl, rfl, hx1, hd⟩ := drop_cons hd (decT h1);replace h1 := decT h1;have hy : LimOk y := hl y (List.mem_of_getElem? hx1);rw [exL] at hR;have hlen := hm.len
  have hln : (List.length a0 : Int) ≤ 1000 := by have := hl0; omega
  refine iw_skip ?_;refine iw_seq ?_;refine iw_block ?_;refine iw_seq ?_;refine iw_region [.p, .p, .p, .w, .w, .w, .w] ?_;refine st rfl rfl (eff_moveg rfl rfl) rfl ?_;refine st rfl rfl (eff_ix (f := S2062.c) (l := a0) (a := y) rfl Tryz.underlying72 ty2063 rfl rfl (Int.natCast_nonneg _) hx1) rfl ?_;refine st rfl rfl (eff_loadA rfl ty2063 rfl rfl rfl) rfl ?_;refine st_w rfl rfl (eff_alloc 4 rfl z3 rfl rfl) rfl ?_;refine st_w rfl rfl (eff_alloc 5 rfl kz63 rfl rfl) rfl ?_;refine st_wn rfl rfl (eff_store (tv := .g (G.int ((k : Nat) : Int))) rfl ty3 rfl rfl rfl rfl rfl) ?_;refine st_wn rfl rfl (eff_store (tv := .g (G.agg (limG y))) rfl ty2063 rfl rfl rfl rfl rfl) ?_;refine st_nil ?_;refine iw_freeze (l1 := [(1, .g (G.ref [G.sl 11 (List.map S2062.c a0)])), (2, .g (G.ref [G.sl 7 (List.map S1079.c a1)])), (3, .g (G.ref [G.lit (.func (.yield l) #[] #[])])), (4, .g (G.ref [G.int ((k : Nat) : Int)])), (5, .ptr 5 0), (9, .g (G.sl 11 (List.map S2062.c a0))), (10, .g (G.int (List.length a0 : Int))), (11, .g (G.int ((k : Nat) : Int)))]) (m := [(5, .box [.g (G.str y.Name), .g (G.str y.Kind), .g (G.str y.Terminal), .g (G.int y.Length), .g (G.int y.Step), .g (G.int y.fFrom), .g (G.int y.fTo), .g (G.int y.Period.fFrom), .g (G.int y.Period.fTo), .g (G.int y.Period.Days), .g (G.int y.Most)])]) 4 rfl ⟨.inl ⟨rfl, rfl⟩, .inl ⟨rfl, rfl⟩, .inl ⟨rfl, rfl⟩, .inr (frz_box rfl), .inl ⟨rfl, rfl⟩, .inl ⟨rfl, rfl⟩, .inl ⟨rfl, rfl⟩, .inl ⟨rfl, rfl⟩, trivial⟩ ⟨rfl, trivial⟩ rfl rfl ?_;refine iw_freeze (l1 := [(1, .g (G.ref [G.sl 11 (List.map S2062.c a0)])), (2, .g (G.ref [G.sl 7 (List.map S1079.c a1)])), (3, .g (G.ref [G.lit (.func (.yield l) #[] #[])])), (4, .g (G.ref [G.int ((k : Nat) : Int)])), (5, .g (G.ref (limG y))), (9, .g (G.sl 11 (List.map S2062.c a0))), (10, .g (G.int (List.length a0 : Int))), (11, .g (G.int ((k : Nat) : Int)))]) (m := []) 5 rfl ⟨.inl ⟨rfl, rfl⟩, .inl ⟨rfl, rfl⟩, .inl ⟨rfl, rfl⟩, .inl ⟨rfl, rfl⟩, .inr (frz_box rfl), .inl ⟨rfl, rfl⟩, .inl ⟨rfl, rfl⟩, .inl ⟨rfl, rfl⟩, trivial⟩ trivial rfl rfl ?_;refine iw_seq ?_;refine iw_region [.p, .p, .p, .w, .w] ?_;refine st rfl rfl (eff_loadA rfl ty2063 rfl rfl rfl) rfl ?_;refine st rfl rfl (eff_load rfl kty25 rfl) rfl ?_;refine st rfl rfl (eff_call rfl kE61 rfl (c2061 y a1 hy.k hm.sz hm.len) (ag_cons rfl (ag_cons rfl ag_nil))) rfl ?_;refine st_w rfl rfl (eff_alloc 6 rfl kz122 rfl rfl) rfl ?_;refine st_wn rfl rfl (eff_store (tv := .g (G.sl 1 (List.map cInt (ofL y a1)))) rfl kty122 rfl rfl rfl rfl rfl) ?_;refine st_nil ?_;refine iw_freeze (l1 := [(1, .g (G.ref [G.sl 11 (List.map S2062.c a0)])), (2, .g (G.ref [G.sl 7 (List.map S1079.c a1)])), (3, .g (G.ref [G.lit (.func (.yield l) #[] #[])])), (4, .g (G.ref [G.int ((k : Nat) : Int)])), (5, .g (G.ref (limG y))), (6, .g (G.ref [G.sl 1 (List.map cInt (ofL y a1))])), (9, .g (G.sl 11 (List.map S2062.c a0))), (10, .g (G.int (List.length a0 : Int))), (11, .g (G.int ((k : Nat) : Int)))]) (m := []) 6 rfl ⟨.inl ⟨rfl, rfl⟩, .inl ⟨rfl, rfl⟩, .inl ⟨rfl, rfl⟩, .inl ⟨rfl, rfl⟩, .inl ⟨rfl, rfl⟩, .inr (frz_box rfl), .inl ⟨rfl, rfl⟩, .inl ⟨rfl, rfl⟩, .inl ⟨rfl, rfl⟩, trivial⟩ trivial rfl rfl ?_;refine iw_seq ?_;refine iw_region [.p, .p] ?_;refine st rfl rfl (eff_loadA rfl ty2063 rfl rfl rfl) rfl ?_;refine st rfl rfl (eff_call rfl kB101 rfl (c2101 y) (ag_cons rfl ag_nil)) rfl ?_;refine st_nil ?_;refine iw_block ?_;refine iw_rangeC (windL y) [(1, .g (G.ref [G.sl 11 (List.map S2062.c a0)])), (2, .g (G.ref [G.sl 7 (List.map S1079.c a1)])), (3, .g (G.ref [G.lit (.func (.yield l) #[] #[])])), (4, .g (G.ref [G.int ((k : Nat) : Int)])), (5, .g (G.ref (limG y))), (6, .g (G.ref [G.sl 1 (List.map cInt (ofL y a1))])), (9, .g (G.sl 11 (List.map S2062.c a0))), (10, .g (G.int (List.length a0 : Int))), (11, .g (G.int ((k : Nat) : Int))), (20, .g (G.fn (.func 139) [] [G.ref (limG y)]))]
   (fun q => pre0 ++ q.filterMap (exOne k y (ofL y a1))) G.int (fun t z => updO (some 7) (.g (G.int z)) (upd 21 (.g (G.int z)) t)) rfl ⟨rfl, rfl, rfl, rfl, rfl, rfl, rfl, rfl, rfl, rfl, trivial⟩ rfl (by simp) kB139 rfl rfl
   (seq_windows y (by have := hy.s0; omega) hy.p0 hy.p1) (fun _ _ _ => rfl) ?_ ?_ ?_ ?_
  ·intro z pre lp C';refine iw_region [.p] ?_;refine st rfl rfl (eff_assigng rfl rfl) rfl ?_;refine st_nil ?_;exact ⟨rfl, rfl, rfl⟩
  ·intro q z post hq lp C';have hz := windL_rng hy (b := z) (by rw [hq]; simp);refine iw_block ?_;refine iw_seq ?_;refine iw_region [.p, .p, .p, .p, .p, .p] ?_;refine st rfl rfl (eff_load rfl kty122 rfl) rfl ?_;refine st rfl rfl (eff_moveg rfl rfl) rfl ?_;refine st rfl rfl (eff_fieldAddr rfl fl2063_3 rfl) rfl ?_;refine st rfl rfl (eff_load rfl ty3 rfl) rfl ?_;refine st rfl rfl (eff_call rfl kE62 rfl (c2062 (ofL y a1) z y.Length (ofL_len hm y) (s2062_ok (ofL_sorted hm y) (ofL_len hm y) hz.1 hz.2 (by have := hy.l0; omega) hy.l1)) (ag_cons rfl (ag_cons rfl (ag_cons rfl ag_nil)))) rfl ?_;refine st rfl rfl (eff_assigng rfl rfl) rfl ?_;refine st_nil ?_;refine iw_seq ?_;refine iw_regionY [some .p, some .p, some .p, some .p, some .p, some .p, some .p, some .p, some .p, some .p, none, some .p, some .p] ?_;refine ist (st rfl rfl (eff_moveg rfl rfl) rfl (st_nil ?_));refine ist (st rfl rfl (eff_fieldAddr rfl fl2063_8 rfl) rfl (st_nil ?_));refine ist (st rfl rfl (eff_load rfl ty3 rfl) rfl (st_nil ?_));refine ist (st rfl rfl (eff_gtr rfl rfl rfl) rfl (st_nil ?_));refine ist (st rfl rfl (eff_moveg rfl rfl) rfl (st_nil ?_));refine ist (st_g rfl rfl rfl (gb_bool _ _) (fun h => eff_load rfl kty152 rfl) rfl (st_nil ?_));refine ist (st_g rfl rfl rfl (gb_bool _ _) (fun h => eff_load rfl ty3 rfl) rfl (st_nil ?_));refine ist (st_g rfl rfl rfl (gb_bool _ _) (fun h => eff_moveg rfl rfl) rfl (st_nil ?_));refine ist (st_g rfl rfl rfl (gb_bool _ _) (fun h => eff_moveg rfl rfl) rfl (st_nil ?_));refine ist (st_g rfl rfl rfl (gb_bool _ _) (fun h => eff_build rfl z2069 rfl kpl69 (pb_cons (gd h rfl) (pb_cons (gd h rfl) (pb_cons (gd h rfl) pb_nil))) rfl) rfl (st_nil ?_));have hex : exOne k y (ofL y a1) z = bif decide (cntI (ofL y a1) z y.Length > y.Most) then some ⟨(k : Nat), z, cntI (ofL y a1) z y.Length⟩ else none := rfl
   revert hex
   show (_ = cond (decide (y.Most < cntI (ofL y a1) z y.Length)) _ _) → _;generalize decide (y.Most < cntI (ofL y a1) z y.Length) = c
   cases c with
   | false =>
    intro hex;refine iy_g false rfl rfl rfl (gb_bool _ _) rfl rfl (fun _ => ?_) (fun h => by cases h);refine ist (st_g (gb := false) (r := .g (G.bool false)) rfl rfl rfl (gb_bool _ _) (fun h => by cases h) rfl (st_nil ?_));refine ist (st rfl rfl (eff_pick rfl rfl rfl) rfl (st_nil ?_));refine ist_nil ?_;refine iw_cond false rfl (fun h4 => by cases h4) (fun h4 => ?_);refine iw_skip ?_;show (_, _) = (_, _);rw [List.filterMap_append]
    simp [hex]
   | true =>
    intro hex;refine iy_g true rfl rfl rfl (gb_bool _ _) rfl rfl (fun h => by cases h) (fun _ => ⟨rfl, rfl, ⟨(k : Nat), z, cntI (ofL y a1) z y.Length⟩, post.filterMap (exOne k y (ofL y a1)) ++ exL a1 tl (k + 1), (fun w M ρ v h => winG_eq h), ?_, fun b => ?_⟩)
    ·rw [← hR, hq, List.filterMap_append, List.filterMap_cons, hex]; simp
    refine ist (st_g (gb := true) rfl rfl rfl (gb_bool _ _) (fun h => eff_not rfl rfl) rfl (st_nil ?_));refine ist (st rfl rfl (eff_pick rfl rfl rfl) rfl (st_nil ?_));refine ist_nil ?_;refine iw_cond (!b) rfl (fun h4 => ?_) (fun h4 => ?_)
    ·refine iw_ret ?_;exact h4
    ·have hb : b = true := by simpa using h4
     subst hb;refine iw_skip ?_;show (_, _) = (_, _);rw [List.filterMap_append]
     simp [hex]
  ·refine iw_region [.p, .p] ?_;refine st rfl rfl (eff_add rfl rfl rfl (by (try dsimp only); unfold I64; omega)) rfl ?_;refine st rfl rfl (eff_moveg rfl rfl) rfl ?_;refine st_nil ?_;refine ⟨rfl, (k + 1, tl, pre0 ++ (windL y).filterMap (exOne k y (ofL y a1))), ⟨rfl, rfl, rfl, rfl, rfl, rfl, trivial⟩, rfl, rfl, ⟨hd, ?_⟩, ?_⟩
   ·show (_ ++ _) ++ exL a1 tl (k + 1) = _;rw [← hR]; simp
   ·simp
  ·intro pre;exact .inl rfl
 ·replace h1 : (decide (((k : Nat) : Int) < (List.length a0 : Int))) = false := h1;obtain rfl := drop_nil hd (decF h1);refine iw_exit ?_;refine .inr ?_;rw [← hR]; simp [exL]
section
variable {α : Type} {E : Env} {l : Nat} {enc : α → Value} {xs : List α} {C : ItC E.P l enc xs} {Q : Exit → ASt → List α × Bool → Prop} {s : ASt} {p : List α × Bool}
def okY (oi oj : Oper) : Option Cls → Option Cls → Bool
 | some a, some b => okC oi oj a b
 | some .p, none => true
 | _, _ => false
theorem IStep.mono {ops : Array Oper} {o : Oper} {K K' : ASt → List α × Bool → Prop} {c : Option Cls} (hk : ∀ s p, K s p → K' s p) (h : IStep E l enc xs ops o K s p c) : IStep E l enc xs ops o K' s p c := by
 cases c with
 | some c =>
  obtain ⟨s', h1, h2⟩ := h;exact ⟨s', h1, hk _ _ h2⟩
 | none =>
  obtain ⟨hd, gb, hw, hf, ht⟩ := h;refine ⟨hd, gb, hw, fun e => hk _ _ (hf e), fun e => ?_⟩;obtain ⟨q1, q2, f, arg, ts, x, post, q3, q4, q5, q6, q7⟩ := ht e;exact ⟨q1, q2, f, arg, ts, x, post, q3, q4, q5, q6, fun b => hk _ _ (q7 b)⟩
variable {ops : Array Oper} {md : Region.Mode} {cl : Nat → Option Cls}
def iOp (E : Env) (l : Nat) (enc : α → Value) (xs : List α) (ops : Array Oper) (cl : Nat → Option Cls) (i : Nat) (K : ASt → List α × Bool → Prop) (s : ASt) (p : List α × Bool) : Prop :=
 match ops[i]? with
 | none => K s p
 | some o => IStep E l enc xs ops o K s p (cl i)
def anyI (E : Env) (l : Nat) (enc : α → Value) (xs : List α) (md : Region.Mode) (ops : Array Oper) (cl : Nat → Option Cls) (K : ASt → List α × Bool → Prop) : Nat → Array Bool → ASt → List α × Bool → Prop
 | 0, listed, s, p => Region.ready md ops listed = [] ∧ K s p
 | fuel + 1, listed, s, p => (Region.ready md ops listed = [] → K s p) ∧ ∀ i ∈ Region.ready md ops listed, iOp E l enc xs ops cl i (anyI E l enc xs md ops cl K fuel (listed.setIfInBounds i true)) s p
theorem anyI.sound (hmk : E.mks = false) (hbw : E.bow = []) : ∀ (fuel : Nat) (listed : Array Bool) (s : ASt) (p : List α × Bool), anyI E l enc xs md ops cl (Q .normal) fuel listed s p → ∀ a w, IRel E C s p a w →
  wpAnyIn E.F 0 E.P md ops (fun e a' w' => ∃ s' p', IRel E C s' p' a' w' ∧ Q e s' p') fuel listed a w
 | 0, _, s, p, h, a, w, ha => ⟨h.1, s, p, ha, h.2⟩
 | fuel + 1, _, s, p, h, a, w, ha => by
  refine ⟨fun h0 => ⟨s, p, ha, h.1 h0⟩, fun i hi => ?_⟩;have h1 := h.2 i hi;unfold iOp at h1;unfold wpOpIn
  split
  ·rename_i ho; simp only [ho] at h1; exact anyI.sound hmk hbw fuel _ s p h1 a w ha
  ·rename_i o ho
   simp only [ho] at h1;exact IStep.sound h1 hmk hbw ha fun s' p' a' w' h3 ha' => anyI.sound hmk hbw fuel _ s' p' h3 a' w' ha'
theorem anyI_first {K : ASt → List α × Bool → Prop} {i : Nat} {oi : Oper} (hi : ops[i]? = some oi) : ∀ (fuel : Nat) (listed : Array Bool) (s : ASt) (p : List α × Bool),
  (∀ j oj, ops[j]? = some oj → j ≠ i → listed.getD j true = false → (∀ e ∈ oj.after, Region.binds md e = true → e.on ≠ i) → oi.apart ops oj = true ∧ okY oi oj (cl i) (cl j) = true) →
  i ∈ Region.ready md ops listed → IStep E l enc xs ops oi (anyI E l enc xs md ops cl K fuel (listed.setIfInBounds i true)) s p (cl i) → anyI E l enc xs md ops cl K (fuel + 1) listed s p := by
 intro fuel
 induction fuel with
 | zero =>
  intro listed s p hfree hr hy;refine ⟨fun h => (by rw [h] at hr; cases hr), fun j hj => ?_⟩
  by_cases hji : j = i
  ·subst hji; unfold iOp; simp only [hi]; exact hy
  ·exfalso
   have hj' := ready_mono hj hji
   -- at once another is ready: what follows would have to be empty
   cases hc : cl i with
   | none =>
    obtain ⟨hjun, oj, hoj, hall⟩ := mem_ready.1 hj
    have hnot : ∀ e ∈ oj.after, Region.binds md e = true → e.on ≠ i := fun e he hb heq => by
     have h1 := hall e he hb;have h0 := (mem_ready.1 hr).1;rw [heq] at h1
     rcases Nat.lt_or_ge i listed.size with h' | h'
     ·simp [h'] at h0 h1; rw [h0] at h1; cases h1
     ·simp [Array.getElem?_eq_none h'] at h1
    have := (hfree j oj hoj hji hjun hnot).2;rw [hc] at this
    cases hcj : cl j <;> rw [hcj] at this <;> simp [okY] at this
   | some ci =>
    rw [hc] at hy;obtain ⟨u, _, hu⟩ := hy;rw [hu.1] at hj'
    cases hj'
 | succ fuel ih =>
  intro listed s p hfree hr hy;refine ⟨fun h => (by rw [h] at hr; cases hr), fun j hj => ?_⟩
  by_cases hji : j = i
  ·subst hji; unfold iOp; simp only [hi]; exact hy
  ·obtain ⟨hjun, oj, hoj, hall⟩ := mem_ready.1 hj
   have hnot : ∀ e ∈ oj.after, Region.binds md e = true → e.on ≠ i := fun e he hb heq => by
    have h1 := hall e he hb;have h0 := (mem_ready.1 hr).1;rw [heq] at h1
    rcases Nat.lt_or_ge i listed.size with h' | h'
    ·simp [h'] at h0 h1; rw [h0] at h1; cases h1
    ·simp [Array.getElem?_eq_none h'] at h1
   obtain ⟨hap, hok⟩ := hfree j oj hoj hji hjun hnot
   have hfree' : ∀ k ok, ops[k]? = some ok → k ≠ i → (listed.setIfInBounds j true).getD k true = false → (∀ e ∈ ok.after, Region.binds md e = true → e.on ≠ i) → oi.apart ops ok = true ∧ okY oi ok (cl i) (cl k) = true := fun k ok hk hki hun hno => by
    refine hfree k ok hk hki ?_ hno
    by_cases hjk : j = k
    ·subst hjk; exact hjun
    ·rw [getD_set_ne true hjk] at hun; exact hun
   cases hc : cl i with
   | none =>
    rw [hc] at hok
    cases hcj : cl j <;> rw [hcj] at hok <;> simp [okY] at hok
   | some ci =>
    rw [hc] at hy hok;obtain ⟨u, hy1, hy2⟩ := hy;have h1 := hy2.2 j (ready_mono hj hji);unfold iOp at h1 ⊢;simp only [hoj] at h1 ⊢;rw [Array.setIfInBounds_comm _ _ (Ne.symm hji)] at h1
    cases hcj : cl j with
    | some cj =>
     rw [hcj] at h1 hok;obtain ⟨t, h2, h3⟩ := h1;obtain ⟨s2, h4, h5⟩ := AStep.swap hap hok hy1 h2;refine ⟨s2, h4, ih (listed.setIfInBounds j true) s2 p hfree' (ready_mono hr (Ne.symm hji)) ?_⟩;rw [hc];exact ⟨t, h5, h3⟩
    | none =>
     rw [hcj] at h1 hok
     have hcp : ci = .p := by cases ci <;> simp [okY] at hok <;> rfl
     subst hcp;obtain ⟨a1, a2, a3⟩ := Oper.apart_spec hap;obtain ⟨i0, gi, ri, mi, i1, i2, i3, i4, rfl⟩ := hy1.parts ⟨by simp, by simp⟩;obtain rfl : mi = s.mem := i4 (.inl rfl);obtain ⟨j0, gj, hw, hf, ht⟩ := h1;have hev : ∀ x ∈ oj.op.operands, (⟨s.n, updO oi.dst ri s.tmps, s.mem⟩ : ASt).eval E x = s.eval E x := eval_updO a1;have key : ∀ v p', anyI E l enc xs md ops cl K fuel ((listed.setIfInBounds j true).setIfInBounds i true) ((⟨s.n, updO oi.dst ri s.tmps, s.mem⟩ : ASt).put oj.dst v) p' →
       anyI E l enc xs md ops cl K (fuel + 1) (listed.setIfInBounds j true) (s.put oj.dst v) p' := fun v p' hk => by
      refine ih (listed.setIfInBounds j true) (s.put oj.dst v) p' hfree' (ready_mono hr (Ne.symm hji)) ?_;rw [hc];refine ⟨⟨s.n, updO oi.dst ri (updO oj.dst v s.tmps), s.mem⟩, ?_, ?_⟩
      ·exact AStep.ofParts (s := ⟨s.n, updO oj.dst v s.tmps, s.mem⟩) i0 ((wanted_updO a3).2 i1) (fun e => ((i2 e).anyMem (.inl rfl)).congr (fun x hx => ((eval_updO a3) x hx).symm)) i3 (fun _ => rfl)
      ·rw [updO_comm a2 ri v s.tmps];exact hk
     refine ⟨j0, gj, (wanted_updO a1).1 hw, fun e => key _ _ (hf e), fun e => ?_⟩;obtain ⟨q1, q2, f, arg, ts, x, post, q3, q4, q5, q6, q7⟩ := ht e;have e1 : (⟨s.n, updO oi.dst ri s.tmps, s.mem⟩ : ASt).eval E f = s.eval E f := hev f (by rw [q3]; simp [Op.operands, Call.operands]);have e2 : (⟨s.n, updO oi.dst ri s.tmps, s.mem⟩ : ASt).eval E arg = s.eval E arg := hev arg (by rw [q3]; simp [Op.operands, Call.operands]);rw [e1] at q4;rw [e2] at q5;exact ⟨q1, q2, f, arg, ts, x, post, q3, q4, q5, q6, fun b => key _ _ (q7 b)⟩
def freeY (md : Region.Mode) (ops : Array Oper) (cl : Nat → Option Cls) (listed : Array Bool) (i : Nat) : Bool :=
 match ops[i]? with
 | none => false
 | some oi => (List.range ops.size).all fun j => j == i || listed.getD j true || match ops[j]? with
   | some oj => oj.after.any (fun e => Region.binds md e && e.on == i) || (oi.apart ops oj && okY oi oj (cl i) (cl j))
   | none => true
theorem freeY_spec {i : Nat} {oi : Oper} {listed : Array Bool} (hi : ops[i]? = some oi) (h : freeY md ops cl listed i = true) (j : Nat) (oj : Oper)
  (hj : ops[j]? = some oj) (hne : j ≠ i) (hun : listed.getD j true = false) (hno : ∀ e ∈ oj.after, Region.binds md e = true → e.on ≠ i) :
  oi.apart ops oj = true ∧ okY oi oj (cl i) (cl j) = true := by
 simp only [freeY, hi, List.all_eq_true, List.mem_range] at h;have h1 := h j (Array.getElem?_eq_some_iff.1 hj).1;simp only [hj, Bool.or_eq_true, beq_iff_eq, hne, false_or, hun, Bool.false_eq_true, Bool.and_eq_true] at h1
 rcases h1 with h1 | h1
 ·obtain ⟨e, he, hb⟩ := Array.any_eq_true'.1 h1;simp only [Bool.and_eq_true, beq_iff_eq] at hb;exact absurd hb.2 (hno e he hb.1)
 ·exact h1
def lexY (md : Region.Mode) (ops : Array Oper) (cl : Nat → Option Cls) : Nat → Nat → Array Bool → Bool
 | 0, _, listed => (Region.ready md ops listed).isEmpty
 | fuel + 1, k, listed => (Region.ready md ops listed).contains k && (freeY md ops cl listed k || (Region.ready md ops listed).all fun j => j == k) && lexY md ops cl fuel (k + 1) (listed.setIfInBounds k true)
theorem anyI_lex {K : ASt → List α × Bool → Prop} : ∀ (lo : List Oper) (cs : List (Option Cls)) (k : Nat) (listed : Array Bool) (s : ASt) (p : List α × Bool), (∀ j, lo[j]? = ops[k + j]?) → (∀ j c, cs[j]? = some c → cl (k + j) = c) →
  lexY md ops cl lo.length k listed = true → IOps E l enc xs ops K lo cs s p → anyI E l enc xs md ops cl K lo.length listed s p
 | [], [], _, _, _, _, _, _, hB, h => ⟨by simpa [lexY] using hB, h⟩
 | o :: lo, c :: cs, k, listed, s, p, hl, hc, hB, h => by
  have h0 : ops[k]? = some o := by simpa using (hl 0).symm
  have hc0 : cl k = c := by simpa using hc 0 c (by simp)
  simp only [List.length_cons, lexY, Bool.and_eq_true] at hB;obtain ⟨⟨hr, hf⟩, hB'⟩ := hB;subst hc0
  have hr : k ∈ Region.ready md ops listed := by simpa using hr
  have hx := IStep.mono (fun s' p' h2 => anyI_lex lo cs (k + 1) _ s' p' (fun j => by have := hl (j + 1); simpa [Nat.add_assoc, Nat.add_comm 1 j] using this)
    (fun j c hj => by have := hc (j + 1) c (by simpa using hj); simpa [Nat.add_assoc, Nat.add_comm 1 j] using this) hB' h2) h
  rw [Bool.or_eq_true] at hf
  rcases hf with hf | hf
  ·exact anyI_first h0 lo.length listed s p (freeY_spec h0 hf) hr hx
  ·refine ⟨fun h => (by rw [h] at hr; cases hr), fun j hj => ?_⟩;have := List.all_eq_true.1 hf j hj
   obtain rfl : j = k := by simpa using this
   unfold iOp;simp only [h0];exact hx
 | [], _ :: _, _, _, _, _, _, _, _, h => h.elim
 | _ :: _, [], _, _, _, _, _, _, _, h => h.elim
theorem IRel.draw {a : Act} {w : World} (h : IRel E C s p a w) : IRel E C s p a { w with drawn := w.drawn + 1 } := by
 obtain ⟨N, W1, k1, k2, k3, k4, k5, k6⟩ := h;exact ⟨N, W1, k1, k2, k3, k4, k5.draw, k6⟩
def lexOkY (ops : Array Oper) (cs : List (Option Cls)) : Bool := lexY .any ops (fun i => cs.getD i none) ops.size 0 (Array.replicate ops.size false)
theorem iw_drawY {id : Nat} (cs : List (Option Cls)) (hB : lexOkY ops cs = true) (h : IOps E l enc xs ops (Q .normal) ops.toList cs s p) (hmk : E.mks = false := by rfl) (hbw : E.bow = [] := by rfl) : IWp E C (.region id ops true) Q s p := by
 intro a w ha;refine wpIn_region_any E.orders ?_;have h1 := anyI_lex (md := .any) (cl := fun i => cs.getD i none) ops.toList cs 0 (Array.replicate ops.size false) s p (by simp) (fun j c hj => by simp [hj]) (by simpa [lexOkY] using hB) h;have h2 := anyI.sound (C := C) (Q := Q) hmk hbw _ _ s p h1 a _ ha.draw
 simpa using h2
end
end Go.Sim
set_option maxRecDepth 10000
namespace Go.Sim
open Go.Proofs
def arOne (i : Nat) (l : S2062) (own : List Int) (m : S1079) (b : Int) : Option S2068 := bif decide (b ≤ m.Moment) && decide (m.Moment < b + l.Length) then some ⟨(i : Nat), b, cntI own b l.Length⟩ else none
def dsL (m : S1079) : List Int := [m.Moment / 1440 - 1, m.Moment / 1440]
def arW (ms : List S1079) (m : S1079) (i : Nat) (l : S2062) (n : Nat) : List S2068 := ((dsL m).take n).flatMap fun d => (begL l d).filterMap (arOne i l (ofL l ms) m)
def arL (ms : List S1079) (m : S1079) : List S2062 → Nat → List S2068
 | [], _ => []
 | l :: t, i => (bif s2116 l m.Kind m.Terminal then arW ms m i l 2 else []) ++ arL ms m t (i + 1)
theorem ku197 : Tryz.prog.underlying 197 = some (.array 2 3) := by kernel_rfl
theorem kz197 : zeroK Tryz.prog 197 = some [.int .i64 0, .int .i64 0] := by kernel_rfl
theorem arW_succ (ms : List S1079) (m : S1079) (i : Nat) (l : S2062) {n : Nat} {d : Int} (h : (dsL m)[n]? = some d) : arW ms m i l (n + 1) = arW ms m i l n ++ (begL l d).filterMap (arOne i l (ofL l ms) m) := by
 unfold arW;rw [List.take_add_one, h, List.flatMap_append]; simp
theorem arW_cut (ms : List S1079) (m : S1079) (i : Nat) (l : S2062) {n : Nat} (h : n ≤ 2) : ∃ post, arW ms m i l 2 = arW ms m i l n ++ post := by
 unfold arW;refine ⟨((dsL m).drop n).flatMap fun d => (begL l d).filterMap (arOne i l (ofL l ms) m), ?_⟩;rw [← List.flatMap_append, List.take_append_drop]; rfl
theorem seq_around {g : List (Nat × List Value)} (a0 : List S2062) (a1 : List S1079) (m : S1079) (hl0 : a0.length ≤ 1000) (hl : ∀ x ∈ a0, LimOk x) (hm : MsOk a1) (hm0 : 0 ≤ m.Moment) (hm1 : m.Moment ≤ 143999999) :
  SeqN (EG g) 150 [G.ref [G.sl 11 (List.map S2062.c a0)], G.ref [G.int m.Moment, G.str m.Kind, G.str m.Terminal, G.int m.Seats, G.int m.Size, G.int m.Noise, G.str m.Name], G.ref [G.sl 7 (List.map S1079.c a1)]] winE (arL a1 m a0 0) := by
 refine seqN_of_iw Tryz.func150 rfl rfl rfl fun l C => ?_;refine iw_seq ?_;refine iw_region [.p] ?_;refine st rfl rfl (eff_box rfl rfl) rfl ?_;refine st_nil ?_;refine iw_seq ?_;refine iw_region [.p, .p, .p] ?_;refine st rfl rfl (eff_load rfl kty72 rfl) rfl ?_;refine st rfl rfl (eff_lenM (f := S2062.c) (l := a0) rfl Tryz.underlying72 rfl) rfl ?_;refine st rfl rfl (eff_moveg rfl rfl) rfl ?_;refine st_nil ?_;refine iw_block ?_;refine iw_loop_g (γ := Nat × List S2062 × List S2068) (fun g => [(1, .g (G.ref [G.sl 11 (List.map S2062.c a0)])), (2, .g (G.ref [G.int m.Moment, G.str m.Kind, G.str m.Terminal, G.int m.Seats, G.int m.Size, G.int m.Noise, G.str m.Name])), (3, .g (G.ref [G.sl 7 (List.map S1079.c a1)])), (4, .g (G.ref [G.lit (.func (.yield l) #[] #[])])), (11, .g (G.sl 11 (List.map S2062.c a0))), (12, .g (G.int (List.length a0 : Int))), (13, .g (G.int ((g.1 : Nat) : Int)))])
  (fun g => (g.2.2, false)) (fun g => a0.drop g.1 = g.2.1 ∧ g.2.2 ++ arL a1 m g.2.1 g.1 = arL a1 m a0 0) (fun g => List.length g.2.1) ⟨rfl, (0, a0, []), ⟨rfl, rfl, rfl, rfl, rfl, rfl, rfl, trivial⟩, rfl, rfl, ⟨rfl, rfl⟩, trivial⟩ ?_
 rintro ⟨k, tl, pre0⟩ ⟨hd, hR⟩;replace hd : a0.drop k = tl := hd;replace hR : pre0 ++ arL a1 m tl k = arL a1 m a0 0 := hR;refine iw_seq ?_;refine iw_region [.p] ?_;refine st rfl rfl (eff_lss rfl rfl rfl) rfl ?_;refine st_nil ?_;refine iw_seq ?_;refine iw_cond _ rfl (fun h1 => ?_) (fun h1 => ?_)
 ·replace h1 : (decide (((k : Nat) : Int) < (List.length a0 : Int))) = true := h1;obtain ⟨y, tl, rfl, hx1, hd⟩ := drop_cons hd (decT h1);replace h1 := decT h1;have hy : LimOk y := hl y (List.mem_of_getElem? hx1);rw [arL] at hR;have hlen := hm.len
  have hln : (List.length a0 : Int) ≤ 1000 := by have := hl0; omega
  refine iw_skip ?_;refine iw_seq ?_;refine iw_block ?_;refine iw_seq ?_;refine iw_region [.p, .p, .p, .w, .w, .w, .w] ?_;refine st rfl rfl (eff_moveg rfl rfl) rfl ?_;refine st rfl rfl (eff_ix (f := S2062.c) (l := a0) (a := y) rfl Tryz.underlying72 ty2063 rfl rfl (Int.natCast_nonneg _) hx1) rfl ?_;refine st rfl rfl (eff_loadA rfl ty2063 rfl rfl rfl) rfl ?_;refine st_w rfl rfl (eff_alloc 5 rfl z3 rfl rfl) rfl ?_;refine st_w rfl rfl (eff_alloc 6 rfl kz63 rfl rfl) rfl ?_;refine st_wn rfl rfl (eff_store (tv := .g (G.int ((k : Nat) : Int))) rfl ty3 rfl rfl rfl rfl rfl) ?_;refine st_wn rfl rfl (eff_store (tv := .g (G.agg (limG y))) rfl ty2063 rfl rfl rfl rfl rfl) ?_;refine st_nil ?_;refine iw_freeze (l1 := [(1, .g (G.ref [G.sl 11 (List.map S2062.c a0)])), (2, .g (G.ref [G.int m.Moment, G.str m.Kind, G.str m.Terminal, G.int m.Seats, G.int m.Size, G.int m.Noise, G.str m.Name])), (3, .g (G.ref [G.sl 7 (List.map S1079.c a1)])), (4, .g (G.ref [G.lit (.func (.yield l) #[] #[])])), (5, .g (G.ref [G.int ((k : Nat) : Int)])), (6, .ptr 6 0), (11, .g (G.sl 11 (List.map S2062.c a0))), (12, .g (G.int (List.length a0 : Int))), (13, .g (G.int ((k : Nat) : Int)))]) (m := [(6, .box [.g (G.str y.Name), .g (G.str y.Kind), .g (G.str y.Terminal), .g (G.int y.Length), .g (G.int y.Step), .g (G.int y.fFrom), .g (G.int y.fTo), .g (G.int y.Period.fFrom), .g (G.int y.Period.fTo), .g (G.int y.Period.Days), .g (G.int y.Most)])]) 5 rfl ⟨.inl ⟨rfl, rfl⟩, .inl ⟨rfl, rfl⟩, .inl ⟨rfl, rfl⟩, .inl ⟨rfl, rfl⟩, .inr (frz_box rfl), .inl ⟨rfl, rfl⟩, .inl ⟨rfl, rfl⟩, .inl ⟨rfl, rfl⟩, .inl ⟨rfl, rfl⟩, trivial⟩ ⟨rfl, trivial⟩ rfl rfl ?_;refine iw_freeze (l1 := [(1, .g (G.ref [G.sl 11 (List.map S2062.c a0)])), (2, .g (G.ref [G.int m.Moment, G.str m.Kind, G.str m.Terminal, G.int m.Seats, G.int m.Size, G.int m.Noise, G.str m.Name])), (3, .g (G.ref [G.sl 7 (List.map S1079.c a1)])), (4, .g (G.ref [G.lit (.func (.yield l) #[] #[])])), (5, .g (G.ref [G.int ((k : Nat) : Int)])), (6, .g (G.ref (limG y))), (11, .g (G.sl 11 (List.map S2062.c a0))), (12, .g (G.int (List.length a0 : Int))), (13, .g (G.int ((k : Nat) : Int)))]) (m := []) 6 rfl ⟨.inl ⟨rfl, rfl⟩, .inl ⟨rfl, rfl⟩, .inl ⟨rfl, rfl⟩, .inl ⟨rfl, rfl⟩, .inl ⟨rfl, rfl⟩, .inr (frz_box rfl), .inl ⟨rfl, rfl⟩, .inl ⟨rfl, rfl⟩, .inl ⟨rfl, rfl⟩, trivial⟩ trivial rfl rfl ?_;refine iw_seq ?_;refine iw_seq ?_;refine iw_region [.p, .p, .p, .p, .p, .p, .p] ?_;refine st rfl rfl (eff_loadA rfl ty2063 rfl rfl rfl) rfl ?_;refine st rfl rfl (eff_fieldAddr rfl fl1080_1 rfl) rfl ?_;refine st rfl rfl (eff_load rfl ty9 rfl) rfl ?_;refine st rfl rfl (eff_fieldAddr rfl fl1080_2 rfl) rfl ?_;refine st rfl rfl (eff_load rfl ty9 rfl) rfl ?_;refine st rfl rfl (eff_call rfl K2116 rfl (c2116 y m.Kind m.Terminal hy.k) (ag_cons rfl (ag_cons rfl (ag_cons rfl ag_nil)))) rfl ?_;refine st rfl rfl (eff_not rfl rfl) rfl ?_;refine st_nil ?_;refine iw_cond _ rfl (fun h2 => ?_) (fun h2 => ?_)
  ·have h2 : s2116 y m.Kind m.Terminal = false := by simpa using h2
   rw [h2] at hR;refine iw_exit ?_;refine iw_region [.p, .p] ?_;refine st rfl rfl (eff_add rfl rfl rfl (by (try dsimp only); unfold I64; omega)) rfl ?_;refine st rfl rfl (eff_moveg rfl rfl) rfl ?_;refine st_nil ?_;refine ⟨rfl, (k + 1, tl, pre0), ⟨rfl, rfl, rfl, rfl, rfl, rfl, rfl, trivial⟩, rfl, rfl, ⟨hd, ?_⟩, ?_⟩
   ·simpa using hR
   ·simp
  ·have h2 : s2116 y m.Kind m.Terminal = true := by simpa using h2
   rw [h2] at hR;replace hR : pre0 ++ (arW a1 m k y 2 ++ arL a1 m tl (k + 1)) = arL a1 m a0 0 := hR;refine iw_skip ?_;refine iw_seq ?_;refine iw_region [.p, .p, .p, .w, .w] ?_;refine st rfl rfl (eff_loadA rfl ty2063 rfl rfl rfl) rfl ?_;refine st rfl rfl (eff_load rfl kty25 rfl) rfl ?_;refine st rfl rfl (eff_call rfl kE61 rfl (c2061 y a1 hy.k hm.sz hm.len) (ag_cons rfl (ag_cons rfl ag_nil))) rfl ?_;refine st_w rfl rfl (eff_alloc 7 rfl kz122 rfl rfl) rfl ?_;refine st_wn rfl rfl (eff_store (tv := .g (G.sl 1 (List.map cInt (ofL y a1)))) rfl kty122 rfl rfl rfl rfl rfl) ?_;refine st_nil ?_;refine iw_freeze (l1 := [(1, .g (G.ref [G.sl 11 (List.map S2062.c a0)])), (2, .g (G.ref [G.int m.Moment, G.str m.Kind, G.str m.Terminal, G.int m.Seats, G.int m.Size, G.int m.Noise, G.str m.Name])), (3, .g (G.ref [G.sl 7 (List.map S1079.c a1)])), (4, .g (G.ref [G.lit (.func (.yield l) #[] #[])])), (5, .g (G.ref [G.int ((k : Nat) : Int)])), (6, .g (G.ref (limG y))), (7, .g (G.ref [G.sl 1 (List.map cInt (ofL y a1))])), (11, .g (G.sl 11 (List.map S2062.c a0))), (12, .g (G.int (List.length a0 : Int))), (13, .g (G.int ((k : Nat) : Int)))]) (m := []) 7 rfl ⟨.inl ⟨rfl, rfl⟩, .inl ⟨rfl, rfl⟩, .inl ⟨rfl, rfl⟩, .inl ⟨rfl, rfl⟩, .inl ⟨rfl, rfl⟩, .inl ⟨rfl, rfl⟩, .inr (frz_box rfl), .inl ⟨rfl, rfl⟩, .inl ⟨rfl, rfl⟩, .inl ⟨rfl, rfl⟩, trivial⟩ trivial rfl rfl ?_;refine iw_seq ?_;refine iw_region [.p, .p, .p, .p, .p, .p, .p, .p, .p] ?_;refine st rfl rfl (eff_fieldAddr rfl fl1080_0 rfl) rfl ?_;refine st rfl rfl (eff_load rfl ty3 rfl) rfl ?_;refine st rfl rfl (eff_quo rfl rfl rfl hm0 (by decide) (by unfold I64; omega)) rfl ?_;refine st rfl rfl (eff_sub rfl rfl rfl (by (try dsimp only); unfold I64; omega)) rfl ?_;refine st rfl rfl (eff_fieldAddr rfl fl1080_0 rfl) rfl ?_;refine st rfl rfl (eff_load rfl ty3 rfl) rfl ?_;refine st rfl rfl (eff_quo rfl rfl rfl hm0 (by decide) (by unfold I64; omega)) rfl ?_;refine st rfl rfl (eff_buildA rfl kz197 rfl ku197 ty3 (pb_cons rfl (pb_cons rfl pb_nil)) rfl) rfl ?_;refine st rfl rfl (eff_moveg rfl rfl) rfl ?_;refine st_nil ?_;refine iw_block ?_;refine iw_loop_g (γ := Nat) (fun n => [(1, .g (G.ref [G.sl 11 (List.map S2062.c a0)])), (2, .g (G.ref [G.int m.Moment, G.str m.Kind, G.str m.Terminal, G.int m.Seats, G.int m.Size, G.int m.Noise, G.str m.Name])), (3, .g (G.ref [G.sl 7 (List.map S1079.c a1)])), (4, .g (G.ref [G.lit (.func (.yield l) #[] #[])])), (5, .g (G.ref [G.int ((k : Nat) : Int)])), (6, .g (G.ref (limG y))), (7, .g (G.ref [G.sl 1 (List.map cInt (ofL y a1))])), (11, .g (G.sl 11 (List.map S2062.c a0))), (12, .g (G.int (List.length a0 : Int))), (13, .g (G.int ((k : Nat) : Int))), (35, .g (G.agg [G.int (m.Moment / 1440 - 1), G.int (m.Moment / 1440)])), (36, .g (G.int ((n : Nat) : Int)))])
    (fun n => (pre0 ++ arW a1 m k y n, false)) (fun n => n ≤ 2) (fun n => 2 - n) ⟨rfl, 0, ⟨rfl, rfl, rfl, rfl, rfl, rfl, rfl, rfl, rfl, rfl, rfl, rfl, trivial⟩, rfl, by simp [arW], Nat.zero_le _, trivial⟩ ?_
   intro n hn;refine iw_seq ?_;refine iw_region [.p] ?_;refine st rfl rfl (eff_lss rfl rfl rfl) rfl ?_;refine st_nil ?_;refine iw_seq ?_;refine iw_cond _ rfl (fun h3 => ?_) (fun h3 => ?_)
   ·replace h3 : (decide (((n : Nat) : Int) < 2)) = true := h3;replace h3 := decT h3
    obtain ⟨d, hd1, hd2⟩ : ∃ d, (dsL m)[n]? = some d ∧ ([G.int (m.Moment / 1440 - 1), G.int (m.Moment / 1440)] : List G)[((n : Nat) : Int).toNat]? = some (G.int d) := by
     have : n = 0 ∨ n = 1 := by omega
     rcases this with rfl | rfl
     ·exact ⟨_, rfl, rfl⟩
     ·exact ⟨_, rfl, rfl⟩
    obtain ⟨post0, hpost⟩ := arW_cut a1 m k y (n := n + 1) (by omega);rw [arW_succ a1 m k y hd1] at hpost;refine iw_skip ?_;refine iw_seq ?_;refine iw_block ?_;refine iw_seq ?_;refine iw_region [.p, .p] ?_;refine st rfl rfl (eff_ixC rfl ku197 ty3 rfl rfl (Int.natCast_nonneg _) (by omega) hd2) rfl ?_;refine st rfl rfl (eff_assigng rfl rfl) rfl ?_;refine st_nil ?_;refine iw_seq ?_;refine iw_region [.p, .p, .p] ?_;refine st rfl rfl (eff_loadA rfl ty2063 rfl rfl rfl) rfl ?_;refine st rfl rfl (eff_moveg rfl rfl) rfl ?_;refine st rfl rfl (eff_call rfl kB60 rfl (c2060 y d) (ag_cons rfl (ag_cons rfl ag_nil))) rfl ?_;refine st_nil ?_;refine iw_block ?_;refine iw_rangeC (begL y d) [(1, .g (G.ref [G.sl 11 (List.map S2062.c a0)])), (2, .g (G.ref [G.int m.Moment, G.str m.Kind, G.str m.Terminal, G.int m.Seats, G.int m.Size, G.int m.Noise, G.str m.Name])), (3, .g (G.ref [G.sl 7 (List.map S1079.c a1)])), (4, .g (G.ref [G.lit (.func (.yield l) #[] #[])])), (5, .g (G.ref [G.int ((k : Nat) : Int)])), (6, .g (G.ref (limG y))), (7, .g (G.ref [G.sl 1 (List.map cInt (ofL y a1))])), (11, .g (G.sl 11 (List.map S2062.c a0))), (12, .g (G.int (List.length a0 : Int))), (13, .g (G.int ((k : Nat) : Int))), (35, .g (G.agg [G.int (m.Moment / 1440 - 1), G.int (m.Moment / 1440)])), (36, .g (G.int ((n : Nat) : Int))), (41, .g (G.fn (.func 114) [] [G.ref [G.int d], G.ref (limG y)]))]
     (fun q => (pre0 ++ arW a1 m k y n) ++ q.filterMap (arOne k y (ofL y a1) m)) G.int (fun t z => updO (some 10) (.g (G.int z)) (upd 42 (.g (G.int z)) t)) rfl ⟨rfl, rfl, rfl, rfl, rfl, rfl, rfl, rfl, rfl, rfl, rfl, rfl, rfl, trivial⟩ rfl (by simp) kB114 rfl rfl
     (seq_begins y d (by have := hy.s0; omega)) (fun _ _ _ => rfl) ?_ ?_ ?_ ?_
    ·intro z pre lp C';refine iw_region [.p] ?_;refine st rfl rfl (eff_assigng rfl rfl) rfl ?_;refine st_nil ?_;exact ⟨rfl, rfl, rfl⟩
    ·intro q z post hq lp C';have hz := begL_rng hy (d := d) (b := z) (by rw [hq]; simp);have hp0 := hy.p0;have hp1 := hy.p1;have hl0' := hy.l0;have hl1' := hy.l1;refine iw_block ?_;refine iw_seq ?_;refine iw_drawY [some .p, some .p, some .p, some .p, some .p, some .p, some .p, some .p, some .p, some .p, some .p, some .p, some .p, some .p, some .p, some .p, some .p, some .p, some .p, some .p, some .p, some .p, some .p, none, some .p, some .p] (by kernel_rfl) ?_;refine ist (st rfl rfl (eff_moveg rfl rfl) rfl (st_nil ?_));refine ist (st rfl rfl (eff_fieldAddr rfl fl1080_0 rfl) rfl (st_nil ?_));refine ist (st rfl rfl (eff_load rfl ty3 rfl) rfl (st_nil ?_));refine ist (st rfl rfl (eff_leq rfl rfl rfl) rfl (st_nil ?_));refine ist (st rfl rfl (eff_moveg rfl rfl) rfl (st_nil ?_));refine ist (st_g rfl rfl rfl (gb_bool _ _) (fun h => eff_fieldAddr rfl fl1080_0 rfl) rfl (st_nil ?_));refine ist (st_g rfl rfl rfl (gb_bool _ _) (fun h => eff_load rfl ty3 (gd h rfl)) rfl (st_nil ?_));refine ist (st_g rfl rfl rfl (gb_bool _ _) (fun h => eff_moveg rfl rfl) rfl (st_nil ?_));refine ist (st_g rfl rfl rfl (gb_bool _ _) (fun h => eff_fieldAddr rfl fl2063_3 rfl) rfl (st_nil ?_));refine ist (st_g rfl rfl rfl (gb_bool _ _) (fun h => eff_load rfl ty3 (gd h rfl)) rfl (st_nil ?_));refine ist (st_g rfl rfl rfl (gb_bool _ _) (fun h => eff_add rfl (gd h rfl) (gd h rfl) (by (try dsimp only); unfold I64; omega)) rfl (st_nil ?_));refine ist (st_g rfl rfl rfl (gb_bool _ _) (fun h => eff_lss rfl (gd h rfl) (gd h rfl)) rfl (st_nil ?_));refine ist (st rfl rfl (eff_and rfl rfl rfl rfl) rfl (st_nil ?_));refine ist (st rfl rfl (eff_moveg rfl rfl) rfl (st_nil ?_));have hex : arOne k y (ofL y a1) m z = bif decide (z ≤ m.Moment) && decide (m.Moment < z + y.Length) then some ⟨(k : Nat), z, cntI (ofL y a1) z y.Length⟩ else none := rfl
     revert hex
     generalize (decide (z ≤ m.Moment) && decide (m.Moment < z + y.Length)) = c;intro hex;refine ist (st_g rfl rfl rfl (gb_bool _ _) (fun h => eff_load rfl kty152 rfl) rfl (st_nil ?_));refine ist (st_g rfl rfl rfl (gb_bool _ _) (fun h => eff_load rfl ty3 rfl) rfl (st_nil ?_));refine ist (st_g rfl rfl rfl (gb_bool _ _) (fun h => eff_moveg rfl rfl) rfl (st_nil ?_));refine ist (st_g rfl rfl rfl (gb_bool _ _) (fun h => eff_load rfl kty122 rfl) rfl (st_nil ?_));refine ist (st_g rfl rfl rfl (gb_bool _ _) (fun h => eff_moveg rfl rfl) rfl (st_nil ?_));refine ist (st_g rfl rfl rfl (gb_bool _ _) (fun h => eff_fieldAddr rfl fl2063_3 rfl) rfl (st_nil ?_));refine ist (st_g rfl rfl rfl (gb_bool _ _) (fun h => eff_load rfl ty3 (gd h rfl)) rfl (st_nil ?_));refine ist (st_g rfl rfl rfl (gb_bool _ _) (fun h => eff_call rfl kE62 rfl (c2062 (ofL y a1) z y.Length (ofL_len hm y) (s2062_ok (ofL_sorted hm y) (ofL_len hm y) (by omega) (by omega) (by omega) hl1')) (ag_cons (gd h rfl) (ag_cons (gd h rfl) (ag_cons (gd h rfl) ag_nil)))) rfl (st_nil ?_));refine ist (st_g rfl rfl rfl (gb_bool _ _) (fun h => eff_build rfl z2069 rfl kpl69 (pb_cons (gd h rfl) (pb_cons (gd h rfl) (pb_cons (gd h rfl) pb_nil))) rfl) rfl (st_nil ?_))
     cases c with
     | false =>
      refine iy_g false rfl rfl rfl (gb_bool _ _) rfl rfl (fun _ => ?_) (fun h => by cases h);refine ist (st_g (gb := false) (r := .g (G.bool false)) rfl rfl rfl (gb_bool _ _) (fun h => by cases h) rfl (st_nil ?_));refine ist (st rfl rfl (eff_pick rfl rfl rfl) rfl (st_nil ?_));refine ist_nil ?_;refine iw_cond false rfl (fun h4 => by cases h4) (fun h4 => ?_);refine iw_skip ?_;show (_, _) = (_, _);rw [List.filterMap_append]
      simp [hex]
     | true =>
      refine iy_g true rfl rfl rfl (gb_bool _ _) rfl rfl (fun h => by cases h) (fun _ => ⟨rfl, rfl, ⟨(k : Nat), z, cntI (ofL y a1) z y.Length⟩, post.filterMap (arOne k y (ofL y a1) m) ++ (post0 ++ arL a1 m tl (k + 1)), (fun w M ρ v h => winG_eq h), ?_, fun b => ?_⟩)
      ·rw [← hR, hpost, hq, List.filterMap_append, List.filterMap_cons, hex]; simp
      refine ist (st_g (gb := true) rfl rfl rfl (gb_bool _ _) (fun h => eff_not rfl rfl) rfl (st_nil ?_));refine ist (st rfl rfl (eff_pick rfl rfl rfl) rfl (st_nil ?_));refine ist_nil ?_;refine iw_cond (!b) rfl (fun h4 => ?_) (fun h4 => ?_)
      ·refine iw_ret ?_;exact h4
      ·have hb : b = true := by simpa using h4
       subst hb;refine iw_skip ?_;show (_, _) = (_, _);rw [List.filterMap_append]
       simp [hex]
    ·refine iw_region [.p, .p] ?_;refine st rfl rfl (eff_add rfl rfl rfl (by (try dsimp only); unfold I64; omega)) rfl ?_;refine st rfl rfl (eff_moveg rfl rfl) rfl ?_;refine st_nil ?_;refine ⟨rfl, n + 1, ⟨rfl, rfl, rfl, rfl, rfl, rfl, rfl, rfl, rfl, rfl, rfl, rfl, trivial⟩, rfl, ?_, ?_, ?_⟩
     ·show _ = (pre0 ++ arW a1 m k y (n + 1), false);rw [arW_succ a1 m k y hd1, List.append_assoc]
     ·show n + 1 ≤ 2; omega
     ·show 2 - (n + 1) < 2 - n; omega
    ·intro pre;exact .inl rfl
   ·replace h3 : (decide (((n : Nat) : Int) < 2)) = false := h3;replace h3 := decF h3
    obtain rfl : n = 2 := by omega
    refine iw_exit ?_;refine iw_region [.p, .p] ?_;refine st rfl rfl (eff_add rfl rfl rfl (by (try dsimp only); unfold I64; omega)) rfl ?_;refine st rfl rfl (eff_moveg rfl rfl) rfl ?_;refine st_nil ?_;refine ⟨rfl, (k + 1, tl, pre0 ++ arW a1 m k y 2), ⟨rfl, rfl, rfl, rfl, rfl, rfl, rfl, trivial⟩, rfl, rfl, ⟨hd, ?_⟩, ?_⟩
    ·rw [← hR]; simp
    ·simp
 ·replace h1 : (decide (((k : Nat) : Int) < (List.length a0 : Int))) = false := h1;obtain rfl := drop_nil hd (decF h1);refine iw_exit ?_;refine .inr ?_;rw [← hR]; simp [arL]
theorem f56_zero : ∀ {l : List Int} (k : Nat), s2056_l1 l k = 0 ↔ ∀ x ∈ l, x = 0
 | [], k => by simp [s2056_l1]
 | y :: t, k => by
  rw [s2056_l1]
  by_cases h : y = 0
  ·subst h; simp [f56_zero (l := t) (k + 1)]
  ·simp [h]
theorem s2056_zero {l : List Int} : s2056 l = 0 ↔ ∀ x ∈ l, x = 0 := f56_zero 0
theorem s2067_zero {b : Bool} {e : Int} (he : e ≠ 0) : s2067 b e = 0 ↔ b = false := by
 unfold s2067; cases b <;> simp [he]
theorem s2059_zero {n lo hi : Int} : s2059 n lo hi = 0 ↔ lo ≤ n ∧ n ≤ hi := by
 unfold s2059; rw [s2067_zero (by decide)]; simp
theorem s2070_zero {s : ByteArray} : s2070 s = 0 ↔ s = (⟨#[]⟩ : ByteArray) ∨ s147 s = true := by
 unfold s2070; rw [s2067_zero (by decide)]
 by_cases h : s = (⟨#[]⟩ : ByteArray)
 ·simp [h]
 ·simp [h]
theorem s2069_zero {s : ByteArray} : s2069 s = 0 ↔ s = (⟨#[65]⟩ : ByteArray) ∨ s = (⟨#[68]⟩ : ByteArray) := by
 unfold s2069; rw [s2067_zero (by decide)]
 by_cases h : s = (⟨#[65]⟩ : ByteArray)
 ·simp [h]
 ·simp [h]
theorem name_size {s : ByteArray} (h : s147 s = true) : s.size ≤ 24 := by
 unfold s147 at h
 cases hc : ((decide ((ByteArray.size s : Int) = 0)) || (decide (24 < (ByteArray.size s : Int)))) with
 | true => rw [hc] at h; cases h
 | false => simp at hc; omega
theorem s2057_zero {a : S2062} : s2057 a = 0 ↔ s147 a.Name = true ∧ mhas kindL a.Kind = true ∧ (a.Terminal = (⟨#[]⟩ : ByteArray) ∨ s147 a.Terminal = true) ∧ (1 ≤ a.Length ∧ a.Length ≤ 1440) ∧ (1 ≤ a.Step ∧ a.Step ≤ 1440) ∧ (0 ≤ a.fFrom ∧ a.fFrom ≤ 1439) ∧ (0 ≤ a.fTo ∧ a.fTo ≤ 1439) ∧ a.fFrom ≤ a.fTo ∧ s102 a.Period = 0 ∧ (0 ≤ a.Most ∧ a.Most ≤ 999999999) := by
 unfold s2057;rw [s2056_zero];simp only [List.mem_cons, List.not_mem_nil, or_false, forall_eq_or_imp, forall_eq, s2059_zero, s2070_zero, s2067_zero (e := 8) (by decide), s2067_zero (e := 13) (by decide), s2067_zero (e := 11) (by decide), Bool.not_eq_false', decide_eq_false_iff_not, Int.not_lt]
theorem lim_ok {a : S2062} (h : s2057 a = 0) : LimOk a := by
 obtain ⟨_, h1, _, h2, h3, h4, h5, _, h6, h7⟩ := s2057_zero.1 h;have h8 := period_ok _ h6;refine ⟨?_, h3.1, h3.2, h2.1, h2.2, h4.1, h4.2, h5.1, h5.2, h8.1, by omega, h7.1, h7.2⟩;unfold mhas at h1;unfold mgetD
 cases hq : mget kindL a.Kind with
 | none => rw [hq] at h1; cases h1
 | some v =>
  have : a.Kind = (⟨#[65]⟩ : ByteArray) ∨ a.Kind = (⟨#[68]⟩ : ByteArray) ∨ a.Kind = (⟨#[84]⟩ : ByteArray) := by
   have := mget_mem hq;simp only [kindL, List.mem_cons, Prod.mk.injEq, List.not_mem_nil, or_false] at this
   rcases this with h | h | h
   ·exact .inl h.1
   ·exact .inr (.inl h.1)
   ·exact .inr (.inr h.1)
  have := kind_some.2 this;unfold mgetD at this;rw [hq] at this;exact this
theorem lims_zero : ∀ {all t : List S2062} {k : Nat}, s2099_l1 all t k = 0 → ∀ x ∈ t, s2057 x = 0
 | all, [], k, _, x, hx => by cases hx
 | all, y :: t, k, h, x, hx => by
  rw [s2099_l1] at h
  by_cases hc : s2056 [(s2057 y), (s2067 (decide (0 ≤ (s2138 (List.take (Int.toNat ((k : Nat) : Int)) all) y.Name))) 9)] = 0
  ·rw [decide_eq_false (by simpa using hc), cond_false] at h
   rcases List.mem_cons.1 hx with rfl | hx
   ·exact s2056_zero.1 hc _ (by simp)
   ·exact lims_zero h x hx
  ·rw [decide_eq_true hc, cond_true] at h;exact absurd h hc
theorem lims_ok {a0 : List S2062} (h : s2099 a0 = 0) : a0.length ≤ 32 ∧ ∀ x ∈ a0, LimOk x := by
 unfold s2099 at h
 by_cases hc : 32 < (List.length a0 : Int)
 ·rw [decide_eq_true hc, cond_true] at h; cases h
 ·rw [decide_eq_false hc, cond_false] at h;exact ⟨by omega, fun x hx => lim_ok (lims_zero h x hx)⟩
structure MvOk (m : S1079) : Prop where
 m0 : 0 ≤ m.Moment
 m1 : m.Moment ≤ 143999999
 k : m.Kind = (⟨#[65]⟩ : ByteArray) ∨ m.Kind = (⟨#[68]⟩ : ByteArray)
 t : m.Terminal = (⟨#[]⟩ : ByteArray) ∨ s147 m.Terminal = true
 s0 : 0 ≤ m.Seats
 s1 : m.Seats ≤ 999
 z0 : 0 ≤ m.Size
 z1 : m.Size ≤ 9
 n0 : 0 ≤ m.Noise
 n1 : m.Noise ≤ 99
 nm : s147 m.Name = true
theorem s2072_zero {a b c : Int} : s2072 a b c = 0 ↔ (0 ≤ a ∧ a ≤ 999) ∧ (0 ≤ b ∧ b ≤ 9) ∧ (0 ≤ c ∧ c ≤ 99) := by
 unfold s2072;rw [s2056_zero];simp only [List.mem_cons, List.not_mem_nil, or_false, forall_eq_or_imp, forall_eq, s2059_zero]
theorem mv_zero {m : S1079} : s2064 m = 0 ↔ MvOk m := by
 unfold s2064;rw [s2056_zero];simp only [List.mem_cons, List.not_mem_nil, or_false, forall_eq_or_imp, forall_eq, s2059_zero, s2069_zero, s2070_zero, s2072_zero, s2067_zero (e := 8) (by decide), Bool.not_eq_false'];exact ⟨fun ⟨h1, h2, h3, ⟨h4, h5, h6⟩, h7⟩ => ⟨h1.1, h1.2, h2, h3, h4.1, h4.2, h5.1, h5.2, h6.1, h6.2, h7⟩, fun h => ⟨⟨h.m0, h.m1⟩, h.k, h.t, ⟨⟨h.s0, h.s1⟩, ⟨h.z0, h.z1⟩, ⟨h.n0, h.n1⟩⟩, h.nm⟩⟩
def ascM : Option Int → List S1079 → Prop
 | _, [] => True
 | p, y :: t => (∀ x, p = some x → x ≤ y.Moment) ∧ ascM (some y.Moment) t
theorem ascM_low : ∀ {t : List S1079} {x : Int}, ascM (some x) t → ∀ y ∈ t, x ≤ y.Moment
 | [], _, _, y, hy => by cases hy
 | z :: t, x, h, y, hy => by
  rcases List.mem_cons.1 hy with rfl | hy
  ·exact h.1 x rfl
  ·exact Int.le_trans (h.1 x rfl) (ascM_low h.2 y hy)
theorem ascM_srt : ∀ {t : List S1079} {p : Option Int}, ascM p t → (t.map S1079.Moment).Pairwise (· ≤ ·)
 | [], _, _ => .nil
 | y :: t, p, h => by
  rw [List.map_cons, List.pairwise_cons]
  exact ⟨fun z hz => by
   obtain ⟨m, hm, rfl⟩ := List.mem_map.1 hz
   exact ascM_low h.2 m hm, ascM_srt h.2⟩
theorem srt_ascM : ∀ {t : List S1079} {p : Option Int}, (∀ x, p = some x → ∀ y ∈ t, x ≤ y.Moment) → (t.map S1079.Moment).Pairwise (· ≤ ·) → ascM p t
 | [], _, _, _ => trivial
 | y :: t, p, h, hs => by
  rw [List.map_cons, List.pairwise_cons] at hs;exact ⟨fun x hx => h x hx y List.mem_cons_self, srt_ascM (fun x hx z hz => by cases hx; exact hs.1 _ (List.mem_map_of_mem hz)) hs.2⟩
theorem mvs_l1 : ∀ (t pre : List S1079), (pre ++ t).length ≤ 30000 → (s2058_l1 (pre ++ t) t pre.length = some 0 ↔ (∀ m ∈ t, MvOk m) ∧ ascM (pre.getLast?.map S1079.Moment) t)
 | [], pre, _ => by simp [s2058_l1, ascM]
 | y :: t, pre, hl => by
  rw [s2058_l1];have ih := mvs_l1 t (pre ++ [y]) (by simpa using hl)
  have e1 : pre ++ [y] ++ t = pre ++ y :: t := by simp
  have e2 : (pre ++ [y]).length = pre.length + 1 := by simp
  have e3 : (pre ++ [y]).getLast? = some y := by simp
  rw [e1, e2, e3] at ih;have key : ∀ (y5 : S1079) (b : Bool), (b = true ↔ (0 < pre.length ∧ y.Moment < y5.Moment)) → (0 < pre.length → pre.getLast? = some y5) →
    ((bif decide ((s2056 [(s2064 y), (s2067 b 11)]) ≠ 0) then some (s2056 [(s2064 y), (s2067 b 11)]) else s2058_l1 (pre ++ y :: t) t (pre.length + 1)) = some 0 ↔ (∀ m ∈ y :: t, MvOk m) ∧ ascM (pre.getLast?.map S1079.Moment) (y :: t)) := by
   intro y5 b hb hg
   have hz : s2056 [(s2064 y), (s2067 b 11)] = 0 ↔ MvOk y ∧ b = false := by
    rw [s2056_zero];simp only [List.mem_cons, List.not_mem_nil, or_false, forall_eq_or_imp, forall_eq, mv_zero, s2067_zero (e := 11) (by decide)]
   have hasc : (∀ x, pre.getLast?.map S1079.Moment = some x → x ≤ y.Moment) ↔ b = false := by
    by_cases hp : 0 < pre.length
    ·rw [hg hp];simp only [Option.map_some, Option.some.injEq, forall_eq'];rw [← Bool.not_eq_true, hb]
     constructor
     ·intro h k; omega
     ·intro h; have := fun q => h ⟨hp, q⟩; omega
    ·have : pre = [] := by
      cases pre with
      | nil => rfl
      | cons => simp at hp
     subst this;rw [← Bool.not_eq_true, hb]
     simp
   by_cases hc : s2056 [(s2064 y), (s2067 b 11)] = 0
   ·rw [decide_eq_false (by simpa using hc), cond_false, ih];obtain ⟨c1, c2⟩ := hz.1 hc;simp only [List.mem_cons, forall_eq_or_imp, ascM, hasc, c1, c2, true_and, Option.map_some]
   ·rw [decide_eq_true hc, cond_true]
    constructor
    ·intro h; exact absurd (Option.some.inj h) hc
    ·rintro ⟨h1, h2⟩;exact absurd (hz.2 ⟨h1 y List.mem_cons_self, hasc.1 h2.1⟩) hc
  by_cases hp : 0 < pre.length
  ·have hlen : pre.length ≤ 30000 := by simp at hl; omega
   have e : max 0 (IntKind.i64.wrap (((pre.length : Nat) : Int) - 1)) = ((pre.length - 1 : Nat) : Int) := by
    rw [wrap_i64 (by unfold I64; omega)]; omega
   rw [decide_eq_true (by omega : (0 : Int) < ((pre.length : Nat) : Int)), cond_true, e, ixO_at (by simp; omega), List.getElem_append_left (by omega : pre.length - 1 < pre.length)];simp only [bindO, Bool.true_and];refine key (pre[pre.length - 1]'(by omega)) _ ?_ (fun _ => ?_)
   ·simp [hp]
   ·rw [List.getLast?_eq_getElem?, List.getElem?_eq_getElem (by omega)]
  ·have e0 : pre.length = 0 := by omega
   rw [decide_eq_false (by omega : ¬ (0 : Int) < ((pre.length : Nat) : Int)), cond_false];simp only [bindO, Bool.false_and];exact key default false (by simp; omega) (fun h => absurd h hp)
theorem mvs_zero {l : List S1079} (hl : l.length ≤ 30000) : s2058 l = some 0 ↔ (∀ m ∈ l, MvOk m) ∧ (l.map S1079.Moment).Pairwise (· ≤ ·) := by
 unfold s2058;rw [decide_eq_false (by omega), cond_false];have := mvs_l1 l [] (by simpa using hl);rw [show s2058_l1 l l 0 = s2058_l1 ([] ++ l) l ([] : List S1079).length from rfl, this]
 constructor
 ·rintro ⟨h1, h2⟩; exact ⟨h1, ascM_srt h2⟩
 ·rintro ⟨h1, h2⟩; exact ⟨h1, srt_ascM (fun x hx => by cases hx) h2⟩
theorem ms_ok {l : List S1079} (hl : l.length ≤ 1000) (h : s2058 l = some 0) : MsOk l ∧ ∀ m ∈ l, MvOk m := by
 obtain ⟨h1, h2⟩ := (mvs_zero (by omega)).1 h;refine ⟨⟨hl, fun m hm => ?_, h2⟩, h1⟩;have := h1 m hm;refine ⟨?_, ?_⟩
 ·rcases this.k with h | h <;> rw [h] <;> decide
 ·rcases this.t with h | h
  ·rw [h]; decide
  ·have := name_size h; omega
end Go.Sim
set_option maxRecDepth 10000
namespace Go.Sim
open Go.Proofs
theorem c2051 {g : List (Nat × List Value)} (a0 : List S2062) (a1 : List S1079) : Con (EG g) 51 [G.sl 11 (List.map S2062.c a0), G.sl 7 (List.map S1079.c a1)] (G.fn (.func 100) [] [G.ref [G.sl 11 (List.map S2062.c a0)], G.ref [G.sl 7 (List.map S1079.c a1)]]) := by
 refine con_of_aw Tryz.func51 rfl rfl fun w0 M0 => ?_;refine aw_seq ?_;refine aw_region [.p, .p, .p] ?_;refine st rfl rfl (eff_box rfl rfl) rfl ?_;refine st rfl rfl (eff_box rfl rfl) rfl ?_;refine st rfl rfl (eff_assigng rfl rfl) rfl ?_;refine st_nil ?_;refine aw_seq ?_;refine aw_region [.p, .p] ?_;refine st rfl rfl (eff_makeF rfl rfl rfl) rfl ?_;refine st rfl rfl (eff_assigng rfl rfl) rfl ?_;refine st_nil ?_;refine aw_ret ?_;exact res_c rfl (rv_g rfl)
theorem c2118 {g : List (Nat × List Value)} (a0 : List S2062) (a1 : List S1079) (m : S1079) : Con (EG g) 118 [G.sl 11 (List.map S2062.c a0), G.sl 7 (List.map S1079.c a1), G.agg [G.int m.Moment, G.str m.Kind, G.str m.Terminal, G.int m.Seats, G.int m.Size, G.int m.Noise, G.str m.Name]]
  (G.fn (.func 150) [] [G.ref [G.sl 11 (List.map S2062.c a0)], G.ref [G.int m.Moment, G.str m.Kind, G.str m.Terminal, G.int m.Seats, G.int m.Size, G.int m.Noise, G.str m.Name], G.ref [G.sl 7 (List.map S1079.c a1)]]) := by
 refine con_of_aw Tryz.func118 rfl rfl fun w0 M0 => ?_;refine aw_seq ?_;refine aw_region [.p, .p, .p, .p] ?_;refine st rfl rfl (eff_box rfl rfl) rfl ?_;refine st rfl rfl (eff_box rfl rfl) rfl ?_;refine st rfl rfl (eff_box rfl rfl) rfl ?_;refine st rfl rfl (eff_assigng rfl rfl) rfl ?_;refine st_nil ?_;refine aw_seq ?_;refine aw_region [.p, .p] ?_;refine st rfl rfl (eff_makeF rfl rfl rfl) rfl ?_;refine st rfl rfl (eff_assigng rfl rfl) rfl ?_;refine st_nil ?_;refine aw_ret ?_;exact res_c rfl (rv_g rfl)
end Go.Sim
set_option maxRecDepth 10000
namespace Go.Sim
open Go.Proofs
def s2050 (a0 : List S2062) (a1 : List S1079) : Option Int :=
 bindO (s2058 a1) fun r1 => some (s2056 [(s2099 a0), r1])
theorem c2050 {g : List (Nat × List Value)} (a0 : List S2062) (a1 : List S1079) {R : Int}   (hR : s2050 a0 a1 = some R) : Con (EG g) 50 [G.sl 11 (List.map S2062.c a0), G.sl 7 (List.map S1079.c a1)] (G.int R) := by
 unfold s2050 at hR;refine con_of_aw Tryz.func50 rfl rfl fun w0 M0 => ?_;refine len_sl (f := S2062.c) (l := a0) 0 rfl fun hla0 => ?_;refine len_sl (f := S1079.c) (l := a1) 1 rfl fun hla1 => ?_;refine aw_seq ?_;refine aw_region [.p] ?_;refine st rfl rfl (eff_assigng rfl rfl) rfl ?_;refine st_nil ?_;refine aw_seq ?_;obtain ⟨r1, br1, hR⟩ := bindO_inv hR;refine aw_region [.p, .p, .p, .p, .p, .p, .p] ?_;refine st rfl rfl (eff_moveg rfl rfl) rfl ?_;refine st rfl rfl (eff_call rfl K2099 rfl (c2099 a0) (ag_cons rfl ag_nil)) rfl ?_;refine st rfl rfl (eff_moveg rfl rfl) rfl ?_;refine st rfl rfl (eff_call rfl K2058 rfl (c2058 a1 br1) (ag_cons rfl ag_nil)) rfl ?_;refine st rfl rfl (eff_buildSlice rfl Tryz.underlying131 ty37 z37 rfl (ps_cons rfl (ps_cons rfl ps_nil)) rfl (by simp []) (by decide)) rfl ?_;refine st rfl rfl (eff_call rfl K2056 rfl (c2056 [(s2099 a0), r1]) (ag_cons rfl ag_nil)) rfl ?_;refine st rfl rfl (eff_assigng rfl rfl) rfl ?_;refine st_nil ?_;refine aw_ret ?_;obtain rfl := Option.some.inj hR;exact res_c rfl (rv_g rfl)
theorem both_eq {a0 : List S2062} {a1 : List S1079} {r : Int} (h : s2050 a0 a1 = some r) : ∃ r1, s2058 a1 = some r1 ∧ r = s2056 [s2099 a0, r1] := by
 unfold s2050 at h
 cases hq : s2058 a1 with
 | none => rw [hq] at h; cases h
 | some r1 => rw [hq] at h; exact ⟨r1, rfl, (Option.some.inj h).symm⟩
theorem both_in {a0 : List S2062} {a1 : List S1079} {r : Int} (hl : a1.length ≤ 1000) (h : s2050 a0 a1 = some r) (h1 : ¬ r ≠ 0) : a0.length ≤ 32 ∧ (∀ x ∈ a0, LimOk x) ∧ MsOk a1 ∧ ∀ m ∈ a1, MvOk m := by
 obtain ⟨r1, h2, rfl⟩ := both_eq h;have h3 := s2056_zero.1 (Decidable.not_not.1 h1);obtain ⟨h4, h5⟩ := lims_ok (h3 (s2099 a0) (by simp));have h6 : r1 = 0 := h3 r1 (by simp);subst h6;obtain ⟨h7, h8⟩ := ms_ok hl h2;exact ⟨h4, h5, h7, h8⟩
theorem count_in {a0 : S2062} {a1 : List S1079} {a2 r : Int} (hl : a1.length ≤ 1000) (h : s2058 a1 = some r) (h1 : ¬ s2056 [s2057 a0, r, s2059 a2 0 143999999] ≠ 0) : LimOk a0 ∧ MsOk a1 ∧ (∀ m ∈ a1, MvOk m) ∧ 0 ≤ a2 ∧ a2 ≤ 143999999 := by
 have h3 := s2056_zero.1 (Decidable.not_not.1 h1);have h4 := lim_ok (h3 (s2057 a0) (by simp));have h5 : r = 0 := h3 r (by simp);have h6 := s2059_zero.1 (h3 (s2059 a2 0 143999999) (by simp));subst h5;obtain ⟨h7, h8⟩ := ms_ok hl h;exact ⟨h4, h7, h8, h6.1, h6.2⟩
theorem room_in2 {a0 : List S2062} {a1 : List S1079} {a2 : S1079} {r : Int} (hl : a1.length ≤ 1000) (h : s2050 a0 a1 = some r) (h1 : ¬ s2056 [r, s2064 a2] ≠ 0) : a0.length ≤ 32 ∧ (∀ x ∈ a0, LimOk x) ∧ MsOk a1 ∧ (∀ m ∈ a1, MvOk m) ∧ MvOk a2 := by
 have h3 := s2056_zero.1 (Decidable.not_not.1 h1);have h4 : r = 0 := h3 r (by simp);obtain ⟨h5, h6, h7, h8⟩ := both_in hl h (by rw [h4]; simp);exact ⟨h5, h6, h7, h8, mv_zero.1 (h3 (s2064 a2) (by simp))⟩
end Go.Sim
set_option maxRecDepth 10000
namespace Go.Sim
open Go.Proofs
def s2020_l1 (a0 : S2062) (a1 : List S1079) (a2 : Int) : List Int → Int → Int → Option (Int × Int)
 | [], x2, x3 => some (0, 7)
 | y4 :: t5, x2, x3 => (bif decide (y4 = a2) then some (cntI (ofL a0 a1) a2 a0.Length, 0) else s2020_l1 a0 a1 a2 t5 x2 x3)
def s2020 (a0 : S2062) (a1 : List S1079) (a2 : Int) : Option (Int × Int) :=
 bindO (s2058 a1) fun r1 => (bif decide ((s2056 [(s2057 a0), r1, (s2059 a2 0 143999999)]) ≠ 0) then some (0, (s2056 [(s2057 a0), r1, (s2059 a2 0 143999999)])) else s2020_l1 a0 a1 a2 (begL a0 (IntKind.i64.wrap (Int.tdiv a2 1440))) 0 0)
theorem c2020 {g : List (Nat × List Value)} (a0 : S2062) (a1 : List S1079) (a2 : Int) {R : Int × Int}  (hb : a1.length ≤ 1000) (hR : s2020 a0 a1 a2 = some R) : Con (EG g) 20 [G.agg [G.str a0.Name, G.str a0.Kind, G.str a0.Terminal, G.int a0.Length, G.int a0.Step, G.int a0.fFrom, G.int a0.fTo, G.int a0.Period.fFrom, G.int a0.Period.fTo, G.int a0.Period.Days, G.int a0.Most], G.sl 7 (List.map S1079.c a1), G.int a2] (G.tup [G.int R.1, G.int R.2]) := by
 unfold s2020 at hR;refine con_of_awm Tryz.func20 rfl rfl (inert_tup (inert_cons (inert_lit _) (inert_cons (inert_lit _) inert_nil))) fun w0 M0 => ?_;refine len_sl (f := S1079.c) (l := a1) 1 rfl fun hla1 => ?_;refine aw_seq ?_;refine aw_region [.p, .p, .p, .w, .w] ?_;refine st rfl rfl (eff_box rfl rfl) rfl ?_;refine st rfl rfl (eff_box rfl rfl) rfl ?_;refine st rfl rfl (eff_box rfl rfl) rfl ?_;refine st_w rfl rfl (eff_alloc 6 rfl z3 rfl rfl) rfl ?_;refine st_w rfl rfl (eff_alloc 7 rfl z37 rfl rfl) rfl ?_;refine st_nil ?_;refine aw_seq ?_;refine aw_seq ?_;obtain ⟨r1, br1, hR⟩ := bindO_inv hR;refine aw_draw [.p, .p, .p, .p, .p, .p, .p, .p, .p] (by kernel_rfl) ?_;refine st rfl rfl (eff_loadA rfl ty2063 rfl rfl rfl) rfl ?_;refine st rfl rfl (eff_call rfl K2057 rfl (c2057 a0) (ag_cons rfl ag_nil)) rfl ?_;refine st rfl rfl (eff_load rfl ty1025 rfl) rfl ?_;refine st rfl rfl (eff_call rfl K2058 rfl (c2058 a1 br1) (ag_cons rfl ag_nil)) rfl ?_;refine st rfl rfl (eff_load rfl ty3 rfl) rfl ?_;refine st rfl rfl (eff_call rfl K2059 rfl (c2059 a2 0 143999999) (ag_cons rfl (ag_cons rfl (ag_cons rfl ag_nil)))) rfl ?_;refine st rfl rfl (eff_buildSlice rfl Tryz.underlying131 ty37 z37 rfl (ps_cons rfl (ps_cons rfl (ps_cons rfl ps_nil))) rfl (by simp []) (by decide)) rfl ?_;refine st rfl rfl (eff_call rfl K2056 rfl (c2056 [(s2057 a0), r1, (s2059 a2 0 143999999)]) (ag_cons rfl ag_nil)) rfl ?_;refine st rfl rfl (eff_assigng rfl rfl) rfl ?_;refine st_nil ?_;refine aw_seq ?_;refine aw_region [.p, .p] ?_;refine st rfl rfl (eff_moveg rfl rfl) rfl ?_;refine st rfl rfl (eff_neq rfl rfl rfl) rfl ?_;refine st_nil ?_;refine aw_cond _ rfl (fun h1 => ?_) (fun h1 => ?_)
 ·replace h1 : (decide ((s2056 [(s2057 a0), r1, (s2059 a2 0 143999999)]) ≠ 0)) = true := h1;replace hR := condT hR h1;(try simp only [Bool.or_eq_true, Bool.and_eq_true, Bool.or_eq_false_iff, Bool.and_eq_false_iff, Bool.not_eq_true', Bool.not_eq_false', decide_eq_true_eq, decide_eq_false_iff_not] at h1);refine aw_seq ?_;refine aw_region [.p, .w, .w] ?_;refine st rfl rfl (eff_moveg rfl rfl) rfl ?_;refine st_wn rfl rfl (eff_store (tv := .g (G.int 0)) rfl ty3 rfl rfl rfl rfl rfl) ?_;refine st_wn rfl rfl (eff_store (tv := .g (G.int (s2056 [(s2057 a0), r1, (s2059 a2 0 143999999)]))) rfl ty37 rfl rfl rfl rfl rfl) ?_;refine st_nil ?_;refine aw_ret ?_;obtain rfl := Option.some.inj hR;exact resN rfl ⟨rv_cell1 rfl rfl ty3 rfl, rv_cell1 rfl rfl ty37 rfl, trivial⟩ (by simp)
 ·replace h1 : (decide ((s2056 [(s2057 a0), r1, (s2059 a2 0 143999999)]) ≠ 0)) = false := h1;replace hR := condF hR h1;(try simp only [Bool.or_eq_true, Bool.and_eq_true, Bool.or_eq_false_iff, Bool.and_eq_false_iff, Bool.not_eq_true', Bool.not_eq_false', decide_eq_true_eq, decide_eq_false_iff_not] at h1);obtain ⟨hlok, hms, hmv, ha0, ha1⟩ := count_in hb br1 h1;refine aw_skip ?_;refine aw_seq ?_;refine aw_seq ?_;refine aw_region [.p, .p, .p, .p] ?_;refine st rfl rfl (eff_loadA rfl ty2063 rfl rfl rfl) rfl ?_;refine st rfl rfl (eff_load rfl ty3 rfl) rfl ?_;refine st rfl rfl (eff_quow rfl rfl rfl (by decide)) rfl ?_;refine st rfl rfl (eff_call rfl K2060 rfl (c2060 a0 (IntKind.i64.wrap (Int.tdiv a2 1440))) (ag_cons rfl (ag_cons rfl ag_nil))) rfl ?_;refine st_nil ?_;refine aw_block ?_;refine aw_rangeCN (α := Int) (γ := Int × Int) (enc := (Value.int .i64)) (l := [(3, .g (G.ref [G.str a0.Name, G.str a0.Kind, G.str a0.Terminal, G.int a0.Length, G.int a0.Step, G.int a0.fFrom, G.int a0.fTo, G.int a0.Period.fFrom, G.int a0.Period.fTo, G.int a0.Period.Days, G.int a0.Most])), (4, .g (G.ref [G.sl 7 (List.map S1079.c a1)])), (5, .g (G.ref [G.int a2])), (6, .ptr 6 0), (7, .ptr 7 0), (24, .g (G.fn (.func 114) [] [G.ref [G.int (IntKind.i64.wrap (Int.tdiv a2 1440))], G.ref [G.str a0.Name, G.str a0.Kind, G.str a0.Terminal, G.int a0.Length, G.int a0.Step, G.int a0.fFrom, G.int a0.fTo, G.int a0.Period.fFrom, G.int a0.Period.fTo, G.int a0.Period.Days, G.int a0.Most]]))]) (begL a0 (IntKind.i64.wrap (Int.tdiv a2 1440))) (fun g => [(6, .box [.g (G.int g.2)]), (7, .box [.g (G.int g.1)])]) (fun tl_ g => s2020_l1 a0 a1 a2 tl_ g.1 g.2 = some R) (0, 0) (fun g y4 => (upd 9 (.g (G.int y4)) (upd 25 (.g (G.int y4)) (lookT [(3, .g (G.ref [G.str a0.Name, G.str a0.Kind, G.str a0.Terminal, G.int a0.Length, G.int a0.Step, G.int a0.fFrom, G.int a0.fTo, G.int a0.Period.fFrom, G.int a0.Period.fTo, G.int a0.Period.Days, G.int a0.Most])), (4, .g (G.ref [G.sl 7 (List.map S1079.c a1)])), (5, .g (G.ref [G.int a2])), (6, .ptr 6 0), (7, .ptr 7 0), (24, .g (G.fn (.func 114) [] [G.ref [G.int (IntKind.i64.wrap (Int.tdiv a2 1440))], G.ref [G.str a0.Name, G.str a0.Kind, G.str a0.Terminal, G.int a0.Length, G.int a0.Step, G.int a0.fFrom, G.int a0.fTo, G.int a0.Period.fFrom, G.int a0.Period.fTo, G.int a0.Period.Days, G.int a0.Most]]))])), [(6, .box [.g (G.int g.2)]), (7, .box [.g (G.int g.1)])])) rfl ⟨rfl, rfl, rfl, rfl, rfl, rfl, trivial⟩ ⟨rfl, rfl, trivial⟩ rfl rfl K2114 (seq_begins a0 _ (by have := hlok.s0; omega)) G.int (fun _ _ _ => rfl) (by exact hR) rfl (fun _ => rfl) (fun _ => rfl) ?_ (fun _ _ => rfl) ?_ ?_
  ·rintro y4 ⟨x2, x3⟩ lp_ w1_ M1_ x1_;refine aw_region [.p] ?_;refine st rfl rfl (eff_assigng rfl rfl) rfl ?_;refine st_nil ?_;exact ⟨rfl, rfl⟩
  ·rintro y4 t5 ⟨x2, x3⟩ hx1 hR lp_ w1_ M1_ x1_;replace hR : s2020_l1 a0 a1 a2 (y4 :: t5) x2 x3 = some R := hR;rw [s2020_l1] at hR;(try dsimp only at hR);refine aw_block ?_;refine aw_seq ?_;refine aw_region [.p, .p, .p] ?_;refine st rfl rfl (eff_moveg rfl rfl) rfl ?_;refine st rfl rfl (eff_load rfl ty3 rfl) rfl ?_;refine st rfl rfl (eff_eql rfl rfl rfl) rfl ?_;refine st_nil ?_;refine aw_cond _ rfl (fun h2 => ?_) (fun h2 => ?_)
   ·replace h2 : (decide (y4 = a2)) = true := h2;replace hR := condT hR h2;(try simp only [Bool.or_eq_true, Bool.and_eq_true, Bool.or_eq_false_iff, Bool.and_eq_false_iff, Bool.not_eq_true', Bool.not_eq_false', decide_eq_true_eq, decide_eq_false_iff_not] at h2);refine aw_seq ?_;refine aw_draw [.p, .p, .p, .p, .p, .p, .p, .w, .w] (by kernel_rfl) ?_;refine st rfl rfl (eff_loadA rfl ty2063 rfl rfl rfl) rfl ?_;refine st rfl rfl (eff_load rfl ty1025 rfl) rfl ?_;refine st rfl rfl (eff_call rfl K2061 rfl (c2061 a0 a1 hlok.k hms.sz hms.len) (ag_cons rfl (ag_cons rfl ag_nil))) rfl ?_;refine st rfl rfl (eff_load rfl ty3 rfl) rfl ?_;refine st rfl rfl (eff_fieldAddr rfl fl2063_3 rfl) rfl ?_;refine st rfl rfl (eff_load rfl ty3 rfl) rfl ?_;refine st rfl rfl (eff_call rfl K2062 rfl (c2062 (ofL a0 a1) a2 a0.Length (ofL_len hms _) (s2062_ok (ofL_sorted hms _) (ofL_len hms _) (by omega) (by omega) (by have := hlok.l0; omega) hlok.l1)) (ag_cons rfl (ag_cons rfl (ag_cons rfl ag_nil)))) rfl ?_;refine st_wn rfl rfl (eff_store (tv := .g (G.int (cntI (ofL a0 a1) a2 a0.Length))) rfl ty3 rfl rfl rfl rfl rfl) ?_;refine st_wn rfl rfl (eff_store (tv := .g (G.int 0)) rfl ty37 rfl rfl rfl rfl rfl) ?_;refine st_nil ?_;refine aw_ret ?_;refine ⟨[(6, .box [.g (G.int (cntI (ofL a0 a1) a2 a0.Length))]), (7, .box [.g (G.int 0)])], ?_, rfl, rfl, ⟨rfl, rfl, trivial⟩⟩;refine aw_ret ?_;obtain rfl := Option.some.inj hR;exact resN rfl ⟨rv_cell1 rfl rfl ty3 rfl, rv_cell1 rfl rfl ty37 rfl, trivial⟩ (by simp)
   ·replace h2 : (decide (y4 = a2)) = false := h2;replace hR := condF hR h2;(try simp only [Bool.or_eq_true, Bool.and_eq_true, Bool.or_eq_false_iff, Bool.and_eq_false_iff, Bool.not_eq_true', Bool.not_eq_false', decide_eq_true_eq, decide_eq_false_iff_not] at h2);refine aw_skip ?_;exact ⟨(x2, x3), hR, ⟨rfl, rfl, trivial⟩⟩
  ·rintro ⟨x2, x3⟩ hR;replace hR : s2020_l1 a0 a1 a2 [] x2 x3 = some R := hR;rw [s2020_l1] at hR;(try dsimp only at hR);refine aw_seq ?_;refine aw_region [.w, .w] ?_;refine st_wn rfl rfl (eff_store (tv := .g (G.int 0)) rfl ty3 rfl rfl rfl rfl rfl) ?_;refine st_wn rfl rfl (eff_store (tv := .g (G.int 7)) rfl ty37 rfl rfl rfl rfl rfl) ?_;refine st_nil ?_;refine aw_ret ?_;obtain rfl := Option.some.inj hR;exact resN rfl ⟨rv_cell1 rfl rfl ty3 rfl, rv_cell1 rfl rfl ty37 rfl, trivial⟩ (by simp)
end Go.Sim
set_option maxRecDepth 10000
namespace Go.Sim
open Go.Proofs
def s2065_l1 (a0 : List S2062) : List S2068 → Int → Option Int
 | [], x1 => some x1
 | y2 :: t3, x1 => bindO (ixO a0 y2.Limit) fun y4 => s2065_l1 a0 t3 (min x1 (max 0 (IntKind.i64.wrap (y4.Most - y2.Count))))
def s2065 (a0 : List S2062) (a1 : List S1079) (a2 : S1079) : Option Int :=
 s2065_l1 a0 (arL a1 a2 a0 0) 999999999
theorem c2065 {g : List (Nat × List Value)} (a0 : List S2062) (a1 : List S1079) (a2 : S1079) {R : Int}  (hl0 : a0.length ≤ 1000) (hlim : ∀ x ∈ a0, LimOk x) (hms : MsOk a1) (hm0 : 0 ≤ a2.Moment) (hm1 : a2.Moment ≤ 143999999) (hR : s2065 a0 a1 a2 = some R) : Con (EG g) 65 [G.sl 11 (List.map S2062.c a0), G.sl 7 (List.map S1079.c a1), G.agg [G.int a2.Moment, G.str a2.Kind, G.str a2.Terminal, G.int a2.Seats, G.int a2.Size, G.int a2.Noise, G.str a2.Name]] (G.int R) := by
 unfold s2065 at hR;refine con_of_awm Tryz.func65 rfl rfl (inert_lit _) fun w0 M0 => ?_;refine len_sl (f := S2062.c) (l := a0) 0 rfl fun hla0 => ?_;refine len_sl (f := S1079.c) (l := a1) 1 rfl fun hla1 => ?_;refine aw_seq ?_;refine aw_region [.p, .p, .p] ?_;refine st rfl rfl (eff_box rfl rfl) rfl ?_;refine st rfl rfl (eff_box rfl rfl) rfl ?_;refine st rfl rfl (eff_assigng rfl rfl) rfl ?_;refine st_nil ?_;refine aw_seq ?_;refine aw_region [.w, .w] ?_;refine st_w rfl rfl (eff_alloc 7 rfl z3 rfl rfl) rfl ?_;refine st_wn rfl rfl (eff_store (tv := .g (G.int 999999999)) rfl ty3 rfl rfl rfl rfl rfl) ?_;refine st_nil ?_;refine aw_seq ?_;refine aw_seq ?_;refine aw_region [.p, .p, .p, .p] ?_;refine st rfl rfl (eff_load rfl ty2072 rfl) rfl ?_;refine st rfl rfl (eff_moveg rfl rfl) rfl ?_;refine st rfl rfl (eff_loadA rfl ty1080 rfl rfl rfl) rfl ?_;refine st rfl rfl (eff_call rfl K2118 rfl (c2118 a0 a1 a2) (ag_cons rfl (ag_cons rfl (ag_cons rfl ag_nil)))) rfl ?_;refine st_nil ?_;refine aw_block ?_;refine aw_rangeCN (α := S2068) (γ := Int) (enc := winE) (l := [(3, .g (G.ref [G.sl 11 (List.map S2062.c a0)])), (7, .ptr 7 0), (12, .g (G.fn (.func 150) [] [G.ref [G.sl 11 (List.map S2062.c a0)], G.ref [G.int a2.Moment, G.str a2.Kind, G.str a2.Terminal, G.int a2.Seats, G.int a2.Size, G.int a2.Noise, G.str a2.Name], G.ref [G.sl 7 (List.map S1079.c a1)]]))]) (arL a1 a2 a0 0) (fun g => [(7, .box [.g (G.int g)])]) (fun tl_ g => s2065_l1 a0 tl_ g = some R) 999999999 (fun g y2 => (upd 8 (.ptr 8 0) (upd 13 (.g (winG y2)) (lookT [(3, .g (G.ref [G.sl 11 (List.map S2062.c a0)])), (7, .ptr 7 0), (12, .g (G.fn (.func 150) [] [G.ref [G.sl 11 (List.map S2062.c a0)], G.ref [G.int a2.Moment, G.str a2.Kind, G.str a2.Terminal, G.int a2.Seats, G.int a2.Size, G.int a2.Noise, G.str a2.Name], G.ref [G.sl 7 (List.map S1079.c a1)]]))])), (8, .box [.g (G.int y2.Limit), .g (G.int y2.Begin), .g (G.int y2.Count)]) :: (8, .box [.g (G.int 0), .g (G.int 0), .g (G.int 0)]) :: [(7, .box [.g (G.int g)])])) rfl ⟨rfl, rfl, rfl, trivial⟩ ⟨rfl, trivial⟩ rfl rfl K2150 (seq_around a0 a1 a2 hl0 hlim hms hm0 hm1) winG winG_E (by exact hR) rfl (fun _ => rfl) (fun _ => rfl) ?_ (fun _ _ => rfl) ?_ ?_
 ·rintro y2 x1 lp_ w1_ M1_ x1_;refine aw_region [.w, .w] ?_;refine st_w rfl rfl (eff_alloc 8 rfl z2069 rfl rfl) rfl ?_;refine st_wn rfl rfl (eff_store (tv := .g (G.agg [G.int y2.Limit, G.int y2.Begin, G.int y2.Count])) rfl ty2069 rfl rfl rfl rfl rfl) ?_;refine st_nil ?_;exact ⟨rfl, rfl⟩
 ·rintro y2 t3 x1 hx1 hR lp_ w1_ M1_ x1_;replace hR : s2065_l1 a0 (y2 :: t3) x1 = some R := hR;rw [s2065_l1] at hR;(try dsimp only at hR);refine aw_block ?_;obtain ⟨y4, by4, hR⟩ := bindO_inv hR;refine aw_draw [.r, .p, .p, .r, .p, .p, .p, .p, .r, .p, .p, .p, .w] (by kernel_rfl) ?_;refine st_r rfl rfl (eff_loadO rfl ty3 rfl rfl rfl) rfl ?_;refine st rfl rfl (eff_load rfl ty2072 rfl) rfl ?_;refine st rfl rfl (eff_fieldO rfl fl2069_0 rfl) rfl ?_;refine st_r rfl rfl (eff_loadO rfl ty3 rfl rfl rfl) rfl ?_;refine st rfl rfl (eff_ix (f := S2062.c) (l := a0) (a := y4) rfl Tryz.underlying72 ty2063 rfl rfl (ixO_nn by4) (ixO_get by4)) rfl ?_;refine st rfl rfl (eff_fieldAddr rfl fl2063_8 rfl) rfl ?_;refine st rfl rfl (eff_load rfl ty3 rfl) rfl ?_;refine st rfl rfl (eff_fieldO rfl fl2069_2 rfl) rfl ?_;refine st_r rfl rfl (eff_loadO rfl ty3 rfl rfl rfl) rfl ?_;refine st rfl rfl (eff_subw rfl rfl rfl) rfl ?_;refine st rfl rfl (eff_max rfl rfl rfl) rfl ?_;refine st rfl rfl (eff_min rfl rfl rfl) rfl ?_;refine st_wn rfl rfl (eff_store (tv := .g (G.int (min x1 (max 0 (IntKind.i64.wrap (y4.Most - y2.Count)))))) rfl ty3 rfl rfl rfl rfl rfl) ?_;refine st_nil ?_;exact ⟨min x1 (max 0 (IntKind.i64.wrap (y4.Most - y2.Count))), hR, ⟨rfl, trivial⟩⟩
 ·rintro x1 hR;replace hR : s2065_l1 a0 [] x1 = some R := hR;rw [s2065_l1] at hR;(try dsimp only at hR);refine aw_seq ?_;refine aw_region [.r, .p] ?_;refine st_r rfl rfl (eff_loadO rfl ty3 rfl rfl rfl) rfl ?_;refine st rfl rfl (eff_assigng rfl rfl) rfl ?_;refine st_nil ?_;refine aw_ret ?_;obtain rfl := Option.some.inj hR;exact res_c rfl (rv_g rfl)
end Go.Sim
set_option maxRecDepth 10000
namespace Go.Sim
open Go.Proofs
def s2022 (a0 : List S2062) (a1 : List S1079) (a2 : S1079) : Option (Int × Int) :=
 bindO (s2050 a0 a1) fun r1 => (bif decide ((s2056 [r1, (s2064 a2)]) ≠ 0) then some (0, (s2056 [r1, (s2064 a2)])) else bindO (s2065 a0 a1 a2) fun r2 => some (r2, 0))
theorem c2022 {g : List (Nat × List Value)} (a0 : List S2062) (a1 : List S1079) (a2 : S1079) {R : Int × Int}  (hb : a1.length ≤ 1000) (hR : s2022 a0 a1 a2 = some R) : Con (EG g) 22 [G.sl 11 (List.map S2062.c a0), G.sl 7 (List.map S1079.c a1), G.agg [G.int a2.Moment, G.str a2.Kind, G.str a2.Terminal, G.int a2.Seats, G.int a2.Size, G.int a2.Noise, G.str a2.Name]] (G.tup [G.int R.1, G.int R.2]) := by
 unfold s2022 at hR;refine con_of_aw Tryz.func22 rfl rfl fun w0 M0 => ?_;refine len_sl (f := S2062.c) (l := a0) 0 rfl fun hla0 => ?_;refine len_sl (f := S1079.c) (l := a1) 1 rfl fun hla1 => ?_;refine aw_seq ?_;refine aw_region [.p, .p, .p] ?_;refine st rfl rfl (eff_box rfl rfl) rfl ?_;refine st rfl rfl (eff_assigng rfl rfl) rfl ?_;refine st rfl rfl (eff_assigng rfl rfl) rfl ?_;refine st_nil ?_;refine aw_seq ?_;refine aw_seq ?_;obtain ⟨r1, br1, hR⟩ := bindO_inv hR;refine aw_draw [.p, .p, .p, .p, .p, .p, .p, .p] (by kernel_rfl) ?_;refine st rfl rfl (eff_moveg rfl rfl) rfl ?_;refine st rfl rfl (eff_moveg rfl rfl) rfl ?_;refine st rfl rfl (eff_call rfl K2050 rfl (c2050 a0 a1 br1) (ag_cons rfl (ag_cons rfl ag_nil))) rfl ?_;refine st rfl rfl (eff_loadA rfl ty1080 rfl rfl rfl) rfl ?_;refine st rfl rfl (eff_call rfl K2064 rfl (c2064 a2) (ag_cons rfl ag_nil)) rfl ?_;refine st rfl rfl (eff_buildSlice rfl Tryz.underlying131 ty37 z37 rfl (ps_cons rfl (ps_cons rfl ps_nil)) rfl (by simp []) (by decide)) rfl ?_;refine st rfl rfl (eff_call rfl K2056 rfl (c2056 [r1, (s2064 a2)]) (ag_cons rfl ag_nil)) rfl ?_;refine st rfl rfl (eff_assigng rfl rfl) rfl ?_;refine st_nil ?_;refine aw_seq ?_;refine aw_region [.p, .p] ?_;refine st rfl rfl (eff_moveg rfl rfl) rfl ?_;refine st rfl rfl (eff_neq rfl rfl rfl) rfl ?_;refine st_nil ?_;refine aw_cond _ rfl (fun h1 => ?_) (fun h1 => ?_)
 ·replace h1 : (decide ((s2056 [r1, (s2064 a2)]) ≠ 0)) = true := h1;replace hR := condT hR h1;(try simp only [Bool.or_eq_true, Bool.and_eq_true, Bool.or_eq_false_iff, Bool.and_eq_false_iff, Bool.not_eq_true', Bool.not_eq_false', decide_eq_true_eq, decide_eq_false_iff_not] at h1);refine aw_seq ?_;refine aw_region [.p, .p, .p] ?_;refine st rfl rfl (eff_moveg rfl rfl) rfl ?_;refine st rfl rfl (eff_assigng rfl rfl) rfl ?_;refine st rfl rfl (eff_assigng rfl rfl) rfl ?_;refine st_nil ?_;refine aw_ret ?_;obtain rfl := Option.some.inj hR;exact resN rfl ⟨rv_g rfl, rv_g rfl, trivial⟩ (by simp)
 ·replace h1 : (decide ((s2056 [r1, (s2064 a2)]) ≠ 0)) = false := h1;replace hR := condF hR h1;(try simp only [Bool.or_eq_true, Bool.and_eq_true, Bool.or_eq_false_iff, Bool.and_eq_false_iff, Bool.not_eq_true', Bool.not_eq_false', decide_eq_true_eq, decide_eq_false_iff_not] at h1);obtain ⟨hlen, hlim, hms, hmv, hmo⟩ := room_in2 hb br1 h1;refine aw_skip ?_;refine aw_seq ?_;obtain ⟨r2, br2, hR⟩ := bindO_inv hR;refine aw_region [.p, .p, .p, .p, .p, .p] ?_;refine st rfl rfl (eff_moveg rfl rfl) rfl ?_;refine st rfl rfl (eff_moveg rfl rfl) rfl ?_;refine st rfl rfl (eff_loadA rfl ty1080 rfl rfl rfl) rfl ?_;refine st rfl rfl (eff_call rfl K2065 rfl (c2065 a0 a1 a2 (by omega) hlim hms hmo.m0 hmo.m1 br2) (ag_cons rfl (ag_cons rfl (ag_cons rfl ag_nil)))) rfl ?_;refine st rfl rfl (eff_assigng rfl rfl) rfl ?_;refine st rfl rfl (eff_assigng rfl rfl) rfl ?_;refine st_nil ?_;refine aw_ret ?_;obtain rfl := Option.some.inj hR;exact resN rfl ⟨rv_g rfl, rv_g rfl, trivial⟩ (by simp)
def s1113 (a0 : S1063) (a1 : S1079) : Bool :=
 ((decide (a0.Terminal = (⟨#[]⟩))) || (decide (a0.Terminal = a1.Terminal))) && ((decide (a0.Kind = (⟨#[84]⟩))) || (decide (a0.Kind = a1.Kind)))
theorem s89_zero : ∀ (l : List Int), s89 l = 0 ↔ ∀ x ∈ l, x = 0
 | [] => by simp [s89_nil]
 | x :: l => by
  rw [s89_cons]
  by_cases h : x = 0
  ·simp [h, s89_zero l]
  ·simp [h]
theorem s90_zero (a b c : Int) : s90 a b c = 0 ↔ b ≤ a ∧ a ≤ c := by rw [s90_ite]; split <;> simp_all
theorem s96_zero (a : Int) : s96 a = 0 ↔ 0 ≤ a ∧ a ≤ 143999999 := s90_zero _ _ _
theorem s1086_zero (b : Bool) (e : Int) (he : e ≠ 0) : s1086 b e = 0 ↔ b = false := by rw [s1086_ite]; cases b <;> simp [he]
structure TurnOk (t : S1124) : Prop where
 s0 : 0 ≤ t.Start
 se : t.Start ≤ t.End
 e1 : t.End ≤ 143999999
 z0 : 1 ≤ t.Size
 z1 : t.Size ≤ 9
 nm : s91 t.Name = true
structure StandOk (t : S1122) : Prop where
 z0 : 1 ≤ t.Size
 z1 : t.Size ≤ 9
 nm : s91 t.Name = true
structure MovOk (m : S1079) : Prop where
 m0 : 0 ≤ m.Moment
 m1 : m.Moment ≤ 143999999
 s0 : 0 ≤ m.Seats
 s1 : m.Seats ≤ 999
 n0 : 0 ≤ m.Noise
 n1 : m.Noise ≤ 99
 kd : m.Kind = ⟨#[65]⟩ ∨ m.Kind = ⟨#[68]⟩
 nm : s91 m.Name = true
theorem movs_all (a : List S1079) : ∀ t k, s1099_l1 a s1100 t k = 0 → ∀ y ∈ t, MovOk y
 | [], _, _, y, hy => by cases hy
 | z :: t, k, h, y, hy => by
  rw [s1099_l1] at h
  by_cases h0 : s1100 z (List.take (Int.toNat ((k : Nat) : Int)) a) = 0
  ·rw [h0] at h
   rcases List.mem_cons.1 hy with rfl | hy
   ·unfold s1100 at h0;rw [s1085_eq, s89_zero] at h0;simp only [List.mem_cons, List.not_mem_nil, or_false, forall_eq_or_imp, forall_eq] at h0;obtain ⟨g1, g2, _, g3, _, g5, g6⟩ := h0;rw [s1098_eq, s96_zero] at g1;rw [s1086_zero _ _ (by decide)] at g2;rw [s1086_zero _ _ (by decide), name_eq] at g6;rw [s1088_eq, s90_zero] at g3 g5;refine ⟨g1.1, g1.2, g3.1, g3.2, g5.1, g5.2, ?_, by simpa using g6⟩
    by_cases h1 : y.Kind = ⟨#[65]⟩
    ·exact .inl h1
    ·by_cases h2 : y.Kind = ⟨#[68]⟩
     ·exact .inr h2
     ·simp [h1, h2] at g2
   ·exact movs_all a t (k + 1) (by simpa using h) y hy
  ·rw [decide_eq_true h0, cond_true] at h; exact absurd h h0
theorem movs_ok {l : List S1079} (h : s1027 l = 0) : l.length ≤ 256 ∧ ∀ y ∈ l, MovOk y := by
 unfold s1027 s1099 at h
 cases hc : decide ((256 : Int) < (List.length l : Int))
 ·rw [hc] at h;exact ⟨by have := of_decide_eq_false hc; omega, movs_all l l 0 h⟩
 ·rw [hc] at h; simp at h
structure SeatOk (x : S1063) : Prop where
 l0 : 1 ≤ x.Length
 l1 : x.Length ≤ 1440
 s0 : 1 ≤ x.Step
 s1 : x.Step ≤ x.Length
 m0 : 0 ≤ x.Most
 m1 : x.Most ≤ 999999999
 kd : x.Kind = ⟨#[65]⟩ ∨ x.Kind = ⟨#[68]⟩ ∨ x.Kind = ⟨#[84]⟩
theorem seats_all (a : List S1063) : ∀ t k, s1101_l1 a s1102 t k = 0 → ∀ y ∈ t, SeatOk y
 | [], _, _, y, hy => by cases hy
 | z :: t, k, h, y, hy => by
  rw [s1101_l1] at h
  by_cases h0 : s1102 z (List.take (Int.toNat ((k : Nat) : Int)) a) = 0
  ·rw [h0] at h
   rcases List.mem_cons.1 hy with rfl | hy
   ·unfold s1102 at h0;rw [s1085_eq, s89_zero] at h0;simp only [List.mem_cons, List.not_mem_nil, or_false, forall_eq_or_imp, forall_eq] at h0;obtain ⟨_, g2, g3, g4, g5⟩ := h0;rw [s1086_zero _ _ (by decide), s88_eq] at g2;rw [s1088_eq, s90_zero] at g3 g4 g5;refine ⟨g3.1, g3.2, g4.1, g4.2, g5.1, g5.2, ?_⟩
    simp at g2
    by_cases h1 : y.Kind = ⟨#[65]⟩
    ·exact .inl h1
    ·by_cases h2 : y.Kind = ⟨#[68]⟩
     ·exact .inr (.inl h2)
     ·exact .inr (.inr (g2 h1 h2))
   ·exact seats_all a t (k + 1) (by simpa using h) y hy
  ·rw [decide_eq_true h0, cond_true] at h; exact absurd h h0
theorem seats_ok {l : List S1063} (h : s1029 l = 0) : l.length ≤ 32 ∧ ∀ y ∈ l, SeatOk y := by
 unfold s1029 s1101 at h
 cases hc : decide ((32 : Int) < (List.length l : Int))
 ·rw [hc] at h;exact ⟨by have := of_decide_eq_false hc; omega, seats_all l l 0 h⟩
 ·rw [hc] at h; simp at h
section
variable {α : Type}
def insB (lt : α → α → Bool) (x : α) : List α → List α
 | [] => [x]
 | y :: r => bif lt x y then y :: insB lt x r else x :: y :: r
def insS (lt : α → α → Bool) : List α → List α → List α
 | P, [] => P.reverse
 | P, x :: l => insS lt (insB lt x P) l
def isort (lt : α → α → Bool) (l : List α) : List α := insS lt [] l
theorem insB_perm (lt : α → α → Bool) (x : α) : ∀ P, (insB lt x P).Perm (x :: P)
 | [] => List.Perm.refl _
 | y :: r => by
  rw [insB]
  cases lt x y with
  | true => exact ((insB_perm lt x r).cons y).trans (List.Perm.swap x y r)
  | false => exact List.Perm.refl _
theorem insB_len (lt : α → α → Bool) (x : α) (P : List α) : (insB lt x P).length = P.length + 1 := (insB_perm lt x P).length_eq
theorem insS_perm (lt : α → α → Bool) : ∀ (l P : List α), (insS lt P l).Perm (P ++ l)
 | [], P => by rw [insS, List.append_nil]; exact List.reverse_perm P
 | x :: l, P => by
  rw [insS];refine (insS_perm lt l _).trans ?_;refine ((insB_perm lt x P).append_right l).trans ?_;exact List.perm_middle.symm
theorem isort_perm (lt : α → α → Bool) (l : List α) : (isort lt l).Perm l := insS_perm lt l []
theorem insB_sorted {lt : α → α → Bool} {Rel : α → α → Prop} (tr : ∀ a b c, Rel a b → Rel b c → Rel a c) {x : α} : ∀ {P : List α}, P.Pairwise (fun a b => Rel b a) → (∀ y ∈ P, (lt x y = true → Rel x y) ∧ (lt x y = false → Rel y x)) → (insB lt x P).Pairwise (fun a b => Rel b a)
 | [], _, _ => by rw [insB]; exact List.pairwise_singleton _ _
 | y :: r, hP, hx => by
  rw [insB];have h1 := List.pairwise_cons.1 hP
  cases hl : lt x y with
  | true =>
   refine List.pairwise_cons.2 ⟨fun z hz => ?_, insB_sorted tr h1.2 fun y hy => hx y (List.mem_cons_of_mem _ hy)⟩
   rcases List.mem_cons.1 ((insB_perm lt x r).mem_iff.1 hz) with rfl | hz
   ·exact (hx y List.mem_cons_self).1 hl
   ·exact h1.1 z hz
  | false =>
   refine List.pairwise_cons.2 ⟨fun z hz => ?_, hP⟩;have h2 := (hx y List.mem_cons_self).2 hl
   rcases List.mem_cons.1 hz with rfl | hz
   ·exact h2
   ·exact tr z y x (h1.1 z hz) h2
theorem insS_sorted {lt : α → α → Bool} {Rel : α → α → Prop} (tr : ∀ a b c, Rel a b → Rel b c → Rel a c) : ∀ {l P : List α}, P.Pairwise (fun a b => Rel b a) → (∀ y ∈ P, ∀ x ∈ l, (lt x y = true → Rel x y) ∧ (lt x y = false → Rel y x)) →
  l.Pairwise (fun y x => (lt x y = true → Rel x y) ∧ (lt x y = false → Rel y x)) → (insS lt P l).Pairwise Rel
 | [], P, hP, _, _ => by rw [insS]; exact List.pairwise_reverse.2 hP
 | x :: l, P, hP, hx, hl => by
  rw [insS];have h1 := List.pairwise_cons.1 hl;refine insS_sorted tr (insB_sorted tr hP fun y hy => hx y hy x List.mem_cons_self) (fun y hy z hz => ?_) h1.2
  rcases List.mem_cons.1 ((insB_perm lt x P).mem_iff.1 hy) with rfl | hy
  ·exact h1.1 z hz
  ·exact hx y hy z (List.mem_cons_of_mem _ hz)
theorem isort_sorted {lt : α → α → Bool} {Rel : α → α → Prop} (tr : ∀ a b c, Rel a b → Rel b c → Rel a c) {l : List α} (hl : l.Pairwise (fun y x => (lt x y = true → Rel x y) ∧ (lt x y = false → Rel y x))) : (isort lt l).Pairwise Rel :=
 insS_sorted tr List.Pairwise.nil (fun y hy => by cases hy) hl
theorem ixO_app {P B : List α} {x : α} : ixO (P ++ x :: B) (P.length : Int) = some x := by
 unfold ixO;rw [decide_eq_true (by omega)]
 simp
theorem ixO_app' {P B : List α} {x : α} {n : Int} (h : n = (P.length : Int)) : ixO (P ++ x :: B) n = some x := by rw [h]; exact ixO_app
theorem set_app {P B : List α} {x y : α} {n : Nat} (h : n = P.length) : List.set (P ++ x :: B) n y = P ++ y :: B := by
 subst h;rw [List.set_append_right _ _ (Nat.le_refl _), Nat.sub_self, List.set_cons_zero]
end
theorem s1192_l2_ok (rec1 : Int → List S1079 → Option (List S1079)) (cmp : S1079 → S1079 → Option Int) (lt : S1079 → S1079 → Bool) (x1 : Int) (x : S1079) : ∀ (P B : List S1079) (k : Nat), P.length < k → (∀ y ∈ P, ∃ c, cmp x y = some c ∧ decide (c < 0) = lt x y) →
  s1192_l2 rec1 0 cmp x1 k (P.length : Int) (P.reverse ++ x :: B) = rec1 (x1 + 1) ((insB lt x P).reverse ++ B)
 | [], B, 0, h, _ => by omega
 | [], B, k + 1, h, _ => by
  rw [s1192_l2]
  have e : decide ((0 : Int) < (([] : List S1079).length : Int)) = false := by simp
  simp only [e, cond_false, bindO, Bool.false_and, insB]
  simp
 | y :: r, B, 0, h, _ => by omega
 | y :: r, B, k + 1, h, hc => by
  have e : decide ((0 : Int) < ((y :: r).length : Int)) = true := by simp <;> omega
  have l1 : (y :: r).reverse ++ x :: B = (r.reverse ++ [y]) ++ x :: B := by simp
  have l2 : (r.reverse ++ [y]) ++ x :: B = r.reverse ++ y :: (x :: B) := by simp
  have i1 : ixO ((r.reverse ++ [y]) ++ x :: B) ((y :: r).length : Int) = some x := ixO_app' (by simp)
  have i2 : ixO ((r.reverse ++ [y]) ++ x :: B) (((y :: r).length : Int) - 1) = some y := by rw [l2]; exact ixO_app' (by simp)
  obtain ⟨c, c1, c2⟩ := hc y List.mem_cons_self;rw [s1192_l2, l1];simp only [e, cond_true, i1, i2, bindO, c1, Bool.true_and, c2]
  cases hl : lt x y with
  | true =>
   have e1 : List.set ((r.reverse ++ [y]) ++ x :: B) (Int.toNat ((y :: r).length : Int)) y = (r.reverse ++ [y]) ++ y :: B := set_app (by simp)
   have e2 : List.set ((r.reverse ++ [y]) ++ y :: B) (Int.toNat (((y :: r).length : Int) - 1)) x = r.reverse ++ x :: (y :: B) := by
    rw [show (r.reverse ++ [y]) ++ y :: B = r.reverse ++ y :: (y :: B) by simp];exact set_app (by simp)
   have e3 : (((y :: r).length : Int) - 1) = (r.length : Int) := by simp
   have hih := s1192_l2_ok rec1 cmp lt x1 x r (y :: B) k (by simp at h; omega) (fun z hz => hc z (List.mem_cons_of_mem _ hz))
   have i3 : ixO (List.set ((r.reverse ++ [y]) ++ x :: B) (Int.toNat ((y :: r).length : Int)) y) (((y :: r).length : Int) - 1) = some y := by
    rw [e1, show (r.reverse ++ [y]) ++ y :: B = r.reverse ++ y :: (y :: B) by simp];exact ixO_app' (by simp)
   rw [cond_true];simp only [i3];rw [e1, e2, e3, hih]
   simp [insB, hl]
  | false =>
   rw [cond_false]
   simp [insB, hl]
theorem s1192_l1_ok (cmp : S1079 → S1079 → Option Int) (lt : S1079 → S1079 → Bool) : ∀ (l P : List S1079), (∀ y ∈ P ++ l, ∀ x ∈ l, ∃ c, cmp x y = some c ∧ decide (c < 0) = lt x y) → s1192_l1 0 cmp l.length (P.length : Int) (P.reverse ++ l) = some (insS lt P l)
 | [], P, _ => by rw [List.length_nil, s1192_l1, insS, List.append_nil]
 | x :: l, P, h => by
  rw [List.length_cons, s1192_l1, s1192_l2_ok _ cmp lt _ x P l _ (by omega) (fun y hy => h y (List.mem_append_left _ hy) x List.mem_cons_self), insS]
  have := s1192_l1_ok cmp lt l (insB lt x P) (fun y hy z hz => h y (by
   rcases List.mem_append.1 hy with hy | hy
   ·rcases List.mem_cons.1 ((insB_perm lt x P).mem_iff.1 hy) with rfl | hy
    ·simp
    ·simp [hy]
   ·simp [hy]) z (List.mem_cons_of_mem _ hz))
  rw [← this, insB_len]
  simp
theorem s1192_ok {cmp : S1079 → S1079 → Option Int} {lt : S1079 → S1079 → Bool} {l : List S1079} (h : ∀ y ∈ l, ∀ x ∈ l, ∃ c, cmp x y = some c ∧ decide (c < 0) = lt x y) : s1192 l 0 (l.length : Int) cmp = some (isort lt l) := by
 unfold s1192 isort
 cases l with
 | nil => rfl
 | cons x l =>
  have e : ((((x :: l).length : Int) - (0 + 1)).toNat) = l.length := by simp
  rw [e, insS];exact s1192_l1_ok cmp lt l [x] (fun y hy z hz => h y hy z (List.mem_cons_of_mem _ hz))
theorem s1152_ok {cmp : S1079 → S1079 → Option Int} {lt : S1079 → S1079 → Bool} {l : List S1079} (h : ∀ y ∈ l, ∀ x ∈ l, ∃ c, cmp x y = some c ∧ decide (c < 0) = lt x y) : s1152 l cmp = some (isort lt l) := by
 unfold s1152 s1173;rw [s1173_l1, s1192_ok h];simp only [bindO];rw [s1173_l2]
def ltM (a b : S1079) : Bool := decide (a.Moment < b.Moment)
theorem s1153_lt (a b : S1079) : decide (s1153 a b < 0) = ltM a b := by
 have h : ∀ x, s202 x = false := fun x => by unfold s202; simp
 unfold s1153 s167 ltM;rw [h, h]
 by_cases h1 : a.Moment < b.Moment
 ·simp [h1]
 ·by_cases h2 : b.Moment < a.Moment <;> simp [h1, h2]
def ownL (a0 : S1063) (l : List S1079) : List S1079 := isort ltM (l.filter (fun m => s1116 a0 m))
def sums (x : Int) : List S1079 → List Int
 | [] => [x]
 | m :: l => x :: sums (x + m.Seats) l
theorem load_loop (r : List S1079) (hr : ∀ m ∈ r, 0 ≤ m.Seats ∧ m.Seats ≤ 999) : ∀ (t pre : List S1079) (ms bs : List Int) (x : Int), r = pre ++ t → ms = pre.map S1079.Moment → bs.length = pre.length → 0 ≤ x → x + 999 * (t.length : Int) ≤ 1000000 → r.length ≤ 1000 →
  s1111_l1 r t.length (pre.length : Int) ms (bs ++ [x]) = some ⟨r.map S1079.Moment, bs ++ sums x t⟩
 | [], pre, ms, bs, x, hp, hm, _, _, _, _ => by
  rw [List.length_nil, s1111_l1, hm, hp]; simp [sums]
 | y :: t, pre, ms, bs, x, hp, hm, hb, h0, h1, hl => by
  rw [List.length_cons, s1111_l1]
  have i1 : ixO r (pre.length : Int) = some y := by rw [hp]; exact ixO_app
  have i2 : ixO (bs ++ [x]) (pre.length : Int) = some x := ixO_app' (by rw [hb]);have hy := hr y (by rw [hp]; simp);rw [List.length_cons] at h1;rw [i1, i2];simp only [bindO];rw [wrap_i64 (by unfold I64; omega)];have ih := load_loop r hr t (pre ++ [y]) (ms ++ [y.Moment]) (bs ++ [x]) (x + y.Seats) (by rw [hp]; simp) (by rw [hm]; simp) (by simp [hb]) (by omega) (by omega) hl;rw [show ((pre.length : Int) + 1) = (((pre ++ [y]).length : Nat) : Int) by simp, ih]
  simp [sums]
theorem s1111_ok (a0 : S1063) {l : List S1079} (hr : ∀ m ∈ l, 0 ≤ m.Seats ∧ m.Seats ≤ 999) (hl : l.length ≤ 12) : s1111 a0 l = some ⟨(ownL a0 l).map S1079.Moment, sums 0 (ownL a0 l)⟩ := by
 unfold s1111;obtain ⟨L, h1, h2, h3⟩ := s1149_ok l (fun x0 => s1151 x0 a0)
 have hp : (fun y => !(s1151 y a0)) = fun m => s1116 a0 m := by funext m; unfold s1151; simp
 rw [h1];simp only [bindO];rw [h2, hp, s1152_ok (lt := ltM) (fun y _ x _ => ⟨_, rfl, s1153_lt x y⟩)]
 simp only
 have hperm := isort_perm ltM (l.filter fun m => s1116 a0 m);have hlen : (l.filter fun m => s1116 a0 m).length = (ownL a0 l).length := hperm.length_eq.symm;rw [hlen, show (((ownL a0 l).length : Int) - 0).toNat = (ownL a0 l).length by omega]
 have hol : (ownL a0 l).length ≤ 12 := by rw [← hlen]; exact Nat.le_trans (List.length_filter_le _ _) hl
 have hmem : ∀ m ∈ ownL a0 l, 0 ≤ m.Seats ∧ m.Seats ≤ 999 := fun m hm => hr m (List.mem_filter.1 (hperm.mem_iff.1 hm)).1;have := load_loop (ownL a0 l) hmem (ownL a0 l) [] [] [] 0 rfl rfl rfl (by decide) (by omega) (by omega);show s1111_l1 (ownL a0 l) (ownL a0 l).length 0 [] [0] = _
 simpa using this
theorem len1111 {a0 : S1063} {l : List S1079} {r : S1195} (h : s1111 a0 l = some r) (hl : l.length ≤ 12) : r.moments.length ≤ 12 := by
 have key : ∀ (q : List S1079) (n : Nat) (x : Int) (ms bs : List Int) (r : S1195), s1111_l1 q n x ms bs = some r → r.moments.length = ms.length + n := by
  intro q n
  induction n with
  | zero => intro x ms bs r h; rw [s1111_l1] at h; cases h; simp
  | succ n ih =>
   intro x ms bs r h;rw [s1111_l1] at h;obtain ⟨y, _, h⟩ := bindO_inv h;obtain ⟨z, _, h⟩ := bindO_inv h;have := ih _ _ _ _ h;rw [this]; simp; omega
 unfold s1111 at h;obtain ⟨r1, h1, h⟩ := bindO_inv h;obtain ⟨r2, h2, h⟩ := bindO_inv h;have := key _ _ _ _ _ _ h;have h3 := num1149 h1
 simp at this; omega
end Go.Sim
set_option maxRecDepth 10000
namespace Go.Sim
open Go.Proofs
def s1155 (a0 : S1195) (a1 : Int) : Option Int :=
 bindO (s1175 a0.moments a1) fun r1 => bindO (ixO a0.before r1.1) fun y2 => some y2
theorem c1155 {g : List (Nat × List Value)} (a0 : S1195) (a1 : Int) {R : Int}  (hb : a0.moments.length ≤ 1000) (hR : s1155 a0 a1 = some R) : Con (EG g) 112 [G.agg [G.sl 1 (List.map cInt a0.moments), G.sl 1 (List.map cInt a0.before)], G.int a1] (G.int R) := by
 unfold s1155 at hR;refine con_of_aw Tryz.func112 rfl rfl fun w0 M0 => ?_;refine aw_seq ?_;refine aw_region [.p, .p] ?_;refine st rfl rfl (eff_box rfl rfl) rfl ?_;refine st rfl rfl (eff_assigng rfl rfl) rfl ?_;refine st_nil ?_;refine aw_seq ?_;obtain ⟨r1, br1, hR⟩ := bindO_inv hR;refine aw_region [.p, .p, .p, .p, .p, .p, .p, .p, .p] ?_;refine st rfl rfl (eff_fieldAddr rfl fl1196_0 rfl) rfl ?_;refine st rfl rfl (eff_load rfl ty82 rfl) rfl ?_;refine st rfl rfl (eff_moveg rfl rfl) rfl ?_;refine st rfl rfl (eff_call rfl K1175 rfl (c1175 a0.moments a1 (by first | assumption | omega | (simp [copyL_len]; done) | (simp [copyL_len]; omega)) br1) (ag_cons rfl (ag_cons rfl ag_nil))) rfl ?_;refine st rfl rfl (eff_moveg rfl rfl) rfl ?_;refine st rfl rfl (eff_extract rfl rfl rfl) rfl ?_;refine st rfl rfl (eff_extract rfl rfl rfl) rfl ?_;refine st rfl rfl (eff_assigng rfl rfl) rfl ?_;refine st rfl rfl (eff_assigng rfl rfl) rfl ?_;refine st_nil ?_;refine aw_seq ?_;obtain ⟨y2, by2, hR⟩ := bindO_inv hR;refine aw_region [.p, .p, .p, .p, .p, .p] ?_;refine st rfl rfl (eff_fieldAddr rfl fl1196_1 rfl) rfl ?_;refine st rfl rfl (eff_load rfl ty82 rfl) rfl ?_;refine st rfl rfl (eff_moveg rfl rfl) rfl ?_;refine st rfl rfl (eff_ix (f := cInt) (l := a0.before) (a := y2) rfl Tryz.underlying51 ty3 rfl rfl (ixO_nn by2) (ixO_get by2)) rfl ?_;refine st rfl rfl (eff_load rfl ty3 rfl) rfl ?_;refine st rfl rfl (eff_assigng rfl rfl) rfl ?_;refine st_nil ?_;refine aw_ret ?_;obtain rfl := Option.some.inj hR;exact res_c rfl (rv_g rfl)
def s1112 (a0 : S1195) (a1 : Int) (a2 : Int) : Option Int :=
 bindO (s1155 a0 (IntKind.i64.wrap (a1 + a2))) fun r1 => bindO (s1155 a0 a1) fun r2 => some (IntKind.i64.wrap (r1 - r2))
theorem c1112 {g : List (Nat × List Value)} (a0 : S1195) (a1 : Int) (a2 : Int) {R : Int}  (hb : a0.moments.length ≤ 1000) (hR : s1112 a0 a1 a2 = some R) : Con (EG g) 55 [G.agg [G.sl 1 (List.map cInt a0.moments), G.sl 1 (List.map cInt a0.before)], G.int a1, G.int a2] (G.int R) := by
 unfold s1112 at hR;refine con_of_aw Tryz.func55 rfl rfl fun w0 M0 => ?_;refine aw_seq ?_;refine aw_region [.p, .p] ?_;refine st rfl rfl (eff_box rfl rfl) rfl ?_;refine st rfl rfl (eff_assigng rfl rfl) rfl ?_;refine st_nil ?_;refine aw_seq ?_;obtain ⟨r1, br1, hR⟩ := bindO_inv hR;obtain ⟨r2, br2, hR⟩ := bindO_inv hR;refine aw_draw [.p, .p, .p, .p, .p, .p, .p, .p, .p, .p] (by kernel_rfl) ?_;refine st rfl rfl (eff_loadA rfl ty1196 rfl rfl rfl) rfl ?_;refine st rfl rfl (eff_moveg rfl rfl) rfl ?_;refine st rfl rfl (eff_moveg rfl rfl) rfl ?_;refine st rfl rfl (eff_addw rfl rfl rfl) rfl ?_;refine st rfl rfl (eff_call rfl K1155 rfl (c1155 a0 (IntKind.i64.wrap (a1 + a2)) (by first | assumption | omega | (simp [copyL_len]; done) | (simp [copyL_len]; omega)) br1) (ag_cons rfl (ag_cons rfl ag_nil))) rfl ?_;refine st rfl rfl (eff_loadA rfl ty1196 rfl rfl rfl) rfl ?_;refine st rfl rfl (eff_moveg rfl rfl) rfl ?_;refine st rfl rfl (eff_call rfl K1155 rfl (c1155 a0 a1 (by first | assumption | omega | (simp [copyL_len]; done) | (simp [copyL_len]; omega)) br2) (ag_cons rfl (ag_cons rfl ag_nil))) rfl ?_;refine st rfl rfl (eff_subw rfl rfl rfl) rfl ?_;refine st rfl rfl (eff_assigng rfl rfl) rfl ?_;refine st_nil ?_;refine aw_ret ?_;obtain rfl := Option.some.inj hR;exact res_c rfl (rv_g rfl)
def s1039 (a0 : S1063) (a1 : List S1079) (a2 : Int) : Option (Int × Int) :=
 (bif decide ((s1085 [(s1029 [a0]), (s1027 a1), (s1098 a2)]) ≠ 0) then some (0, (s1085 [(s1029 [a0]), (s1027 a1), (s1098 a2)])) else bindO (s1111 a0 a1) fun r1 => bindO (s1112 r1 a2 a0.Length) fun r2 => some (r2, 0))
theorem c1039 {g : List (Nat × List Value)} (a0 : S1063) (a1 : List S1079) (a2 : Int) {R : Int × Int}  (hb : ¬ s1085 [(s1029 [a0]), (s1027 a1), (s1098 a2)] ≠ 0 → a1.length ≤ 12) (hR : s1039 a0 a1 a2 = some R) : Con (EG g) 21 [G.agg [G.str a0.Terminal, G.str a0.Kind, G.int a0.Length, G.int a0.Step, G.int a0.Most], G.sl 7 (List.map S1079.c a1), G.int a2] (G.tup [G.int R.1, G.int R.2]) := by
 unfold s1039 at hR;refine con_of_aw Tryz.func21 rfl rfl fun w0 M0 => ?_;refine len_sl (f := S1079.c) (l := a1) 1 rfl fun hla1 => ?_;refine aw_seq ?_;refine aw_region [.p, .p, .p] ?_;refine st rfl rfl (eff_box rfl rfl) rfl ?_;refine st rfl rfl (eff_assigng rfl rfl) rfl ?_;refine st rfl rfl (eff_assigng rfl rfl) rfl ?_;refine st_nil ?_;refine aw_seq ?_;refine aw_seq ?_;refine aw_region [.p, .p, .p, .p, .p, .p, .p, .p, .p, .p] ?_;refine st rfl rfl (eff_loadA rfl ty1064 rfl rfl rfl) rfl ?_;refine st rfl rfl (eff_buildSlice rfl Tryz.underlying77 ty1064 z1064 rfl (ps_cons rfl ps_nil) rfl (by simp [S1063.c]) (by decide)) rfl ?_;refine st rfl rfl (eff_call rfl K1029 rfl (c1029 [a0]) (ag_cons rfl ag_nil)) rfl ?_;refine st rfl rfl (eff_moveg rfl rfl) rfl ?_;refine st rfl rfl (eff_call rfl K1027 rfl (c1027 a1) (ag_cons rfl ag_nil)) rfl ?_;refine st rfl rfl (eff_moveg rfl rfl) rfl ?_;refine st rfl rfl (eff_call rfl K1098 rfl (c1098 a2) (ag_cons rfl ag_nil)) rfl ?_;refine st rfl rfl (eff_buildSlice rfl Tryz.underlying131 ty37 z37 rfl (ps_cons rfl (ps_cons rfl (ps_cons rfl ps_nil))) rfl (by simp []) (by decide)) rfl ?_;refine st rfl rfl (eff_call rfl K1085 rfl (c1085 [(s1029 [a0]), (s1027 a1), (s1098 a2)]) (ag_cons rfl ag_nil)) rfl ?_;refine st rfl rfl (eff_assigng rfl rfl) rfl ?_;refine st_nil ?_;refine aw_seq ?_;refine aw_region [.p, .p] ?_;refine st rfl rfl (eff_moveg rfl rfl) rfl ?_;refine st rfl rfl (eff_neq rfl rfl rfl) rfl ?_;refine st_nil ?_;refine aw_cond _ rfl (fun h1 => ?_) (fun h1 => ?_)
 ·replace h1 : (decide ((s1085 [(s1029 [a0]), (s1027 a1), (s1098 a2)]) ≠ 0)) = true := h1;replace hR := condT hR h1;(try simp only [Bool.or_eq_true, Bool.and_eq_true, Bool.or_eq_false_iff, Bool.and_eq_false_iff, Bool.not_eq_true', Bool.not_eq_false', decide_eq_true_eq, decide_eq_false_iff_not] at h1);refine aw_seq ?_;refine aw_region [.p, .p, .p] ?_;refine st rfl rfl (eff_moveg rfl rfl) rfl ?_;refine st rfl rfl (eff_assigng rfl rfl) rfl ?_;refine st rfl rfl (eff_assigng rfl rfl) rfl ?_;refine st_nil ?_;refine aw_ret ?_;obtain rfl := Option.some.inj hR;exact resN rfl ⟨rv_g rfl, rv_g rfl, trivial⟩ (by simp)
 ·replace h1 : (decide ((s1085 [(s1029 [a0]), (s1027 a1), (s1098 a2)]) ≠ 0)) = false := h1;replace hR := condF hR h1;(try simp only [Bool.or_eq_true, Bool.and_eq_true, Bool.or_eq_false_iff, Bool.and_eq_false_iff, Bool.not_eq_true', Bool.not_eq_false', decide_eq_true_eq, decide_eq_false_iff_not] at h1);have hb1 := hb h1;refine aw_skip ?_;refine aw_seq ?_;obtain ⟨r1, br1, hR⟩ := bindO_inv hR;obtain ⟨r2, br2, hR⟩ := bindO_inv hR;have hlm := len1111 br1 hb1;refine aw_draw [.p, .p, .p, .p, .p, .p, .p, .p, .p] (by kernel_rfl) ?_;refine st rfl rfl (eff_loadA rfl ty1064 rfl rfl rfl) rfl ?_;refine st rfl rfl (eff_moveg rfl rfl) rfl ?_;refine st rfl rfl (eff_call rfl K1111 rfl (c1111 a0 a1 (by first | assumption | omega | (simp [copyL_len]; done) | (simp [copyL_len]; omega)) br1) (ag_cons rfl (ag_cons rfl ag_nil))) rfl ?_;refine st rfl rfl (eff_moveg rfl rfl) rfl ?_;refine st rfl rfl (eff_fieldAddr rfl fl1064_2 rfl) rfl ?_;refine st rfl rfl (eff_load rfl ty3 rfl) rfl ?_;refine st rfl rfl (eff_call rfl K1112 rfl (c1112 r1 a2 a0.Length (by first | assumption | omega | (simp [copyL_len]; done) | (simp [copyL_len]; omega)) br2) (ag_cons rfl (ag_cons rfl (ag_cons rfl ag_nil)))) rfl ?_;refine st rfl rfl (eff_assigng rfl rfl) rfl ?_;refine st rfl rfl (eff_assigng rfl rfl) rfl ?_;refine st_nil ?_;refine aw_ret ?_;obtain rfl := Option.some.inj hR;exact resN rfl ⟨rv_g rfl, rv_g rfl, trivial⟩ (by simp)
theorem s1194_eq (a b : Int) : s1194 a b = decide (a < b) := by
 have h : ∀ x, s202 x = false := fun x => by unfold s202; simp
 unfold s1194; rw [h]; simp
end Go.Sim
namespace Go.Proofs
open Go.RowKit Go.Shelf
attribute [local go_sem] Oper.semAt_some
def winL (s m : Int) : Nat → Int → List Int
 | 0, _ => []
 | n + 1, b => if b ≤ m then b :: winL s m n (b + s) else []
def win0 (len s m : Int) : Int := (max 0 (m - len + 1) + s - 1) / s * s
set_option maxRecDepth 100000 in
set_option maxHeartbeats 1000000 in
theorem win_in (l b0 o0 b1 o1 : Nat) (M : Nat → Prop) (m len st : Int) (hm : 0 ≤ m) (hm2 : m ≤ 143999999) (hl : 1 ≤ len) (hl2 : len ≤ 1440) (hs : 1 ≤ st) (hs2 : st ≤ 1440) (J Jx : List Int → World → Prop)
  (hJd : ∀ pre W W', J pre W → Sim.Grow W W' → J pre W')
  (w : World) (hb0 : b0 < w.heap.size ∧ ¬ M b0) (hb1 : b1 < w.heap.size ∧ ¬ M b1)
  (hY : ∀ pre x post W1, winL st m 1450 (win0 len st m) = pre ++ x :: post → Sim.BelowX M w W1 → J pre W1 → YieldAt Fence.wide 0 Tryz.prog l #[.int .i64 x] W1 fun e W' =>
   Sim.BelowX M W1 W' ∧ ((e = .returned (.bool true) ∧ J (pre ++ [x]) W') ∨ (e = .returned (.bool false) ∧ Jx (pre ++ [x]) W')))
  (c0 : w.cell? ⟨b0, o0, none⟩ = some (.int .i64 m)) (c1 : w.cell? ⟨b1, o1 + 2, none⟩ = some (.int .i64 len)) (c2 : w.cell? ⟨b1, o1 + 3, none⟩ = some (.int .i64 st)) (h0 : J [] w) :
  CallsIn Fence.wide 0 Tryz.prog 111 #[.func (.yield l) #[] #[], .pointer (some ⟨b0, o0, none⟩), .pointer (some ⟨b1, o1, none⟩)] w fun e W' => (∃ v, e = .returned v) ∧
   (J (winL st m 1450 (win0 len st m)) W' ∨ ∃ pre, pre <+: winL st m 1450 (win0 len st m) ∧ Jx pre W') := by
 refine callsIn_of_wp Tryz.func111 rfl trivial ?_ rfl;simp only [Tryz.ntmps111, List.size_toArray, List.length_cons, List.length_nil, Nat.reduceAdd, Nat.reduceSub, Array.replicate_succ, Array.replicate_zero, List.push_toArray, List.append_toArray, List.nil_append, List.cons_append]
 have hwin : ∀ a : Int, 0 ≤ a → a ≤ 143999999 → max 0 (m - len + 1) = a → IntKind.i64.wrap ((a + st - 1) / st * st) = win0 len st m ∧ 0 ≤ win0 len st m ∧ win0 len st m ≤ 145000000 ∧ m - len + 1 ≤ win0 len st m := by
  intro a h0 h1 h2;have e0 : (a + st - 1) % st + st * ((a + st - 1) / st) = a + st - 1 := Int.emod_add_mul_ediv _ _;have e1 := Int.emod_nonneg (a + st - 1) (show st ≠ 0 by omega);have e2 := Int.emod_lt_of_pos (a + st - 1) (show 0 < st by omega)
  have e3 : win0 len st m = (a + st - 1) / st * st := by unfold win0; rw [h2]
  rw [e3, Int.mul_comm ((a + st - 1) / st) st];generalize st * ((a + st - 1) / st) = q at *;generalize (a + st - 1) % st = r at *;refine ⟨?_, by omega, by omega, by omega⟩;exact Sim.wrap_i64 (by unfold Sim.I64; omega)
 gi_wp2
 case inr h =>
  obtain ⟨hE, hE0, hE1, hE2⟩ := hwin 0 (by omega) (by omega) (by omega);rw [show (0 + st - 1 : Int) = st - 1 by omega] at hE;refine wpIn_region_quiet_lit rfl (by kernel_rfl) (by kernel_rfl) ?_
  repeat (gi_big_quiet_step (fail))
  refine wpQuietIn_nil ?_;intro _ hw';obtain ⟨nq, hw''⟩ := hw';subst hw''
  gi_wp2
  gi_loopw [5] (fun p wr => ∃ (pre : List Int) (k : Nat) (d : Int), p = .int .i64 d ∧ 0 ≤ d ∧ d ≤ 145001440 ∧ m + 1 - d ≤ (k : Int) ∧ winL st m 1450 (win0 len st m) = pre ++ winL st m k d ∧ Sim.BelowX M w wr ∧ J pre wr)
   (fun p _ => (m + 1 - intOf p).toNat)
  case atStart => exact ⟨[], 1450, win0 len st m, rfl, hE0, by omega, by omega, rfl, ⟨rfl, rfl, rfl, Nat.le_refl _, fun _ _ _ => rfl⟩, hJd _ _ _ h0 ⟨rfl, rfl, rfl, Nat.le_refl _, fun _ _ => rfl⟩⟩
  case round =>
   obtain ⟨pre, k, d, rfl, hd1, hd2, hk, hx, hB, hJs⟩ := hrel
   have cell : ∀ b o v, b < w.heap.size → ¬ M b → w.cell? ⟨b, o, none⟩ = some v → wr.cell? ⟨b, o, none⟩ = some v := fun b o v h1 h2 h3 => by
    have := hB.block b h1 h2;unfold World.cell? at h3 ⊢;rw [this]; exact h3
   have c0' := cell _ _ _ hb0.1 hb0.2 c0;have c1' := cell _ _ _ hb1.1 hb1.2 c1;have c2' := cell _ _ _ hb1.1 hb1.2 c2;clear c0 c1 c2
   by_cases hlt : d ≤ m
   ·have hk1 : ∃ k', k = k' + 1 := ⟨k - 1, by omega⟩;obtain ⟨k', rfl⟩ := hk1
    have hs' : winL st m (k' + 1) d = d :: winL st m k' (d + st) := by rw [winL, if_pos hlt]
    rw [hs'] at hx
    obtain ⟨fn, tmps, assign, body, hy, hR'⟩ := YieldAt.mono (hY pre d _ wr hx hB hJs) (R' := fun e W' => ∃ bb : Bool, e = .returned (.bool bb) ∧ Sim.BelowX M wr W' ∧ ((bb = true → J (pre ++ [d]) W') ∧ (bb = false → Jx (pre ++ [d]) W'))) (by
     rintro e W' ⟨k0, ⟨rfl, k1⟩ | ⟨rfl, k1⟩⟩
     ·exact ⟨true, rfl, k0, (fun _ => k1), (fun h => (by cases h))⟩
     ·exact ⟨false, rfl, k0, (fun h => (by cases h)), (fun _ => k1)⟩)
    have X1 := Lib.hid hx; clear hx
    gi_wp2
    refine ⟨rfl, ?_⟩;refine hR'.mono ?_;rintro e W' ⟨bb, rfl, hB2, hT, hF⟩;have hBw : Sim.BelowX M w W' := ⟨hB2.os.trans hB.os, hB2.tape.trans hB.tape, hB2.output.trans hB.output, Nat.le_trans hB.size hB2.size, fun q hq hn => (hB2.block q (Nat.lt_of_lt_of_le hq hB.size) hn).trans (hB.block q hq hn)⟩
    have c2'' : W'.cell? ⟨b1, o1 + 3, none⟩ = some (.int .i64 st) := by
     have := hB2.block b1 (Nat.lt_of_lt_of_le hb1.1 hB.size) hb1.2;unfold World.cell? at c2' ⊢;rw [this]; exact c2'
    cases bb with
    | true =>
     have hJ3 := hT rfl;clear hT hF
     go_simp
     gi_wp2
     go_roundw
     case rel => exact ⟨pre ++ [d], k', d + st, rfl, by omega, by omega, by omega, by rw [X1.out]; simp, hBw, hJ3⟩
     case measure => simp [intOf]; omega
    | false =>
     have hX := hF rfl;clear hT hF
     go_simp
     gi_wp2
     refine bodyPost_ret (results_none rfl _ _ _) rfl ?_;exact ⟨⟨_, rfl⟩, .inr ⟨pre ++ [d], ⟨winL st m k' (d + st), by rw [X1.out]; simp⟩, hX⟩⟩
   ·have hs' : winL st m k d = [] := by
     cases k with
     | zero => rfl
     | succ k => rw [winL, if_neg hlt]
    rw [hs', List.append_nil] at hx;have X1 := Lib.hid hx; clear hx
    gi_wp2
    go_end0
    refine ⟨⟨_, rfl⟩, .inl ?_⟩;rw [X1.out]; exact hJs
 case inl h =>
  obtain ⟨hE, hE0, hE1, hE2⟩ := hwin (m - len + 1) (by omega) (by omega) (by omega);refine wpIn_region_quiet_lit rfl (by kernel_rfl) (by kernel_rfl) ?_
  repeat (gi_big_quiet_step (fail))
  refine wpQuietIn_nil ?_;intro _ hw';obtain ⟨nq, hw''⟩ := hw';subst hw''
  gi_wp2
  gi_loopw [5] (fun p wr => ∃ (pre : List Int) (k : Nat) (d : Int), p = .int .i64 d ∧ 0 ≤ d ∧ d ≤ 145001440 ∧ m + 1 - d ≤ (k : Int) ∧ winL st m 1450 (win0 len st m) = pre ++ winL st m k d ∧ Sim.BelowX M w wr ∧ J pre wr)
   (fun p _ => (m + 1 - intOf p).toNat)
  case atStart => exact ⟨[], 1450, win0 len st m, rfl, hE0, by omega, by omega, rfl, ⟨rfl, rfl, rfl, Nat.le_refl _, fun _ _ _ => rfl⟩, hJd _ _ _ h0 ⟨rfl, rfl, rfl, Nat.le_refl _, fun _ _ => rfl⟩⟩
  case round =>
   obtain ⟨pre, k, d, rfl, hd1, hd2, hk, hx, hB, hJs⟩ := hrel
   have cell : ∀ b o v, b < w.heap.size → ¬ M b → w.cell? ⟨b, o, none⟩ = some v → wr.cell? ⟨b, o, none⟩ = some v := fun b o v h1 h2 h3 => by
    have := hB.block b h1 h2;unfold World.cell? at h3 ⊢;rw [this]; exact h3
   have c0' := cell _ _ _ hb0.1 hb0.2 c0;have c1' := cell _ _ _ hb1.1 hb1.2 c1;have c2' := cell _ _ _ hb1.1 hb1.2 c2;clear c0 c1 c2
   by_cases hlt : d ≤ m
   ·have hk1 : ∃ k', k = k' + 1 := ⟨k - 1, by omega⟩;obtain ⟨k', rfl⟩ := hk1
    have hs' : winL st m (k' + 1) d = d :: winL st m k' (d + st) := by rw [winL, if_pos hlt]
    rw [hs'] at hx
    obtain ⟨fn, tmps, assign, body, hy, hR'⟩ := YieldAt.mono (hY pre d _ wr hx hB hJs) (R' := fun e W' => ∃ bb : Bool, e = .returned (.bool bb) ∧ Sim.BelowX M wr W' ∧ ((bb = true → J (pre ++ [d]) W') ∧ (bb = false → Jx (pre ++ [d]) W'))) (by
     rintro e W' ⟨k0, ⟨rfl, k1⟩ | ⟨rfl, k1⟩⟩
     ·exact ⟨true, rfl, k0, (fun _ => k1), (fun h => (by cases h))⟩
     ·exact ⟨false, rfl, k0, (fun h => (by cases h)), (fun _ => k1)⟩)
    have X1 := Lib.hid hx; clear hx
    gi_wp2
    refine ⟨rfl, ?_⟩;refine hR'.mono ?_;rintro e W' ⟨bb, rfl, hB2, hT, hF⟩;have hBw : Sim.BelowX M w W' := ⟨hB2.os.trans hB.os, hB2.tape.trans hB.tape, hB2.output.trans hB.output, Nat.le_trans hB.size hB2.size, fun q hq hn => (hB2.block q (Nat.lt_of_lt_of_le hq hB.size) hn).trans (hB.block q hq hn)⟩
    have c2'' : W'.cell? ⟨b1, o1 + 3, none⟩ = some (.int .i64 st) := by
     have := hB2.block b1 (Nat.lt_of_lt_of_le hb1.1 hB.size) hb1.2;unfold World.cell? at c2' ⊢;rw [this]; exact c2'
    cases bb with
    | true =>
     have hJ3 := hT rfl;clear hT hF
     go_simp
     gi_wp2
     go_roundw
     case rel => exact ⟨pre ++ [d], k', d + st, rfl, by omega, by omega, by omega, by rw [X1.out]; simp, hBw, hJ3⟩
     case measure => simp [intOf]; omega
    | false =>
     have hX := hF rfl;clear hT hF
     go_simp
     gi_wp2
     refine bodyPost_ret (results_none rfl _ _ _) rfl ?_;exact ⟨⟨_, rfl⟩, .inr ⟨pre ++ [d], ⟨winL st m k' (d + st), by rw [X1.out]; simp⟩, hX⟩⟩
   ·have hs' : winL st m k d = [] := by
     cases k with
     | zero => rfl
     | succ k => rw [winL, if_neg hlt]
    rw [hs', List.append_nil] at hx;have X1 := Lib.hid hx; clear hx
    gi_wp2
    go_end0
    refine ⟨⟨_, rfl⟩, .inl ?_⟩;rw [X1.out]; exact hJs
end Go.Proofs
namespace Go.Sim
open Go.Proofs
theorem ref_one {w : World} {M : Nat → Prop} {v : Value} {g : G} {gs : List G} (h : (G.ref (g :: gs)).p w M v) : ∃ b o, v = .pointer (some ⟨b, o, none⟩) ∧ ¬ M b ∧ Cells w M b o (g :: gs) := by
 obtain ⟨b, o, h1, h2, h3⟩ := h;exact ⟨b, o, h1, h2.resolve_left (by simp), h3⟩
theorem win_seq {g : List (Nat × List Value)} (a : S1063) (m : Int) (hm : 0 ≤ m) (hm2 : m ≤ 143999999) (hl : 1 ≤ a.Length) (hl2 : a.Length ≤ 1440) (hs : 1 ≤ a.Step) (hs2 : a.Step ≤ 1440) :
  Seq (EG g) 111 [G.ref [G.int m], G.ref [G.str a.Terminal, G.str a.Kind, G.int a.Length, G.int a.Step, G.int a.Most]] (Value.int .i64) (winL a.Step m 1450 (win0 a.Length a.Step m)) := by
 intro w M cs l J Jx hM hgl hfit hJd hJxd hY h0
 match cs, hfit with
 | [c0, c1], hf =>
  obtain ⟨h1, h2, _⟩ := hf;obtain ⟨b0, o0, rfl, k0, r0⟩ := ref_one h1;obtain ⟨b1, o1, rfl, k1, r1⟩ := ref_one h2;obtain ⟨⟨v0, e0, p0, _⟩, _⟩ := r0;obtain ⟨_, _, ⟨v2, e2, p2, _⟩, ⟨v3, e3, p3, _⟩, _⟩ := r1;have p0 : v0 = .int .i64 m := p0;have p2 : v2 = .int .i64 a.Length := p2;have p3 : v3 = .int .i64 a.Step := p3;subst p0 p2 p3;exact win_in l b0 o0 b1 o1 M m a.Length a.Step hm hm2 hl hl2 hs hs2 J Jx hJd w ⟨block_lt_of_cell e0, k0⟩ ⟨block_lt_of_cell e2, k1⟩ hY e0 e2 e3 h0
end Go.Sim
set_option maxRecDepth 10000
namespace Go.Sim
open Go.Proofs
theorem c1114 {g : List (Nat × List Value)} (a0 : S1063) (a1 : Int) : Con (EG g) 54 [G.agg [G.str a0.Terminal, G.str a0.Kind, G.int a0.Length, G.int a0.Step, G.int a0.Most], G.int a1] (G.fn (.func 111) [] [G.ref [G.int a1], G.ref [G.str a0.Terminal, G.str a0.Kind, G.int a0.Length, G.int a0.Step, G.int a0.Most]]) := by
 refine con_of_aw Tryz.func54 rfl rfl fun w0 M0 => ?_;refine aw_seq ?_;refine aw_region [.p, .p, .p] ?_;refine st rfl rfl (eff_box rfl rfl) rfl ?_;refine st rfl rfl (eff_box rfl rfl) rfl ?_;refine st rfl rfl (eff_assigng rfl rfl) rfl ?_;refine st_nil ?_;refine aw_seq ?_;refine aw_region [.p, .p] ?_;refine st rfl rfl (eff_makeF rfl rfl rfl) rfl ?_;refine st rfl rfl (eff_assigng rfl rfl) rfl ?_;refine st_nil ?_;refine aw_ret ?_;exact res_c rfl (rv_g rfl)
def winsOf (a : S1063) (m : Int) : List Int := winL a.Step m 1450 (win0 a.Length a.Step m)
theorem win_ok {g : List (Nat × List Value)} {a : S1063} {m : Int} (h : SeatOk a) (h0 : 0 ≤ m) (h1 : m ≤ 143999999) :
  Seq (EG g) 111 [G.ref [G.int m], G.ref [G.str a.Terminal, G.str a.Kind, G.int a.Length, G.int a.Step, G.int a.Most]] (Value.int .i64) (winsOf a m) :=
 win_seq a m h0 h1 h.l0 h.l1 h.s0 (by have := h.s1; have := h.l1; omega)
theorem room_in {a0 : List S1063} {a1 : List S1079} {a2 : S1079} (h : ¬ s1085 [(s1029 a0), (s1027 a1), (s1027 [a2])] ≠ 0) : (∀ x ∈ a0, SeatOk x) ∧ MovOk a2 := by
 have h := Decidable.not_not.1 h;rw [s1085_eq, s89_zero] at h;exact ⟨(seats_ok (h (s1029 a0) (by simp))).2, (movs_ok (l := [a2]) (h (s1027 [a2]) (by simp))).2 a2 (by simp)⟩
end Go.Sim
set_option maxRecDepth 10000
namespace Go.Sim
open Go.Proofs
def s1045_j1 (rec1 : Nat → Bool → Int → Option (Int × Int)) (k4 : Nat) (x7 : Bool) (x8 : Int) : Option (Int × Int) :=
 rec1 (k4 + 1) x7 x8
def s1045_l2 (rec1 : Nat → Bool → Int → Option (Int × Int)) (k4 : Nat) (y5 : S1063) (r9 : S1195) : List Int → Int → Option (Int × Int)
 | [], x10 => s1045_j1 rec1 k4 true x10
 | y11 :: t12, x10 => bindO (s1112 r9 y11 y5.Length) fun r13 => s1045_l2 rec1 k4 y5 r9 t12 (min x10 (IntKind.i64.wrap (y5.Most - r13)))
def s1045_l1 (a1 : List S1079) (a2 : S1079) : List S1063 → Nat → Bool → Int → Option (Int × Int)
 | [], k4, x1, x3 => (bif !x1 then some (0, 7) else some (max 0 x3, 0))
 | y5 :: t6, k4, x1, x3 => (bif !(s1116 y5 a2) then s1045_j1 (fun k_ z0_ z1_ => s1045_l1 a1 a2 t6 k_ z0_ z1_) k4 x1 x3 else bindO (s1111 y5 a1) fun r9 => s1045_l2 (fun k_ z0_ z1_ => s1045_l1 a1 a2 t6 k_ z0_ z1_) k4 y5 r9 (winsOf y5 a2.Moment) x3)
def s1045 (a0 : List S1063) (a1 : List S1079) (a2 : S1079) : Option (Int × Int) :=
 (bif decide ((s1085 [(s1029 a0), (s1027 a1), (s1027 [a2])]) ≠ 0) then some (0, (s1085 [(s1029 a0), (s1027 a1), (s1027 [a2])])) else s1045_l1 a1 a2 a0 0 false 999)
theorem c1045 {g : List (Nat × List Value)} (a0 : List S1063) (a1 : List S1079) (a2 : S1079) {R : Int × Int}  (hb : ¬ s1085 [(s1029 a0), (s1027 a1), (s1027 [a2])] ≠ 0 → a1.length ≤ 12) (hR : s1045 a0 a1 a2 = some R) : Con (EG g) 23 [G.sl 5 (List.map S1063.c a0), G.sl 7 (List.map S1079.c a1), G.agg [G.int a2.Moment, G.str a2.Kind, G.str a2.Terminal, G.int a2.Seats, G.int a2.Size, G.int a2.Noise, G.str a2.Name]] (G.tup [G.int R.1, G.int R.2]) := by
 unfold s1045 at hR;refine con_of_awm Tryz.func23 rfl rfl (inert_tup (inert_cons (inert_lit _) (inert_cons (inert_lit _) inert_nil))) fun w0 M0 => ?_;refine len_sl (f := S1063.c) (l := a0) 0 rfl fun hla0 => ?_;refine len_sl (f := S1079.c) (l := a1) 1 rfl fun hla1 => ?_;refine aw_seq ?_;refine aw_region [.p, .p, .p] ?_;refine st rfl rfl (eff_box rfl rfl) rfl ?_;refine st rfl rfl (eff_assigng rfl rfl) rfl ?_;refine st rfl rfl (eff_assigng rfl rfl) rfl ?_;refine st_nil ?_;refine aw_seq ?_;refine aw_seq ?_;refine aw_draw [.p, .p, .p, .p, .p, .p, .p, .p, .p, .p] (by kernel_rfl) ?_;refine st rfl rfl (eff_moveg rfl rfl) rfl ?_;refine st rfl rfl (eff_call rfl K1029 rfl (c1029 a0) (ag_cons rfl ag_nil)) rfl ?_;refine st rfl rfl (eff_moveg rfl rfl) rfl ?_;refine st rfl rfl (eff_call rfl K1027 rfl (c1027 a1) (ag_cons rfl ag_nil)) rfl ?_;refine st rfl rfl (eff_loadA rfl ty1080 rfl rfl rfl) rfl ?_;refine st rfl rfl (eff_buildSlice rfl Tryz.underlying25 ty1080 z1080 rfl (ps_cons rfl ps_nil) rfl (by simp [S1079.c]) (by decide)) rfl ?_;refine st rfl rfl (eff_call rfl K1027 rfl (c1027 [a2]) (ag_cons rfl ag_nil)) rfl ?_;refine st rfl rfl (eff_buildSlice rfl Tryz.underlying131 ty37 z37 rfl (ps_cons rfl (ps_cons rfl (ps_cons rfl ps_nil))) rfl (by simp []) (by decide)) rfl ?_;refine st rfl rfl (eff_call rfl K1085 rfl (c1085 [(s1029 a0), (s1027 a1), (s1027 [a2])]) (ag_cons rfl ag_nil)) rfl ?_;refine st rfl rfl (eff_assigng rfl rfl) rfl ?_;refine st_nil ?_;refine aw_seq ?_;refine aw_region [.p, .p] ?_;refine st rfl rfl (eff_moveg rfl rfl) rfl ?_;refine st rfl rfl (eff_neq rfl rfl rfl) rfl ?_;refine st_nil ?_;refine aw_cond _ rfl (fun h1 => ?_) (fun h1 => ?_)
 ·replace h1 : (decide ((s1085 [(s1029 a0), (s1027 a1), (s1027 [a2])]) ≠ 0)) = true := h1;replace hR := condT hR h1;(try simp only [Bool.or_eq_true, Bool.and_eq_true, Bool.or_eq_false_iff, Bool.and_eq_false_iff, Bool.not_eq_true', Bool.not_eq_false', decide_eq_true_eq, decide_eq_false_iff_not] at h1);refine aw_seq ?_;refine aw_region [.p, .p, .p] ?_;refine st rfl rfl (eff_moveg rfl rfl) rfl ?_;refine st rfl rfl (eff_assigng rfl rfl) rfl ?_;refine st rfl rfl (eff_assigng rfl rfl) rfl ?_;refine st_nil ?_;refine aw_ret ?_;obtain rfl := Option.some.inj hR;exact resN rfl ⟨rv_g rfl, rv_g rfl, trivial⟩ (by simp)
 ·replace h1 : (decide ((s1085 [(s1029 a0), (s1027 a1), (s1027 [a2])]) ≠ 0)) = false := h1;replace hR := condF hR h1;(try simp only [Bool.or_eq_true, Bool.and_eq_true, Bool.or_eq_false_iff, Bool.and_eq_false_iff, Bool.not_eq_true', Bool.not_eq_false', decide_eq_true_eq, decide_eq_false_iff_not] at h1);have hb1 := hb h1;obtain ⟨hsl, hmo⟩ := room_in h1;refine aw_skip ?_;refine aw_seq ?_;refine aw_region [.w, .w, .p] ?_;refine st_w rfl rfl (eff_alloc 9 rfl z3 rfl rfl) rfl ?_;refine st_wn rfl rfl (eff_store (tv := .g (G.int 999)) rfl ty3 rfl rfl rfl rfl rfl) ?_;refine st rfl rfl (eff_assigng rfl rfl) rfl ?_;refine st_nil ?_;refine aw_seq ?_;refine aw_seq ?_;refine aw_region [.p, .p, .p] ?_;refine st rfl rfl (eff_moveg rfl rfl) rfl ?_;refine st rfl rfl (eff_lenM (f := S1063.c) (l := a0) rfl Tryz.underlying77 rfl) rfl ?_;refine st rfl rfl (eff_moveg rfl rfl) rfl ?_;refine st_nil ?_;refine aw_block ?_;refine aw_loop_g (γ := Nat × (List S1063) × Bool × Int) (fun g => ([(1, .g (G.sl 7 (List.map S1079.c a1))), (5, .g (G.ref [G.int a2.Moment, G.str a2.Kind, G.str a2.Terminal, G.int a2.Seats, G.int a2.Size, G.int a2.Noise, G.str a2.Name])), (9, .ptr 9 0), (10, .g (G.bool g.2.2.1)), (27, .g (G.sl 5 (List.map S1063.c a0))), (28, .g (G.int (List.length a0 : Int))), (29, .g (G.int ((g.1 : Nat) : Int)))], [(9, .box [.g (G.int g.2.2.2)])])) (fun g => a0.drop g.1 = g.2.1 ∧ s1045_l1 a1 a2 g.2.1 g.1 g.2.2.1 g.2.2.2 = some R) (fun g => List.length g.2.1) ⟨rfl, (0, a0, false, 999), ⟨rfl, rfl, rfl, rfl, rfl, rfl, rfl, trivial⟩, ⟨rfl, trivial⟩, rfl, ⟨rfl, hR⟩, trivial⟩ ?_
  ·rintro ⟨k4, t6, x1, x3⟩ ⟨hd, hR⟩;replace hd : a0.drop k4 = t6 := hd;replace hR : s1045_l1 a1 a2 t6 k4 x1 x3 = some R := hR;refine aw_seq ?_;refine aw_region [.p] ?_;refine st rfl rfl (eff_lss rfl rfl rfl) rfl ?_;refine st_nil ?_;refine len_sl (f := S1063.c) (l := a0) 27 rfl fun hlz1 => ?_;refine aw_seq ?_;refine aw_cond _ rfl (fun h2 => ?_) (fun h2 => ?_)
   ·replace h2 : (decide (((k4 : Nat) : Int) < (List.length a0 : Int))) = true := h2;obtain ⟨y5, t6, rfl, hx1, hd⟩ := drop_cons hd (decT h2);replace h2 := decT h2;rw [s1045_l1] at hR;(try dsimp only at hR);refine aw_skip ?_;refine aw_cut_g (γ := Bool × Int) (fun g => ([(1, .g (G.sl 7 (List.map S1079.c a1))), (5, .g (G.ref [G.int a2.Moment, G.str a2.Kind, G.str a2.Terminal, G.int a2.Seats, G.int a2.Size, G.int a2.Noise, G.str a2.Name])), (9, .ptr 9 0), (10, .g (G.bool g.1)), (27, .g (G.sl 5 (List.map S1063.c a0))), (28, .g (G.int (List.length a0 : Int))), (29, .g (G.int ((k4 : Nat) : Int)))], [(9, .box [.g (G.int g.2)])])) (fun g => s1045_j1 (fun k_ z0_ z1_ => s1045_l1 a1 a2 t6 k_ z0_ z1_) k4 g.1 g.2 = some R) ?_ ?_
    ·refine aw_block ?_;refine aw_seq ?_;refine aw_region [.p, .p, .w, .w] ?_;refine st rfl rfl (eff_ix (f := S1063.c) (l := a0) (a := y5) rfl Tryz.underlying77 ty1064 rfl rfl (Int.natCast_nonneg _) hx1) rfl ?_;refine st rfl rfl (eff_loadA rfl ty1064 rfl rfl rfl) rfl ?_;refine st_w rfl rfl (eff_alloc 12 rfl z1064 rfl rfl) rfl ?_;refine st_wn rfl rfl (eff_store (tv := .g (G.agg [G.str y5.Terminal, G.str y5.Kind, G.int y5.Length, G.int y5.Step, G.int y5.Most])) rfl ty1064 rfl rfl rfl rfl rfl) ?_;refine st_nil ?_;refine aw_seq ?_;refine aw_seq ?_;refine aw_region [.r, .p, .p, .p] ?_;refine st_r rfl rfl (eff_loadOA rfl ty1064 rfl rfl rfl rfl) rfl ?_;refine st rfl rfl (eff_loadA rfl ty1080 rfl rfl rfl) rfl ?_;refine st rfl rfl (eff_call rfl K1116 rfl (c1116 y5 a2) (ag_cons rfl (ag_cons rfl ag_nil))) rfl ?_;refine st rfl rfl (eff_not rfl rfl) rfl ?_;refine st_nil ?_;refine aw_cond _ rfl (fun h5 => ?_) (fun h5 => ?_)
     ·replace h5 : (!(s1116 y5 a2)) = true := h5;replace hR := condT hR h5;(try simp only [Bool.or_eq_true, Bool.and_eq_true, Bool.or_eq_false_iff, Bool.and_eq_false_iff, Bool.not_eq_true', Bool.not_eq_false', decide_eq_true_eq, decide_eq_false_iff_not] at h5);refine aw_exit ?_;exact ⟨rfl, (x1, x3), ⟨rfl, rfl, rfl, rfl, rfl, rfl, rfl, trivial⟩, ⟨rfl, trivial⟩, rfl, hR, trivial⟩
     ·replace h5 : (!(s1116 y5 a2)) = false := h5;replace hR := condF hR h5;(try simp only [Bool.or_eq_true, Bool.and_eq_true, Bool.or_eq_false_iff, Bool.and_eq_false_iff, Bool.not_eq_true', Bool.not_eq_false', decide_eq_true_eq, decide_eq_false_iff_not] at h5);refine aw_skip ?_;refine aw_seq ?_;refine aw_region [.p] ?_;refine st rfl rfl (eff_assigng rfl rfl) rfl ?_;refine st_nil ?_;refine aw_seq ?_;obtain ⟨r9, br9, hR⟩ := bindO_inv hR;have hlm := len1111 br9 hb1;have hyo := hsl _ (List.mem_of_getElem? hx1);refine aw_region [.r, .p, .p, .w, .w] ?_;refine st_r rfl rfl (eff_loadOA rfl ty1064 rfl rfl rfl rfl) rfl ?_;refine st rfl rfl (eff_moveg rfl rfl) rfl ?_;refine st rfl rfl (eff_call rfl K1111 rfl (c1111 y5 a1 (by first | assumption | omega | (simp [copyL_len]; done) | (simp [copyL_len]; omega)) br9) (ag_cons rfl (ag_cons rfl ag_nil))) rfl ?_;refine st_w rfl rfl (eff_alloc 13 rfl z1196 rfl rfl) rfl ?_;refine st_wn rfl rfl (eff_store (tv := .g (G.agg [G.sl 1 (List.map cInt r9.moments), G.sl 1 (List.map cInt r9.before)])) rfl ty1196 rfl rfl rfl rfl rfl) ?_;refine st_nil ?_;refine aw_seq ?_;refine aw_region [.r, .p, .p, .p] ?_;refine st_r rfl rfl (eff_loadOA rfl ty1064 rfl rfl rfl rfl) rfl ?_;refine st rfl rfl (eff_fieldAddr rfl fl1080_0 rfl) rfl ?_;refine st rfl rfl (eff_load rfl ty3 rfl) rfl ?_;refine st rfl rfl (eff_call rfl K1114 rfl (c1114 y5 a2.Moment) (ag_cons rfl (ag_cons rfl ag_nil))) rfl ?_;refine st_nil ?_;refine aw_block ?_;refine aw_rangeC (α := Int) (γ := Int) (enc := (Value.int .i64)) (l := [(1, .g (G.sl 7 (List.map S1079.c a1))), (5, .g (G.ref [G.int a2.Moment, G.str a2.Kind, G.str a2.Terminal, G.int a2.Seats, G.int a2.Size, G.int a2.Noise, G.str a2.Name])), (9, .ptr 9 0), (10, .g (G.bool true)), (12, .ptr 12 0), (13, .ptr 13 0), (27, .g (G.sl 5 (List.map S1063.c a0))), (28, .g (G.int (List.length a0 : Int))), (29, .g (G.int ((k4 : Nat) : Int))), (43, .g (G.fn (.func 111) [] [G.ref [G.int a2.Moment], G.ref [G.str y5.Terminal, G.str y5.Kind, G.int y5.Length, G.int y5.Step, G.int y5.Most]]))]) (winsOf y5 a2.Moment) (fun g => [(9, .box [.g (G.int g)]), (12, .box [.g (G.str y5.Terminal), .g (G.str y5.Kind), .g (G.int y5.Length), .g (G.int y5.Step), .g (G.int y5.Most)]), (13, .box [.g (G.sl 1 (List.map cInt r9.moments)), .g (G.sl 1 (List.map cInt r9.before))])]) (fun tl_ g => s1045_l2 (fun k_ z0_ z1_ => s1045_l1 a1 a2 t6 k_ z0_ z1_) k4 y5 r9 tl_ g = some R) x3 (fun g y11 => (upd 14 (.g (G.int y11)) (upd 44 (.g (.lit ((Value.int .i64) y11))) (lookT [(1, .g (G.sl 7 (List.map S1079.c a1))), (5, .g (G.ref [G.int a2.Moment, G.str a2.Kind, G.str a2.Terminal, G.int a2.Seats, G.int a2.Size, G.int a2.Noise, G.str a2.Name])), (9, .ptr 9 0), (10, .g (G.bool true)), (12, .ptr 12 0), (13, .ptr 13 0), (27, .g (G.sl 5 (List.map S1063.c a0))), (28, .g (G.int (List.length a0 : Int))), (29, .g (G.int ((k4 : Nat) : Int))), (43, .g (G.fn (.func 111) [] [G.ref [G.int a2.Moment], G.ref [G.str y5.Terminal, G.str y5.Kind, G.int y5.Length, G.int y5.Step, G.int y5.Most]]))])), [(9, .box [.g (G.int g)]), (12, .box [.g (G.str y5.Terminal), .g (G.str y5.Kind), .g (G.int y5.Length), .g (G.int y5.Step), .g (G.int y5.Most)]), (13, .box [.g (G.sl 1 (List.map cInt r9.moments)), .g (G.sl 1 (List.map cInt r9.before))])])) rfl ⟨rfl, rfl, rfl, rfl, rfl, rfl, rfl, rfl, rfl, rfl, trivial⟩ ⟨rfl, rfl, rfl, trivial⟩ rfl rfl K1156 (win_ok hyo hmo.m0 hmo.m1) (by exact hR) rfl (fun _ => rfl) (fun _ => rfl) ?_ (fun _ _ => rfl) ?_ ?_
      ·rintro y11 x10 lp_ w1_ M1_ x1_;refine aw_region [.p] ?_;refine st rfl rfl (eff_assigng rfl rfl) rfl ?_;refine st_nil ?_;exact ⟨rfl, rfl⟩
      ·rintro y11 t12 x10 hx2 hR lp_ w1_ M1_ x1_;replace hR : s1045_l2 (fun k_ z0_ z1_ => s1045_l1 a1 a2 t6 k_ z0_ z1_) k4 y5 r9 (y11 :: t12) x10 = some R := hR;rw [s1045_l2] at hR;(try dsimp only at hR);refine aw_block ?_;obtain ⟨r13, br13, hR⟩ := bindO_inv hR;refine aw_draw [.r, .p, .r, .r, .p, .p, .r, .p, .p, .p, .w] (by kernel_rfl) ?_;refine st_r rfl rfl (eff_loadO rfl ty3 rfl rfl rfl) rfl ?_;refine st rfl rfl (eff_fieldO rfl fl1064_4 rfl) rfl ?_;refine st_r rfl rfl (eff_loadO rfl ty3 rfl rfl rfl) rfl ?_;refine st_r rfl rfl (eff_loadOA rfl ty1196 rfl rfl rfl rfl) rfl ?_;refine st rfl rfl (eff_moveg rfl rfl) rfl ?_;refine st rfl rfl (eff_fieldO rfl fl1064_2 rfl) rfl ?_;refine st_r rfl rfl (eff_loadO rfl ty3 rfl rfl rfl) rfl ?_;refine st rfl rfl (eff_call rfl K1112 rfl (c1112 r9 y11 y5.Length (by first | assumption | omega | (simp [copyL_len]; done) | (simp [copyL_len]; omega)) br13) (ag_cons rfl (ag_cons rfl (ag_cons rfl ag_nil)))) rfl ?_;refine st rfl rfl (eff_subw rfl rfl rfl) rfl ?_;refine st rfl rfl (eff_min rfl rfl rfl) rfl ?_;refine st_wn rfl rfl (eff_store (tv := .g (G.int (min x10 (IntKind.i64.wrap (y5.Most - r13))))) rfl ty3 rfl rfl rfl rfl rfl) ?_;refine st_nil ?_;exact ⟨min x10 (IntKind.i64.wrap (y5.Most - r13)), hR, ⟨rfl, rfl, rfl, trivial⟩⟩
      ·rintro x10 hR;replace hR : s1045_l2 (fun k_ z0_ z1_ => s1045_l1 a1 a2 t6 k_ z0_ z1_) k4 y5 r9 [] x10 = some R := hR;rw [s1045_l2] at hR;(try dsimp only at hR);exact ⟨rfl, (true, x10), ⟨rfl, rfl, rfl, rfl, rfl, rfl, rfl, trivial⟩, ⟨rfl, trivial⟩, rfl, hR, trivial⟩
    ·rintro ⟨x7, x8⟩ hR;replace hR : s1045_j1 (fun k_ z0_ z1_ => s1045_l1 a1 a2 t6 k_ z0_ z1_) k4 x7 x8 = some R := hR;unfold s1045_j1 at hR;refine aw_region [.p, .p] ?_;refine st rfl rfl (eff_add rfl rfl rfl (by unfold I64; omega)) rfl ?_;refine st rfl rfl (eff_moveg rfl rfl) rfl ?_;refine st_nil ?_;exact ⟨rfl, (k4 + 1, t6, x7, x8), ⟨rfl, rfl, rfl, rfl, rfl, rfl, rfl, trivial⟩, ⟨rfl, trivial⟩, rfl, ⟨hd, hR⟩, by simp⟩
   ·replace h2 : (decide (((k4 : Nat) : Int) < (List.length a0 : Int))) = false := h2;obtain rfl := drop_nil hd (decF h2);rw [s1045_l1] at hR;refine aw_exit ?_;refine aw_seq ?_;refine aw_seq ?_;refine aw_region [.p, .p] ?_;refine st rfl rfl (eff_moveg rfl rfl) rfl ?_;refine st rfl rfl (eff_not rfl rfl) rfl ?_;refine st_nil ?_;refine aw_cond _ rfl (fun h4 => ?_) (fun h4 => ?_)
    ·replace h4 : (!x1) = true := h4;replace hR := condT hR h4;(try simp only [Bool.or_eq_true, Bool.and_eq_true, Bool.or_eq_false_iff, Bool.and_eq_false_iff, Bool.not_eq_true', Bool.not_eq_false', decide_eq_true_eq, decide_eq_false_iff_not] at h4);refine aw_seq ?_;refine aw_region [.p, .p] ?_;refine st rfl rfl (eff_assigng rfl rfl) rfl ?_;refine st rfl rfl (eff_assigng rfl rfl) rfl ?_;refine st_nil ?_;refine aw_ret ?_;obtain rfl := Option.some.inj hR;exact resN rfl ⟨rv_g rfl, rv_g rfl, trivial⟩ (by simp)
    ·replace h4 : (!x1) = false := h4;replace hR := condF hR h4;(try simp only [Bool.or_eq_true, Bool.and_eq_true, Bool.or_eq_false_iff, Bool.and_eq_false_iff, Bool.not_eq_true', Bool.not_eq_false', decide_eq_true_eq, decide_eq_false_iff_not] at h4);refine aw_skip ?_;refine aw_seq ?_;refine aw_region [.r, .p, .p, .p] ?_;refine st_r rfl rfl (eff_loadO rfl ty3 rfl rfl rfl) rfl ?_;refine st rfl rfl (eff_max rfl rfl rfl) rfl ?_;refine st rfl rfl (eff_assigng rfl rfl) rfl ?_;refine st rfl rfl (eff_assigng rfl rfl) rfl ?_;refine st_nil ?_;refine aw_ret ?_;obtain rfl := Option.some.inj hR;exact resN rfl ⟨rv_g rfl, rv_g rfl, trivial⟩ (by simp)
theorem moms1111 {a : S1063} {l : List S1079} {r : S1195} (h : s1111 a l = some r) (hm : ∀ m ∈ l, MovOk m) (hl : l.length ≤ 12) {t : Int} (ht : t ∈ r.moments) : 0 ≤ t ∧ t ≤ 143999999 := by
 rw [s1111_ok a (fun m hmm => ⟨(hm m hmm).s0, (hm m hmm).s1⟩) hl] at h
 cases h
 obtain ⟨y, hy, rfl⟩ := List.mem_map.1 ht;have hy2 := hm y (List.mem_filter.1 ((isort_perm ltM (l.filter fun m => s1116 a m)).mem_iff.1 hy)).1;exact ⟨hy2.m0, hy2.m1⟩
theorem exc_in {a0 : List S1063} {a1 : List S1079} (h : ¬ s1085 [(s1029 a0), (s1027 a1)] ≠ 0) : (∀ x ∈ a0, SeatOk x) ∧ (∀ m ∈ a1, MovOk m) := by
 have h := Decidable.not_not.1 h;rw [s1085_eq, s89_zero] at h;exact ⟨(seats_ok (h (s1029 a0) (by simp))).2, (movs_ok (h (s1027 a1) (by simp))).2⟩
end Go.Sim
set_option maxRecDepth 10000
namespace Go.Sim
open Go.Proofs
def s1043_l3 (rec2 : Nat → Int → Int → Int → Int → Option (S1071 × Int)) (k6 : Nat) (y7 : S1063) (r9 : S1195) (k15 : Nat) : List Int → Int → Int → Int → Int → Option (S1071 × Int)
 | [], x18, x19, x20, x21 => rec2 (k15 + 1) x18 x19 x20 x21
 | y22 :: t23, x18, x19, x20, x21 => bindO (s1112 r9 y22 y7.Length) fun r24 => (bif decide (y7.Most < r24) then some ((S1071.mk ((k6 : Nat) : Int) y22 r24), 0) else s1043_l3 rec2 k6 y7 r9 k15 t23 x18 x19 x20 x21)
def s1043_l2 (rec1 : Nat → Int → Int → Int → Int → Option (S1071 × Int)) (k6 : Nat) (y7 : S1063) (r9 : S1195) : List Int → Nat → Int → Int → Int → Int → Option (S1071 × Int)
 | [], k15, x11, x12, x13, x14 => rec1 (k6 + 1) x11 x12 x13 x14
 | y16 :: t17, k15, x11, x12, x13, x14 => s1043_l3 (fun k_ z0_ z1_ z2_ z3_ => s1043_l2 rec1 k6 y7 r9 t17 k_ z0_ z1_ z2_ z3_) k6 y7 r9 k15 (winsOf y7 y16) x11 x12 x13 x14
def s1043_l1 (a1 : List S1079) : List S1063 → Nat → Int → Int → Int → Int → Option (S1071 × Int)
 | [], k6, x2, x3, x4, x5 => some ((S1071.mk 0 0 0), 7)
 | y7 :: t8, k6, x2, x3, x4, x5 => bindO (s1111 y7 a1) fun r9 => s1043_l2 (fun k_ z0_ z1_ z2_ z3_ => s1043_l1 a1 t8 k_ z0_ z1_ z2_ z3_) k6 y7 r9 r9.moments 0 x2 x3 x4 x5
def s1043 (a0 : List S1063) (a1 : List S1079) : Option (S1071 × Int) :=
 (bif decide ((s1085 [(s1029 a0), (s1027 a1)]) ≠ 0) then some ((S1071.mk 0 0 0), (s1085 [(s1029 a0), (s1027 a1)])) else s1043_l1 a1 a0 0 0 0 0 0)
theorem c1043 {g : List (Nat × List Value)} (a0 : List S1063) (a1 : List S1079) {R : S1071 × Int}  (hb : ¬ s1085 [(s1029 a0), (s1027 a1)] ≠ 0 → a1.length ≤ 12) (hR : s1043 a0 a1 = some R) : Con (EG g) 19 [G.sl 5 (List.map S1063.c a0), G.sl 7 (List.map S1079.c a1)] (G.tup [G.agg [G.int R.1.Limit, G.int R.1.Moment, G.int R.1.Seats], G.int R.2]) := by
 unfold s1043 at hR;refine con_of_awm Tryz.func19 rfl rfl (inert_tup (inert_cons (inert_agg (inert_cons (inert_lit _) (inert_cons (inert_lit _) (inert_cons (inert_lit _) inert_nil)))) (inert_cons (inert_lit _) inert_nil))) fun w0 M0 => ?_;refine len_sl (f := S1063.c) (l := a0) 0 rfl fun hla0 => ?_;refine len_sl (f := S1079.c) (l := a1) 1 rfl fun hla1 => ?_;refine aw_seq ?_;refine aw_region [.w, .w] ?_;refine st_w rfl rfl (eff_alloc 4 rfl z1072 rfl rfl) rfl ?_;refine st_w rfl rfl (eff_alloc 5 rfl z37 rfl rfl) rfl ?_;refine st_nil ?_;refine aw_seq ?_;refine aw_seq ?_;refine aw_region [.p, .p, .p, .p, .p, .p, .p] ?_;refine st rfl rfl (eff_moveg rfl rfl) rfl ?_;refine st rfl rfl (eff_call rfl K1029 rfl (c1029 a0) (ag_cons rfl ag_nil)) rfl ?_;refine st rfl rfl (eff_moveg rfl rfl) rfl ?_;refine st rfl rfl (eff_call rfl K1027 rfl (c1027 a1) (ag_cons rfl ag_nil)) rfl ?_;refine st rfl rfl (eff_buildSlice rfl Tryz.underlying131 ty37 z37 rfl (ps_cons rfl (ps_cons rfl ps_nil)) rfl (by simp []) (by decide)) rfl ?_;refine st rfl rfl (eff_call rfl K1085 rfl (c1085 [(s1029 a0), (s1027 a1)]) (ag_cons rfl ag_nil)) rfl ?_;refine st rfl rfl (eff_assigng rfl rfl) rfl ?_;refine st_nil ?_;refine aw_seq ?_;refine aw_region [.p, .p] ?_;refine st rfl rfl (eff_moveg rfl rfl) rfl ?_;refine st rfl rfl (eff_neq rfl rfl rfl) rfl ?_;refine st_nil ?_;refine aw_cond _ rfl (fun h1 => ?_) (fun h1 => ?_)
 ·replace h1 : (decide ((s1085 [(s1029 a0), (s1027 a1)]) ≠ 0)) = true := h1;replace hR := condT hR h1;(try simp only [Bool.or_eq_true, Bool.and_eq_true, Bool.or_eq_false_iff, Bool.and_eq_false_iff, Bool.not_eq_true', Bool.not_eq_false', decide_eq_true_eq, decide_eq_false_iff_not] at h1);refine aw_seq ?_;refine aw_region [.p, .p, .w, .w] ?_;refine st rfl rfl (eff_build rfl z1072 rfl pl1072 pb_nil rfl) rfl ?_;refine st rfl rfl (eff_moveg rfl rfl) rfl ?_;refine st_wn rfl rfl (eff_store (tv := .g (G.agg [G.int 0, G.int 0, G.int 0])) rfl ty1072 rfl rfl rfl rfl rfl) ?_;refine st_wn rfl rfl (eff_store (tv := .g (G.int (s1085 [(s1029 a0), (s1027 a1)]))) rfl ty37 rfl rfl rfl rfl rfl) ?_;refine st_nil ?_;refine aw_ret ?_;obtain rfl := Option.some.inj hR;exact resN rfl ⟨rv_cell rfl rfl ty1072 rfl rfl, rv_cell1 rfl rfl ty37 rfl, trivial⟩ (by simp)
 ·replace h1 : (decide ((s1085 [(s1029 a0), (s1027 a1)]) ≠ 0)) = false := h1;replace hR := condF hR h1;(try simp only [Bool.or_eq_true, Bool.and_eq_true, Bool.or_eq_false_iff, Bool.and_eq_false_iff, Bool.not_eq_true', Bool.not_eq_false', decide_eq_true_eq, decide_eq_false_iff_not] at h1);have hb1 := hb h1;obtain ⟨hsl, hmv⟩ := exc_in h1;refine aw_skip ?_;refine aw_seq ?_;refine aw_seq ?_;refine aw_region [.p, .p, .p] ?_;refine st rfl rfl (eff_moveg rfl rfl) rfl ?_;refine st rfl rfl (eff_lenM (f := S1063.c) (l := a0) rfl Tryz.underlying77 rfl) rfl ?_;refine st rfl rfl (eff_moveg rfl rfl) rfl ?_;refine st_nil ?_;refine aw_block ?_;refine aw_loop_g (γ := Nat × (List S1063) × Int × Int × Int × Int) (fun g => ([(1, .g (G.sl 7 (List.map S1079.c a1))), (4, .ptr 4 0), (5, .ptr 5 0), (24, .g (G.sl 5 (List.map S1063.c a0))), (25, .g (G.int (List.length a0 : Int))), (26, .g (G.int ((g.1 : Nat) : Int)))], [(4, .box [.g (G.int g.2.2.2.1), .g (G.int g.2.2.2.2.1), .g (G.int g.2.2.2.2.2)]), (5, .box [.g (G.int g.2.2.1)])])) (fun g => a0.drop g.1 = g.2.1 ∧ s1043_l1 a1 g.2.1 g.1 g.2.2.1 g.2.2.2.1 g.2.2.2.2.1 g.2.2.2.2.2 = some R) (fun g => List.length g.2.1) ⟨rfl, (0, a0, 0, 0, 0, 0), ⟨rfl, rfl, rfl, rfl, rfl, rfl, trivial⟩, ⟨rfl, rfl, trivial⟩, rfl, ⟨rfl, hR⟩, trivial⟩ ?_
  ·rintro ⟨k6, t8, x2, x3, x4, x5⟩ ⟨hd, hR⟩;replace hd : a0.drop k6 = t8 := hd;replace hR : s1043_l1 a1 t8 k6 x2 x3 x4 x5 = some R := hR;refine aw_seq ?_;refine aw_region [.p] ?_;refine st rfl rfl (eff_lss rfl rfl rfl) rfl ?_;refine st_nil ?_;refine len_sl (f := S1063.c) (l := a0) 24 rfl fun hlz1 => ?_;refine aw_seq ?_;refine aw_cond _ rfl (fun h2 => ?_) (fun h2 => ?_)
   ·replace h2 : (decide (((k6 : Nat) : Int) < (List.length a0 : Int))) = true := h2;obtain ⟨y7, t8, rfl, hx1, hd⟩ := drop_cons hd (decT h2);replace h2 := decT h2;rw [s1043_l1] at hR;(try dsimp only at hR);refine aw_skip ?_;refine aw_seq ?_;refine aw_block ?_;refine aw_seq ?_;refine aw_region [.p, .p, .p, .w, .w, .w, .w] ?_;refine st rfl rfl (eff_moveg rfl rfl) rfl ?_;refine st rfl rfl (eff_ix (f := S1063.c) (l := a0) (a := y7) rfl Tryz.underlying77 ty1064 rfl rfl (Int.natCast_nonneg _) hx1) rfl ?_;refine st rfl rfl (eff_loadA rfl ty1064 rfl rfl rfl) rfl ?_;refine st_w rfl rfl (eff_alloc 7 rfl z3 rfl rfl) rfl ?_;refine st_w rfl rfl (eff_alloc 8 rfl z1064 rfl rfl) rfl ?_;refine st_wn rfl rfl (eff_store (tv := .g (G.int ((k6 : Nat) : Int))) rfl ty3 rfl rfl rfl rfl rfl) ?_;refine st_wn rfl rfl (eff_store (tv := .g (G.agg [G.str y7.Terminal, G.str y7.Kind, G.int y7.Length, G.int y7.Step, G.int y7.Most])) rfl ty1064 rfl rfl rfl rfl rfl) ?_;refine st_nil ?_;refine aw_seq ?_;obtain ⟨r9, br9, hR⟩ := bindO_inv hR;have hlm := len1111 br9 hb1;have hyo := hsl _ (List.mem_of_getElem? hx1);refine aw_region [.r, .p, .p, .w, .w] ?_;refine st_r rfl rfl (eff_loadOA rfl ty1064 rfl rfl rfl rfl) rfl ?_;refine st rfl rfl (eff_moveg rfl rfl) rfl ?_;refine st rfl rfl (eff_call rfl K1111 rfl (c1111 y7 a1 (by first | assumption | omega | (simp [copyL_len]; done) | (simp [copyL_len]; omega)) br9) (ag_cons rfl (ag_cons rfl ag_nil))) rfl ?_;refine st_w rfl rfl (eff_alloc 9 rfl z1196 rfl rfl) rfl ?_;refine st_wn rfl rfl (eff_store (tv := .g (G.agg [G.sl 1 (List.map cInt r9.moments), G.sl 1 (List.map cInt r9.before)])) rfl ty1196 rfl rfl rfl rfl rfl) ?_;refine st_nil ?_;refine aw_seq ?_;refine aw_region [.p, .r, .p, .p] ?_;refine st rfl rfl (eff_fieldO rfl fl1196_0 rfl) rfl ?_;refine st_r rfl rfl (eff_loadO rfl ty82 rfl rfl rfl) rfl ?_;refine st rfl rfl (eff_lenM (f := cInt) (l := r9.moments) rfl Tryz.underlying51 rfl) rfl ?_;refine st rfl rfl (eff_moveg rfl rfl) rfl ?_;refine st_nil ?_;refine aw_block ?_;refine aw_loop_g (γ := Nat × (List Int) × Int × Int × Int × Int) (fun g => ([(1, .g (G.sl 7 (List.map S1079.c a1))), (4, .ptr 4 0), (5, .ptr 5 0), (7, .ptr 7 0), (8, .ptr 8 0), (9, .ptr 9 0), (24, .g (G.sl 5 (List.map S1063.c a0))), (25, .g (G.int (List.length a0 : Int))), (26, .g (G.int ((k6 : Nat) : Int))), (35, .g (G.sl 1 (List.map cInt r9.moments))), (36, .g (G.int (List.length r9.moments : Int))), (37, .g (G.int ((g.1 : Nat) : Int)))], [(4, .box [.g (G.int g.2.2.2.1), .g (G.int g.2.2.2.2.1), .g (G.int g.2.2.2.2.2)]), (5, .box [.g (G.int g.2.2.1)]), (7, .box [.g (G.int ((k6 : Nat) : Int))]), (8, .box [.g (G.str y7.Terminal), .g (G.str y7.Kind), .g (G.int y7.Length), .g (G.int y7.Step), .g (G.int y7.Most)]), (9, .box [.g (G.sl 1 (List.map cInt r9.moments)), .g (G.sl 1 (List.map cInt r9.before))])])) (fun g => r9.moments.drop g.1 = g.2.1 ∧ s1043_l2 (fun k_ z0_ z1_ z2_ z3_ => s1043_l1 a1 t8 k_ z0_ z1_ z2_ z3_) k6 y7 r9 g.2.1 g.1 g.2.2.1 g.2.2.2.1 g.2.2.2.2.1 g.2.2.2.2.2 = some R) (fun g => List.length g.2.1) ⟨rfl, (0, r9.moments, x2, x3, x4, x5), ⟨rfl, rfl, rfl, rfl, rfl, rfl, rfl, rfl, rfl, rfl, rfl, rfl, trivial⟩, ⟨rfl, rfl, rfl, rfl, rfl, trivial⟩, rfl, ⟨rfl, hR⟩, trivial⟩ ?_
    ·rintro ⟨k15, t17, x11, x12, x13, x14⟩ ⟨hd2, hR⟩;replace hd2 : r9.moments.drop k15 = t17 := hd2;replace hR : s1043_l2 (fun k_ z0_ z1_ z2_ z3_ => s1043_l1 a1 t8 k_ z0_ z1_ z2_ z3_) k6 y7 r9 t17 k15 x11 x12 x13 x14 = some R := hR;refine aw_seq ?_;refine aw_region [.p] ?_;refine st rfl rfl (eff_lss rfl rfl rfl) rfl ?_;refine st_nil ?_;refine len_sl (f := cInt) (l := r9.moments) 35 rfl fun hlz2 => ?_;refine aw_seq ?_;refine aw_cond _ rfl (fun h4 => ?_) (fun h4 => ?_)
     ·replace h4 : (decide (((k15 : Nat) : Int) < (List.length r9.moments : Int))) = true := h4;obtain ⟨y16, t17, rfl, hx2, hd2⟩ := drop_cons hd2 (decT h4);replace h4 := decT h4;rw [s1043_l2] at hR;(try dsimp only at hR);refine aw_skip ?_;refine aw_seq ?_;refine aw_block ?_;refine aw_seq ?_;refine aw_region [.p, .p, .p] ?_;refine st rfl rfl (eff_ix (f := cInt) (l := r9.moments) (a := y16) rfl Tryz.underlying51 ty3 rfl rfl (Int.natCast_nonneg _) hx2) rfl ?_;refine st rfl rfl (eff_load rfl ty3 rfl) rfl ?_;refine st rfl rfl (eff_assigng rfl rfl) rfl ?_;refine st_nil ?_;refine aw_seq ?_;have hmb := moms1111 br9 hmv hb1 (List.mem_of_getElem? hx2);refine aw_region [.r, .p, .p] ?_;refine st_r rfl rfl (eff_loadOA rfl ty1064 rfl rfl rfl rfl) rfl ?_;refine st rfl rfl (eff_moveg rfl rfl) rfl ?_;refine st rfl rfl (eff_call rfl K1114 rfl (c1114 y7 y16) (ag_cons rfl (ag_cons rfl ag_nil))) rfl ?_;refine st_nil ?_;refine aw_block ?_;refine aw_rangeC (α := Int) (γ := Int × Int × Int × Int) (enc := (Value.int .i64)) (l := [(1, .g (G.sl 7 (List.map S1079.c a1))), (4, .ptr 4 0), (5, .ptr 5 0), (7, .ptr 7 0), (8, .ptr 8 0), (9, .ptr 9 0), (24, .g (G.sl 5 (List.map S1063.c a0))), (25, .g (G.int (List.length a0 : Int))), (26, .g (G.int ((k6 : Nat) : Int))), (35, .g (G.sl 1 (List.map cInt r9.moments))), (36, .g (G.int (List.length r9.moments : Int))), (37, .g (G.int ((k15 : Nat) : Int))), (43, .g (G.fn (.func 111) [] [G.ref [G.int y16], G.ref [G.str y7.Terminal, G.str y7.Kind, G.int y7.Length, G.int y7.Step, G.int y7.Most]]))]) (winsOf y7 y16) (fun g => [(4, .box [.g (G.int g.2.1), .g (G.int g.2.2.1), .g (G.int g.2.2.2)]), (5, .box [.g (G.int g.1)]), (7, .box [.g (G.int ((k6 : Nat) : Int))]), (8, .box [.g (G.str y7.Terminal), .g (G.str y7.Kind), .g (G.int y7.Length), .g (G.int y7.Step), .g (G.int y7.Most)]), (9, .box [.g (G.sl 1 (List.map cInt r9.moments)), .g (G.sl 1 (List.map cInt r9.before))])]) (fun tl_ g => s1043_l3 (fun k_ z0_ z1_ z2_ z3_ => s1043_l2 (fun k_ z0_ z1_ z2_ z3_ => s1043_l1 a1 t8 k_ z0_ z1_ z2_ z3_) k6 y7 r9 t17 k_ z0_ z1_ z2_ z3_) k6 y7 r9 k15 tl_ g.1 g.2.1 g.2.2.1 g.2.2.2 = some R) (x11, x12, x13, x14) (fun g y22 => (upd 12 (.g (G.int y22)) (upd 44 (.g (.lit ((Value.int .i64) y22))) (lookT [(1, .g (G.sl 7 (List.map S1079.c a1))), (4, .ptr 4 0), (5, .ptr 5 0), (7, .ptr 7 0), (8, .ptr 8 0), (9, .ptr 9 0), (24, .g (G.sl 5 (List.map S1063.c a0))), (25, .g (G.int (List.length a0 : Int))), (26, .g (G.int ((k6 : Nat) : Int))), (35, .g (G.sl 1 (List.map cInt r9.moments))), (36, .g (G.int (List.length r9.moments : Int))), (37, .g (G.int ((k15 : Nat) : Int))), (43, .g (G.fn (.func 111) [] [G.ref [G.int y16], G.ref [G.str y7.Terminal, G.str y7.Kind, G.int y7.Length, G.int y7.Step, G.int y7.Most]]))])), [(4, .box [.g (G.int g.2.1), .g (G.int g.2.2.1), .g (G.int g.2.2.2)]), (5, .box [.g (G.int g.1)]), (7, .box [.g (G.int ((k6 : Nat) : Int))]), (8, .box [.g (G.str y7.Terminal), .g (G.str y7.Kind), .g (G.int y7.Length), .g (G.int y7.Step), .g (G.int y7.Most)]), (9, .box [.g (G.sl 1 (List.map cInt r9.moments)), .g (G.sl 1 (List.map cInt r9.before))])])) rfl ⟨rfl, rfl, rfl, rfl, rfl, rfl, rfl, rfl, rfl, rfl, rfl, rfl, rfl, trivial⟩ ⟨rfl, rfl, rfl, rfl, rfl, trivial⟩ rfl rfl K1156 (win_ok hyo hmb.1 hmb.2) (by exact hR) rfl (fun _ => rfl) (fun _ => rfl) ?_ (fun _ _ => rfl) ?_ ?_
      ·rintro y22 ⟨x18, x19, x20, x21⟩ lp_ w1_ M1_ x1_;refine aw_region [.p] ?_;refine st rfl rfl (eff_assigng rfl rfl) rfl ?_;refine st_nil ?_;exact ⟨rfl, rfl⟩
      ·rintro y22 t23 ⟨x18, x19, x20, x21⟩ hx3 hR lp_ w1_ M1_ x1_;replace hR : s1043_l3 (fun k_ z0_ z1_ z2_ z3_ => s1043_l2 (fun k_ z0_ z1_ z2_ z3_ => s1043_l1 a1 t8 k_ z0_ z1_ z2_ z3_) k6 y7 r9 t17 k_ z0_ z1_ z2_ z3_) k6 y7 r9 k15 (y22 :: t23) x18 x19 x20 x21 = some R := hR;rw [s1043_l3] at hR;(try dsimp only at hR);refine aw_block ?_;refine aw_seq ?_;obtain ⟨r24, br24, hR⟩ := bindO_inv hR;refine aw_region [.r, .p, .p, .r, .p, .p] ?_;refine st_r rfl rfl (eff_loadOA rfl ty1196 rfl rfl rfl rfl) rfl ?_;refine st rfl rfl (eff_moveg rfl rfl) rfl ?_;refine st rfl rfl (eff_fieldO rfl fl1064_2 rfl) rfl ?_;refine st_r rfl rfl (eff_loadO rfl ty3 rfl rfl rfl) rfl ?_;refine st rfl rfl (eff_call rfl K1112 rfl (c1112 r9 y22 y7.Length (by first | assumption | omega | (simp [copyL_len]; done) | (simp [copyL_len]; omega)) br24) (ag_cons rfl (ag_cons rfl (ag_cons rfl ag_nil)))) rfl ?_;refine st rfl rfl (eff_assigng rfl rfl) rfl ?_;refine st_nil ?_;refine aw_seq ?_;refine aw_region [.p, .p, .r, .p] ?_;refine st rfl rfl (eff_moveg rfl rfl) rfl ?_;refine st rfl rfl (eff_fieldO rfl fl1064_4 rfl) rfl ?_;refine st_r rfl rfl (eff_loadO rfl ty3 rfl rfl rfl) rfl ?_;refine st rfl rfl (eff_gtr rfl rfl rfl) rfl ?_;refine st_nil ?_;refine aw_cond _ rfl (fun h6 => ?_) (fun h6 => ?_)
       ·replace h6 : (decide (y7.Most < r24)) = true := h6;replace hR := condT hR h6;(try simp only [Bool.or_eq_true, Bool.and_eq_true, Bool.or_eq_false_iff, Bool.and_eq_false_iff, Bool.not_eq_true', Bool.not_eq_false', decide_eq_true_eq, decide_eq_false_iff_not] at h6);refine aw_seq ?_;refine aw_region [.r, .p, .p, .p, .w, .w] ?_;refine st_r rfl rfl (eff_loadO rfl ty3 rfl rfl rfl) rfl ?_;refine st rfl rfl (eff_moveg rfl rfl) rfl ?_;refine st rfl rfl (eff_moveg rfl rfl) rfl ?_;refine st rfl rfl (eff_build rfl z1072 rfl pl1072 (pb_cons rfl (pb_cons rfl (pb_cons rfl pb_nil))) rfl) rfl ?_;refine st_wn rfl rfl (eff_store (tv := .g (G.agg [G.int ((k6 : Nat) : Int), G.int y22, G.int r24])) rfl ty1072 rfl rfl rfl rfl rfl) ?_;refine st_wn rfl rfl (eff_store (tv := .g (G.int 0)) rfl ty37 rfl rfl rfl rfl rfl) ?_;refine st_nil ?_;refine aw_ret ?_;refine ⟨[(4, .box [.g (G.int ((k6 : Nat) : Int)), .g (G.int y22), .g (G.int r24)]), (5, .box [.g (G.int 0)]), (7, .box [.g (G.int ((k6 : Nat) : Int))]), (8, .box [.g (G.str y7.Terminal), .g (G.str y7.Kind), .g (G.int y7.Length), .g (G.int y7.Step), .g (G.int y7.Most)]), (9, .box [.g (G.sl 1 (List.map cInt r9.moments)), .g (G.sl 1 (List.map cInt r9.before))])], ?_, rfl, rfl, ⟨rfl, rfl, rfl, rfl, rfl, trivial⟩⟩;refine aw_ret ?_;obtain rfl := Option.some.inj hR;exact resN rfl ⟨rv_cell rfl rfl ty1072 rfl rfl, rv_cell1 rfl rfl ty37 rfl, trivial⟩ (by simp)
       ·replace h6 : (decide (y7.Most < r24)) = false := h6;replace hR := condF hR h6;(try simp only [Bool.or_eq_true, Bool.and_eq_true, Bool.or_eq_false_iff, Bool.and_eq_false_iff, Bool.not_eq_true', Bool.not_eq_false', decide_eq_true_eq, decide_eq_false_iff_not] at h6);refine aw_skip ?_;exact ⟨(x18, x19, x20, x21), hR, ⟨rfl, rfl, rfl, rfl, rfl, trivial⟩⟩
      ·rintro ⟨x18, x19, x20, x21⟩ hR;replace hR : s1043_l3 (fun k_ z0_ z1_ z2_ z3_ => s1043_l2 (fun k_ z0_ z1_ z2_ z3_ => s1043_l1 a1 t8 k_ z0_ z1_ z2_ z3_) k6 y7 r9 t17 k_ z0_ z1_ z2_ z3_) k6 y7 r9 k15 [] x18 x19 x20 x21 = some R := hR;rw [s1043_l3] at hR;(try dsimp only at hR);refine aw_region [.p, .p] ?_;refine st rfl rfl (eff_add rfl rfl rfl (by unfold I64; omega)) rfl ?_;refine st rfl rfl (eff_moveg rfl rfl) rfl ?_;refine st_nil ?_;exact ⟨rfl, (k15 + 1, t17, x18, x19, x20, x21), ⟨rfl, rfl, rfl, rfl, rfl, rfl, rfl, rfl, rfl, rfl, rfl, rfl, trivial⟩, ⟨rfl, rfl, rfl, rfl, rfl, trivial⟩, rfl, ⟨hd2, hR⟩, by simp⟩
     ·replace h4 : (decide (((k15 : Nat) : Int) < (List.length r9.moments : Int))) = false := h4;obtain rfl := drop_nil hd2 (decF h4);rw [s1043_l2] at hR;refine aw_exit ?_;refine aw_region [.p, .p] ?_;refine st rfl rfl (eff_add rfl rfl rfl (by unfold I64; omega)) rfl ?_;refine st rfl rfl (eff_moveg rfl rfl) rfl ?_;refine st_nil ?_;exact ⟨rfl, (k6 + 1, t8, x11, x12, x13, x14), ⟨rfl, rfl, rfl, rfl, rfl, rfl, trivial⟩, ⟨rfl, rfl, trivial⟩, rfl, ⟨hd, hR⟩, by simp⟩
   ·replace h2 : (decide (((k6 : Nat) : Int) < (List.length a0 : Int))) = false := h2;obtain rfl := drop_nil hd (decF h2);rw [s1043_l1] at hR;refine aw_exit ?_;refine aw_seq ?_;refine aw_region [.p, .w, .w] ?_;refine st rfl rfl (eff_build rfl z1072 rfl pl1072 pb_nil rfl) rfl ?_;refine st_wn rfl rfl (eff_store (tv := .g (G.agg [G.int 0, G.int 0, G.int 0])) rfl ty1072 rfl rfl rfl rfl rfl) ?_;refine st_wn rfl rfl (eff_store (tv := .g (G.int 7)) rfl ty37 rfl rfl rfl rfl rfl) ?_;refine st_nil ?_;refine aw_ret ?_;obtain rfl := Option.some.inj hR;exact resN rfl ⟨rv_cell rfl rfl ty1072 rfl rfl, rv_cell1 rfl rfl ty37 rfl, trivial⟩ (by simp)
class PureCs (l : List G) : Prop where
 pure : PureL l
instance : PureCs [] := ⟨pureL_nil⟩
instance (c : G) (l : List G) [hc : Pure c] [hl : PureCs l] : PureCs (c :: l) := ⟨fun g hg => by
 rcases List.mem_cons.1 hg with rfl | hg
 ·exact fun _ _ _ _ _ h => hc.pure h
 ·exact hl.pure g hg⟩
theorem fitsT_pure {w w' : World} {M M' : Nat → Prop} : ∀ {l : List G} {vs : List Value}, PureL l → FitsT w M l vs → FitsT w' M' l vs
 | [], [], _, h => h
 | [], _ :: _, _, h => by cases h
 | _ :: _, [], _, h => by cases h
 | c :: l, v :: vs, hp, h => ⟨hp c List.mem_cons_self _ _ _ _ _ h.1, fitsT_pure (fun g hg => hp g (List.mem_cons_of_mem _ hg)) h.2⟩
instance (l : List G) [h : PureCs l] : Pure (.agg l) := ⟨fun ⟨vs, h1, h2⟩ => ⟨vs, h1, Fits.pure h.pure h2⟩⟩
instance (l : List G) [h : PureCs l] : Pure (.tup l) := ⟨fun ⟨vs, h1, h2⟩ => ⟨vs, h1, fitsT_pure h.pure h2⟩⟩
end Go.Sim
