/-
  What is proved: lemmas and contracts of functions on the way to the law topChockTotals (part 13).
-/
import Derived.Test.YtfmnmoiaemejjaaGreatVrB3
import Derived.Test.YtfmnmoiaemejjaaGreatVrB2
import Derived.Test.YtfmnmoiaemejjaaGreatVrB1
import Derived.Test.YtfmnmoiaemejjaaGreatVrA8
import Derived.Test.YtfmnmoiaemejjaaGreatVrA3
import Derived.OpenShut
set_option linter.unusedSectionVars false
set_option linter.unusedSimpArgs false
set_option linter.unusedVariables false
set_option linter.unnecessarySimpa false
set_option linter.deprecated false
set_option maxRecDepth 10000
namespace Go.Sim
open Go.Proofs
theorem qsc (m : Int) : ∀ (n : Nat) (f d : Int), d ∈ dayL m n f → inM m d = true
 | 0, f, d, h => by simp [dayL] at h
 | n + 1, f, d, h => by
  unfold dayL at h
  split at h
  ·rcases List.mem_cons.1 h with rfl | h
   ·assumption
   ·exact qsc m n _ d h
  ·exact qsc m n _ d h
theorem qsd {l : S2062} (hp : s102 l.Period = 0) {d : Int} (h : d ∈ s104 l.Period) : l.Period.fFrom ≤ d ∧ d ≤ l.Period.fTo ∧ qi2 l d = true := by
 obtain ⟨q1, q2, q3, q4, q5, q6⟩ := vk _ hp;rw [qnz _ hp] at h;have hr := qd0 _ _ _ d h;have hm := qsc _ _ _ d h;have h1 : l.Period.fFrom ≤ d := hr.1
 have h2 : d ≤ l.Period.fTo := by omega
 refine ⟨h1, h2, ?_⟩
 have h3 : s153 d = 0 := by unfold s153; exact qfw.2 ⟨by omega, by omega⟩
 have h4 : s152 [(s102 l.Period), (s153 d)] = 0 := (qlx _).2 fun x hx => by
  simp only [List.mem_cons, List.not_mem_nil, or_false] at hx
  rcases hx with rfl | rfl
  ·exact hp
  ·exact h3
 have h5 : qqi l.Period d = (qu2 l.Period d, 0) := by
  unfold qqi;rw [h4]; rfl
 unfold qi2;rw [h5];unfold qu2;rw [decide_eq_true h1, decide_eq_true h2];show s187 l.Period.Days (s188 d) = true
 have h6 : s188 d = (d + 5) % 7 := by
  unfold s188;rw [wrap_i64 (by unfold I64; omega), Int.tmod_eq_emod_of_nonneg (by omega)]
 rw [h6];exact hm
theorem qy2 {l : S2062} (hs : 1 ≤ l.Step) {d : Int} (hd : 0 ≤ d ∧ d ≤ 99999) : ∀ (k : Nat) (x1 : List Int) (x2 : Int), 0 ≤ x2 → x2 + (k : Nat) ≤ 2000 →
  xx l d k x1 x2 = x1 ++ (List.range ((x2 + (k : Nat) + l.Step - 1) / l.Step - (x2 + l.Step - 1) / l.Step).toNat).map fun n => 1440 * d + l.Step * ((x2 + l.Step - 1) / l.Step + ((n : Nat) : Int))
 | 0, x1, x2, _, _ => by
  rw [xx, show x2 + ((0 : Nat) : Int) + l.Step - 1 = x2 + l.Step - 1 by omega, Int.sub_self]
  simp
 | k + 1, x1, x2, h0, h1 => by
  have e1 : x2 + ((k + 1 : Nat) : Int) + l.Step - 1 = x2 + 1 + ((k : Nat) : Int) + l.Step - 1 := by omega
  have e2 := Int.emod_add_mul_ediv x2 l.Step;have e3 := Int.emod_lt_of_pos x2 (show 0 < l.Step by omega);have e4 := Int.emod_nonneg x2 (show l.Step ≠ 0 by omega);rw [xx, Int.tmod_eq_emod_of_nonneg h0, cond_eq_ite]
  split
  ·rename_i c
   have c : x2 % l.Step = 0 := of_decide_eq_true c;unfold qct;simp only [];rw [qy2 hs hd k _ (x2 + 1) (by omega) (by omega), wrap_i64 (n := 1440 * d) (by unfold I64; omega), wrap_i64 (by unfold I64; omega), e1]
   have q1 : (x2 + l.Step - 1) / l.Step = x2 / l.Step := by
    rw [show x2 + l.Step - 1 = (l.Step - 1) + l.Step * (x2 / l.Step) by omega, Int.add_mul_ediv_left _ _ (by omega), Int.ediv_eq_zero_of_lt (by omega) (by omega), Int.zero_add]
   have q2 : (x2 + 1 + l.Step - 1) / l.Step = x2 / l.Step + 1 := by
    rw [show x2 + 1 + l.Step - 1 = 0 + l.Step * (x2 / l.Step + 1) by rw [Int.mul_add]; omega, Int.add_mul_ediv_left _ _ (by omega)]; simp
   have q3 : x2 / l.Step + 1 ≤ (x2 + 1 + ((k : Nat) : Int) + l.Step - 1) / l.Step := by
    rw [← q2]; exact Int.ediv_le_ediv (by omega) (by omega)
   rw [q1, q2];generalize (x2 + 1 + ((k : Nat) : Int) + l.Step - 1) / l.Step = E at *;obtain ⟨c', hc'⟩ : ∃ c' : Nat, E - (x2 / l.Step + 1) = (c' : Nat) := ⟨(E - (x2 / l.Step + 1)).toNat, by omega⟩;rw [hc', show (E - x2 / l.Step).toNat = c' + 1 by omega, Int.toNat_natCast, List.range_succ_eq_map, List.map_cons, List.map_map, List.append_assoc]
   congr 1
   rw [List.singleton_append]
   congr 1
   ·show 1440 * d + x2 = 1440 * d + l.Step * (x2 / l.Step + 0);rw [Int.add_zero]; omega
   ·refine List.map_congr_left fun n _ => ?_;show 1440 * d + l.Step * (x2 / l.Step + 1 + ((n : Nat) : Int)) = 1440 * d + l.Step * (x2 / l.Step + ((n + 1 : Nat) : Int));rw [show x2 / l.Step + 1 + ((n : Nat) : Int) = x2 / l.Step + ((n + 1 : Nat) : Int) by omega]
  ·rename_i c
   have c : ¬ x2 % l.Step = 0 := fun h => c (decide_eq_true h);unfold qct;simp only [];rw [qy2 hs hd k _ (x2 + 1) (by omega) (by omega), e1]
   have q1 : (x2 + l.Step - 1) / l.Step = x2 / l.Step + 1 := by
    rw [show x2 + l.Step - 1 = (x2 % l.Step - 1) + l.Step * (x2 / l.Step + 1) by rw [Int.mul_add]; omega, Int.add_mul_ediv_left _ _ (by omega), Int.ediv_eq_zero_of_lt (by omega) (by omega), Int.zero_add]
   have q2 : (x2 + 1 + l.Step - 1) / l.Step = x2 / l.Step + 1 := by
    rw [show x2 + 1 + l.Step - 1 = x2 % l.Step + l.Step * (x2 / l.Step + 1) by rw [Int.mul_add]; omega, Int.add_mul_ediv_left _ _ (by omega), Int.ediv_eq_zero_of_lt (by omega) (by omega), Int.zero_add]
   rw [q1, q2]
theorem q5u {l : S2062} (hl : LimOk l) (hp : s102 l.Period = 0) (hft : l.fFrom ≤ l.fTo) {d : Int} (h : d ∈ s104 l.Period) : qd6 l d = begL l d := by
 obtain ⟨q1, q2, q3, _⟩ := vk _ hp;obtain ⟨h1, h2, h3⟩ := qsd hp h;obtain ⟨b1, b2, b3, b4⟩ := q05 hl;have hs := hl.s0; have f0 := hl.f0; have f1 := hl.f1; have t0 := hl.t0; have t1 := hl.t1;unfold qd6;rw [qy2 hs (by omega) _ [] l.fFrom f0 (by omega), List.nil_append];unfold begL;rw [decide_eq_false (by omega), decide_eq_false (by omega), h3];simp only [Bool.or_self, Bool.not_true, cond_false]
 have e : (l.fFrom + ((l.fTo + 1 - l.fFrom).toNat : Int) + l.Step - 1) / l.Step = l.fTo / l.Step + 1 := by
  rw [show l.fFrom + ((l.fTo + 1 - l.fFrom).toNat : Int) + l.Step - 1 = l.fTo + l.Step * 1 by omega, Int.add_mul_ediv_left _ _ (by omega)]
 have hN : (l.fTo / l.Step + 1 - (l.fFrom + l.Step - 1) / l.Step).toNat = (bN l).toNat := by
  rw [q46 hl, b1]; omega
 rw [e, hN];refine List.map_congr_left fun n hn => ?_;rw [(q2v hl (by omega) (by omega) (List.mem_range.1 hn)).1, b1]
theorem q1k {l : S2062} (hl : LimOk l) (m : S1079) : qu5 l m = qb0 l m.Kind m.Terminal := by
 unfold qu5 qb0;rw [q4t hl.k]
theorem qy3 (x : Int) (t : List Int) (b n : Int) : cntI (x :: t) b n = cntI t b n + if (decide (b ≤ x) && decide (x < b + n)) = true then 1 else 0 := by
 unfold cntI;rw [List.filter_cons]
 split <;> simp <;> omega
theorem q1l (l : S2062) (m : S1079) (t : List S1079) : ofL l (m :: t) = if qb0 l m.Kind m.Terminal = true then m.Moment :: ofL l t else ofL l t := by
 unfold ofL;rw [List.filter_cons]
 split <;> rfl
theorem qts {l : S2062} (hl : LimOk l) {b : Int} (hb : 0 ≤ b ∧ b ≤ 2000000000) : ∀ (t : List S1079) (k : Nat) (x : Int), 0 ≤ x → x + (t.length : Nat) ≤ 1000000000 → qac l b t k x = x + cntI (ofL l t) b l.Length
 | [], k, x, _, _ => by
  rw [qac]; unfold cntI ofL; simp
 | m :: t, k, x, h0, h1 => by
  have l0 := hl.l0; have l1 := hl.l1;rw [List.length_cons] at h1;rw [qac, q1k hl];unfold qxx qfp;rw [wrap_i64 (n := b + l.Length) (by unfold I64; omega), q1l, cond_eq_ite];simp only []
  by_cases hk : qb0 l m.Kind m.Terminal = true
  ·rw [if_pos hk, hk, Bool.true_and, qy3]
   split
   ·rename_i c
    rw [qts hl hb t (k + 1) _ (by rw [wrap_i64 (by unfold I64; omega)]; omega) (by rw [wrap_i64 (by unfold I64; omega)]; omega), wrap_i64 (by unfold I64; omega)]
    omega
   ·rename_i c
    rw [qts hl hb t (k + 1) _ h0 (by omega)]
    omega
  ·rw [if_neg hk]
   have hk' : qb0 l m.Kind m.Terminal = false := by simpa using hk
   rw [hk', Bool.false_and, if_neg (by simp), qts hl hb t (k + 1) _ h0 (by omega)]
theorem q9b {l : S2062} (hl : LimOk l) {b : Int} (hb : 0 ≤ b ∧ b ≤ 2000000000) {ms : List S1079} (hm : ms.length ≤ 100000) : qql l ms b = cntI (ofL l ms) b l.Length := by
 unfold qql;rw [qts hl hb ms 0 0 (by omega) (by omega)]; omega
theorem qy4 {r : S115} (hm : 0 ≤ r.Minute ∧ r.Minute ≤ 1439) : ∀ (t : List Int), (∀ d ∈ t, 0 ≤ d ∧ d ≤ 99999) → ∀ (k : Nat) (x : List S1079), qcu r t k x = x ++ t.map (mvOf r)
 | [], _, k, x => by rw [qcu]; simp
 | d :: t, hd, k, x => by
  have h := hd d List.mem_cons_self;rw [qcu, qy4 hm t (fun y hy => hd y (List.mem_cons_of_mem _ hy)), wrap_i64 (n := 1440 * d) (by unfold I64; omega), wrap_i64 (by unfold I64; omega)]
  simp [mvOf]
theorem q1m {r : S115} (h : RqOk r) : qop r = mvs r := by
 have e : (s69 r.Period).1 = s104 r.Period := by rw [qk5 h.per, qnz _ h.per]
 have hd := qkd h.per;unfold qop mvs;rw [e] at hd ⊢;rw [qy4 h.m _ hd]; rfl
theorem q5v (t : List Int) (b n : Int) : 0 ≤ cntI t b n ∧ cntI t b n ≤ t.length := by
 unfold cntI;have := List.length_filter_le (fun x => decide (b ≤ x) && decide (x < b + n)) t
 omega
theorem zd6 (l : S2062) (t : List S1079) : (ofL l t).length ≤ t.length := by
 unfold ofL; rw [List.length_map]; exact List.length_filter_le _ _
theorem q3a {l : S2062} (hl : LimOk l) (rec1 : Nat → List Int → List Int) (x1 : List Int) (k3 : Nat) {b : Int} (hb : 0 ≤ b ∧ b ≤ 2000000000) : ∀ (t : List S5036) (k : Nat) (x : Int), (∀ s ∈ t, Brf s.Request) → 0 ≤ x → x + 14 * (t.length : Nat) ≤ 100000 →
  qbo rec1 l x1 k3 b t k x = rec1 (k3 + 1) (x1 ++ [x + cntI (ofL l ((t.map S5036.Request).flatMap mvs)) b l.Length])
 | [], k, x, _, _, _ => by
  rw [qbo];have : cntI (ofL l ((([] : List S5036).map S5036.Request).flatMap mvs)) b l.Length = 0 := rfl;rw [this, Int.add_zero]
 | s :: t, k, x, hs, h0, h1 => by
  rw [List.length_cons] at h1;have hr := hs s List.mem_cons_self;have hn := q0c hr.ok hr.b;have hc := q5v (ofL l (mvs s.Request)) b l.Length;have ho := zd6 l (mvs s.Request);rw [qbo];show qbo rec1 l x1 k3 b t (k + 1) (IntKind.i64.wrap (x + qql l (qop s.Request) b)) = _;rw [q1m hr.ok, q9b hl hb (by omega), wrap_i64 (by unfold I64; omega), q3a hl rec1 x1 k3 hb t (k + 1) _ (fun q hq => hs q (List.mem_cons_of_mem _ hq)) (by omega) (by omega)];rw [List.map_cons, List.flatMap_cons, q4e, q0g, Int.add_assoc]
theorem q3b {l : S2062} (hl : LimOk l) {bk : S5025} (hs : ∀ s ∈ bk.Slots, Brf s.Request) (hn : bk.Slots.length ≤ 1000) : ∀ (t : List Int) (k : Nat) (x : List Int), (∀ b ∈ t, 0 ≤ b ∧ b ≤ 2000000000) →
  qa0 l bk t k x = x ++ t.map fun b => cntI (ofL l ((bk.Slots.map S5036.Request).flatMap mvs)) b l.Length
 | [], k, x, _ => by rw [qa0]; simp
 | b :: t, k, x, hb => by
  rw [qa0, q3a hl _ x k (hb b List.mem_cons_self) bk.Slots 0 0 hs (by omega) (by omega), q3b hl hs hn t (k + 1) _ fun q hq => hb q (List.mem_cons_of_mem _ hq), Int.zero_add]
  simp
theorem q3c (l : S2062) (ms : List S1079) : ∀ (t : List Int) (x : List Int), qa1 l ms t x = some (x ++ t.map (fun b => cntI (ofL l ms) b l.Length), 0)
 | [], x => by rw [qa1]; simp
 | b :: t, x => by rw [qa1, q3c l ms t]; simp
theorem q9c {l : S2062} (hz : qbu l = 0) {ms : List S1079} (hm : qal ms = some 0) {d : Int} (hd : d ∈ s104 l.Period) : qva l ms d = some ((begL l d).map (fun b => cntI (ofL l ms) b l.Length), 0) := by
 obtain ⟨_, _, _, _, _, _, _, hft, hp, _⟩ := qfj.1 hz;obtain ⟨q1, q2, q3, _⟩ := vk _ hp;obtain ⟨h1, h2, h3⟩ := qsd hp hd;unfold qva;rw [hm];simp only [qz]
 have h4 : vo [(qbu l), (0 : Int), (xl d 0 99999)] = 0 := jx.2 fun x hx => by
  simp only [List.mem_cons, List.not_mem_nil, or_false] at hx
  rcases hx with rfl | rfl | rfl
  ·exact hz
  ·rfl
  ·exact wn.2 ⟨by omega, by omega⟩
 rw [h4, decide_eq_false (by simp), cond_false, h3];show qa1 l ms (begL l d) [] = _;rw [q3c]; rfl
theorem q1n {l : S2062} (hz : qbu l = 0) {bk : S5025} (hs : ∀ s ∈ bk.Slots, Brf s.Request) (hn : bk.Slots.length ≤ 1000) {ms : List S1079} (hm : ms.Perm ((bk.Slots.map S5036.Request).flatMap mvs)) {d : Int} (hd : d ∈ s104 l.Period) :
  qr6 l bk d = (begL l d).map (fun b => cntI (ofL l ms) b l.Length) := by
 obtain ⟨_, _, _, _, _, _, _, hft, hp, _⟩ := qfj.1 hz;have hl := qx6 hz;obtain ⟨q1, q2, q3, _⟩ := vk _ hp;obtain ⟨h1, h2, h3⟩ := qsd hp hd;unfold qr6
 rw [q5u hl hp hft hd, q3b hl hs hn _ 0 [] (fun b hb => by
  have := qkk hl hb
  omega), List.nil_append]
 refine List.map_congr_left fun b _ => ?_;exact (qwk (q0f l hm) b l.Length).symm
theorem q5w {b : S5042} {f : Option (S5042 × Int)} {r : S5042 × Int} (h : ∃ R, f = some R ∧ (R.2 = 0 → Lk b R.1)) (br : f = some r) (h0 : r.2 = 0) : Lk b r.1 := by
 obtain ⟨R, h1, h2⟩ := h;rw [h1] at br
 cases br
 exact h2 h0
theorem zd7 {b : S5042} (h : BkB b) : ∀ r, qgg b (-1) = some r → r.length ≤ 1000 := fun r hr => by
 have := q2i h.s (by have := h.n; omega) r hr; omega
theorem qy5 {a0 : List S2062} {a1 : S5025} (h : QIn a0 a1) : ∀ x ∈ a1.Slots, s102 x.Request.Period = 0 := by
 intro x hx;have hv := h.b.v.s (qf0 x) (by rw [qax]; exact List.mem_map_of_mem hx);exact hv.rq.ok.per
noncomputable def qcy (a0 : List S2062) (r8 : (List S1079) × Int) (r9 : (List S1079) × Int) : List S5036 → Nat → Option Bool
 | [], k16 => some mktB
 | y17 :: t18, k16 => qz (qr3 a0 r8.1 (S115.mk y17.Request.Name y17.Request.Carrier y17.Request.Kind y17.Request.Terminal y17.Request.Partner y17.Request.Link (S45.mk y17.Request.Period.fFrom y17.Request.Period.fTo y17.Request.Period.Days) y17.Request.Minute y17.Request.Seats y17.Request.Size y17.Request.Noise) 350 460) fun r19 => qz (qr3 a0 r9.1 (S115.mk y17.Request.Name y17.Request.Carrier y17.Request.Kind y17.Request.Terminal y17.Request.Partner y17.Request.Link (S45.mk y17.Request.Period.fFrom y17.Request.Period.fTo y17.Request.Period.Days) y17.Request.Minute y17.Request.Seats y17.Request.Size y17.Request.Noise) 350 460) fun r20 => qz (bif !((decide (r19.2 ≠ 0)) || (decide (r20.2 ≠ 0))) then s83 r19.1 r20.1 else some default) fun r21 => (bif ((decide (r19.2 ≠ 0)) || (decide (r20.2 ≠ 0))) || (!r21) then some false else qcy a0 r8 r9 t18 (k16 + 1))
noncomputable def qbr (rec1 : Nat → Option Bool) (a1 : S5025) (r8 : (List S1079) × Int) (r9 : (List S1079) × Int) (k12 : Nat) (y13 : S2062) : List Int → Nat → Option Bool
 | [], k23 => rec1 (k12 + 1)
 | y24 :: t25, k23 => qz (qva y13 r8.1 y24) fun r26 => qz (qva y13 r9.1 y24) fun r27 => qz (bif !((decide (r26.2 ≠ 0)) || (decide (r27.2 ≠ 0))) then s83 r26.1 r27.1 else some default) fun r28 => qz (bif !(((decide (r26.2 ≠ 0)) || (decide (r27.2 ≠ 0))) || (!r28)) then s83 r26.1 (qr6 y13 a1 y24) else some default) fun r29 => (bif (((decide (r26.2 ≠ 0)) || (decide (r27.2 ≠ 0))) || (!r28)) || (!r29) then some false else qbr rec1 a1 r8 r9 k12 y13 t25 (k23 + 1))
noncomputable def qah (a0 : List S2062) (a1 : S5025) (r8 : (List S1079) × Int) (r9 : (List S1079) × Int) : List S2062 → Nat → Option Bool
 | [], k12 => qcy a0 r8 r9 a1.Slots 0
 | y13 :: t14, k12 => qbr (fun k_ => qah a0 a1 r8 r9 t14 k_) a1 r8 r9 k12 y13 (s104 (S45.mk y13.Period.fFrom y13.Period.fTo y13.Period.Days)) 0
noncomputable def qdp (a0 : List S2062) (a1 : S5025) (x6 : List S5100) (x7 : List S5072) : Option Bool :=
 qz (qjz (xo a1)) fun r8 => qz (qjz (S5042.mk x6 x7)) fun r9 => qz (bif !((decide (r8.2 ≠ 0)) || (decide (r9.2 ≠ 0))) then qu6 r8.1 r9.1 else some default) fun r10 => (bif ((decide (r8.2 ≠ 0)) || (decide (r9.2 ≠ 0))) || (!r10) then some false else qah a0 a1 r8 r9 a0 0)
noncomputable def qeh (a0 : List S2062) (a1 : S5025) (a2 : ByteArray × ByteArray × ByteArray × ByteArray) (x4 : List S5100) (x5 : List S5072) : Option Bool :=
 qz (qww (S5042.mk x4 x5) a2.2.2.1) fun r30 => (bif decide (r30.2 = 0) then qz (qwy (S5042.mk x4 x5) r30.1 a2.2.2.1 a2.2.2.2) fun r31 => (bif decide (r31.2 = 0) then qdp a0 a1 r31.1.Slots r31.1.Waiting else qdp a0 a1 x4 x5) else qdp a0 a1 x4 x5)
noncomputable def qei (a0 : List S2062) (a1 : S5025) (a2 : ByteArray × ByteArray × ByteArray × ByteArray) (x2 : List S5100) (x3 : List S5072) : Option Bool :=
 qz (qwv (S5042.mk x2 x3) [a2.1, a2.2.1, a2.2.2.1]) fun r32 => (bif decide (r32.2 = 0) then qeh a0 a1 a2 r32.1.Slots r32.1.Waiting else qeh a0 a1 a2 x2 x3)
noncomputable def q1o (a0 : List S2062) (a1 : S5025) (a2 : ByteArray × ByteArray × ByteArray × ByteArray) : Option Bool :=
 qz (qpp a0 a1) fun r1 => (bif (!r1) || (decide (100 < IntKind.i64.wrap ((IntKind.i64.wrap ((IntKind.i64.wrap ((ByteArray.size a2.1 : Int) + (ByteArray.size a2.2.1 : Int))) + (ByteArray.size a2.2.2.1 : Int))) + (ByteArray.size a2.2.2.2 : Int)))) then some mktB else qz (qwu (xo a1) a2.1 a2.2.1) fun r33 => (bif decide (r33.2 = 0) then qei a0 a1 a2 r33.1.Slots r33.1.Waiting else qei a0 a1 a2 ((xo a1).Slots) ((xo a1).Waiting)))
set_option maxHeartbeats 16000000 in
theorem q93 (a0 : List S2062) (a1 : S5025) (a2 : ByteArray × ByteArray × ByteArray × ByteArray) {R : Bool}  (hb0 : a0.length * 112 ≤ 140737488351232) (hR : q1o a0 a1 a2 = some R) : Con (EG glT) 5 [G.sl 11 (List.map S2062.c a0), G.agg [G.sl 16 (List.map S5036.c a1.Slots), G.sl 14 (List.map S5072.c a1.Waiting)], G.agg [G.str a2.1, G.str a2.2.1, G.str a2.2.2.1, G.str a2.2.2.2]] (G.bool R) := by
 unfold q1o at hR;refine qm Tryz.func5 U U fun w0 M0 => ?_;refine zp (f := S2062.c) (l := a0) 0 U fun hla0 => ?_;refine qb<|qa [.p, .p, .p]<|su (zg U U) U<|su (zg U U) U<|sa U U<|qc<|qb<|qb ?_;obtain ⟨r1, br1, hR⟩ := qi hR;refine qa [.p, .p, .p, .p, .p, .p, .p, .p, .p, .p, .p, .p, .p, .p, .p, .p, .p, .p, .p, .p, .p, .p]<|sm rfl rfl<|su (qp rfl qmj rfl rfl rfl) rfl<|su (qf rfl zd8 rfl (zam a0 a1 (by first | assumption | omega | (simp [qh]; done) | (simp [qh]; omega)) br1) (qe rfl (qe rfl qj))) rfl<|su (jn rfl rfl) rfl<|sm rfl rfl ?_;refine sg U U (fun h => xr (f := cStr) (l := [a2.1, a2.2.1, a2.2.2.1, a2.2.2.2]) (a := a2.1) U Tryz.underlying78 ty9 U U (fun _ => U) U U (by decide) U) U ?_;refine sg U U (fun h => qg U ty9 (gd h U)) U<|sg U U (fun h => vd U Tryz.underlying9 (gd h U)) U ?_;refine sg U U (fun h => xr (f := cStr) (l := [a2.1, a2.2.1, a2.2.2.1, a2.2.2.2]) (a := a2.2.1) U Tryz.underlying78 ty9 U U (fun _ => U) U U (by decide) U) U ?_;refine sg U U (fun h => qg U ty9 (gd h U)) U<|sg U U (fun h => vd U Tryz.underlying9 (gd h U)) U<|sg U U (fun h => jo U (gd h U) (gd h U)) U ?_;refine sg U U (fun h => xr (f := cStr) (l := [a2.1, a2.2.1, a2.2.2.1, a2.2.2.2]) (a := a2.2.2.1) U Tryz.underlying78 ty9 U U (fun _ => U) U U (by decide) U) U ?_;refine sg U U (fun h => qg U ty9 (gd h U)) U<|sg U U (fun h => vd U Tryz.underlying9 (gd h U)) U<|sg U U (fun h => jo U (gd h U) (gd h U)) U ?_;refine sg U U (fun h => xr (f := cStr) (l := [a2.1, a2.2.1, a2.2.2.1, a2.2.2.2]) (a := a2.2.2.2) U Tryz.underlying78 ty9 U U (fun _ => U) U U (by decide) U) U ?_;refine sg U U (fun h => qg U ty9 (gd h U)) U<|sg U U (fun h => vd U Tryz.underlying9 (gd h U)) U<|sg U U (fun h => jo U (gd h U) (gd h U)) U<|sg U U (fun h => z6 U (gd h U) U) U<|su (jm U U U U) U<|qc ?_;refine ql _ U (fun h1 => ?_) (fun h1 => ?_)
 ·replace hR := zm hR h1;refine qb<|qa [.p, .p]<|su (qf U q9d U (q2d) qj) U<|sa U U<|qc<|qo ?_;obtain rfl := Option.some.inj hR;exact zb U (rv_g U)
 ·replace h1 : ((!r1) || (decide (100 < IntKind.i64.wrap ((IntKind.i64.wrap ((IntKind.i64.wrap ((ByteArray.size a2.1 : Int) + (ByteArray.size a2.2.1 : Int))) + (ByteArray.size a2.2.2.1 : Int))) + (ByteArray.size a2.2.2.2 : Int))))) = false := h1;replace hR := zn hR h1;(try simp only [bB] at h1);have hq := q_in br1 h1.1
  have q1 : a1.Slots.length ≤ 1000 := by have := hq.o.sl; omega
  have q2 : a1.Waiting.length ≤ 1000 := by have := hq.o.wl; omega
  have q3 := hq.slots
  have q4 : (xo a1).Slots.length ≤ 1000 := by have := hq.wl; omega
  have q5 : (xo a1).Waiting.length ≤ 10 := by have := hq.wl; omega
  have q6 := hq.mv;have q7 := hq.w14;have q8 := hq.b.s
  have q9 : (xo a1).Slots.length ≤ 5 := by have := hq.wl; omega
  have q10 : a1.Waiting.length ≤ 5 := hq.o.wl;have q11 := hq.bw;have q12 := qri hq.b;refine qn<|qb<|qa [.p, .p, .w, .w]<|su (qp rfl qmj rfl rfl rfl) rfl<|su (qf rfl q9e rfl (q6z a1 (by first | assumption | omega | (simp [qh]; done) | (simp [qh]; omega)) (by first | assumption | omega | (simp [qh]; done) | (simp [qh]; omega)) (by first | assumption | omega | (simp [qh]; done) | (simp [qh]; omega))) (qe rfl qj)) rfl<|sw (zh 7 rfl xg rfl rfl) rfl<|z7 rfl rfl (qw (tv := .g (G.agg [G.sl 16 (List.map S5100.c ((xo a1).Slots)), G.sl 14 (List.map S5072.c ((xo a1).Waiting))])) rfl zi rfl rfl rfl rfl rfl)<|qc ?_;refine jy (γ := (List S5100) × (List S5072)) (fun g => ([(0, .g (G.sl 11 (List.map S2062.c a0))), (4, .g (G.ref [G.sl 16 (List.map S5036.c a1.Slots), G.sl 14 (List.map S5072.c a1.Waiting)])), (5, .g (G.ref [G.str a2.1, G.str a2.2.1, G.str a2.2.2.1, G.str a2.2.2.2])), (7, .ptr 7 0)], [(7, .box [.g (G.sl 16 (List.map S5100.c g.1)), .g (G.sl 14 (List.map S5072.c g.2))])])) (fun g => Lk (xo a1) (S5042.mk g.1 g.2) ∧ qei a0 a1 a2 g.1 g.2 = some R) ?_ ?_
  ·refine qb ?_;obtain ⟨r33, br33, hR⟩ := qi hR;refine qa [.r, .p, .p, .p, .p, .p, .p, .p, .p, .w, .w, .p]<|sr (zj U zi U U U U) U ?_;refine su (xr (f := cStr) (l := [a2.1, a2.2.1, a2.2.2.1, a2.2.2.2]) (a := a2.1) U Tryz.underlying78 ty9 U U (fun _ => U) U U (by decide) U) U ?_;refine su (qg U ty9 U) U ?_;refine su (xr (f := cStr) (l := [a2.1, a2.2.1, a2.2.2.1, a2.2.2.2]) (a := a2.2.1) U Tryz.underlying78 ty9 U U (fun _ => U) U U (by decide) U) U ?_;refine su (qg rfl ty9 rfl) rfl<|su (qf rfl zd9 rfl (zb4 (xo a1) a2.1 a2.2.1 (by first | assumption | omega | (simp [qh]; done) | (simp [qh]; omega)) (by first | assumption | omega | (simp [qh]; done) | (simp [qh]; omega)) br33) (qe rfl (qe rfl (qe rfl qj)))) rfl<|sm rfl rfl<|su (qu rfl rfl rfl) rfl<|su (qu rfl rfl rfl) rfl<|sw (zh 8 rfl xg rfl rfl) rfl<|z7 rfl rfl (qw (tv := .g (G.agg [G.sl 16 (List.map S5100.c r33.1.Slots), G.sl 14 (List.map S5072.c r33.1.Waiting)])) rfl zi rfl rfl rfl rfl rfl)<|sa rfl rfl<|qc<|qb<|qa [.p, .p]<|sm rfl rfl<|su (jq rfl rfl rfl) rfl<|qc ?_;refine ql _ U (fun h14 => ?_) (fun h14 => ?_)
   ·replace h14 : (decide (r33.2 = 0)) = true := h14;replace hR := zm hR h14;(try simp only [bB] at h14);have hkT := q5w (qpw hq.b _ _) (by assumption) (by assumption);refine qa [.r, .w]<|sr (zj U zi U U U U) U<|z7 U U (qw (tv := .g (G.agg [G.sl 16 (List.map S5100.c r33.1.Slots), G.sl 14 (List.map S5072.c r33.1.Waiting)])) U zi U U U U U)<|qc ?_;exact ⟨rfl, (r33.1.Slots, r33.1.Waiting), jA, ⟨rfl, trivial⟩, rfl, ⟨(by first | assumption | exact Lk.eta (by assumption) | exact Lk.refl hq.b), hR⟩, trivial⟩
   ·replace h14 : (decide (r33.2 = 0)) = false := h14;replace hR := zn hR h14;(try simp only [bB] at h14);refine qn ?_;exact ⟨rfl, ((xo a1).Slots, (xo a1).Waiting), jA, ⟨rfl, trivial⟩, rfl, ⟨(by first | assumption | exact Lk.eta (by assumption) | exact Lk.refl hq.b), hR⟩, trivial⟩
  ·rintro ⟨x2, x3⟩ ⟨jv3_0, hR⟩;replace jv3_0 : Lk (xo a1) (S5042.mk x2 x3) := jv3_0;replace hR : qei a0 a1 a2 x2 x3 = some R := hR;unfold qei at hR;refine jy (γ := (List S5100) × (List S5072)) (fun g => ([(0, .g (G.sl 11 (List.map S2062.c a0))), (4, .g (G.ref [G.sl 16 (List.map S5036.c a1.Slots), G.sl 14 (List.map S5072.c a1.Waiting)])), (5, .g (G.ref [G.str a2.1, G.str a2.2.1, G.str a2.2.2.1, G.str a2.2.2.2])), (7, .ptr 7 0)], [(7, .box [.g (G.sl 16 (List.map S5100.c g.1)), .g (G.sl 14 (List.map S5072.c g.2))])])) (fun g => Lk (xo a1) (S5042.mk g.1 g.2) ∧ qeh a0 a1 a2 g.1 g.2 = some R) ?_ ?_
   ·refine qb ?_;obtain ⟨r32, br32, hR⟩ := qi hR;have hbk2 := jv3_0.bk hq.b;have hn2 : x2.length ≤ 64 := hbk2.v.sl;have hw2 : x3.length ≤ 64 := hbk2.v.wl;refine qa [.r, .p, .p, .p, .p, .p, .p, .p, .p, .p, .p, .p, .w, .w, .p]<|sr (zj U zi U U U U) U ?_;refine su (xr (f := cStr) (l := [a2.1, a2.2.1, a2.2.2.1, a2.2.2.2]) (a := a2.1) U Tryz.underlying78 ty9 U U (fun _ => U) U U (by decide) U) U ?_;refine su (qg U ty9 U) U ?_;refine su (xr (f := cStr) (l := [a2.1, a2.2.1, a2.2.2.1, a2.2.2.2]) (a := a2.2.1) U Tryz.underlying78 ty9 U U (fun _ => U) U U (by decide) U) U ?_;refine su (qg U ty9 U) U ?_;refine su (xr (f := cStr) (l := [a2.1, a2.2.1, a2.2.2.1, a2.2.2.2]) (a := a2.2.2.1) U Tryz.underlying78 ty9 U U (fun _ => U) U U (by decide) U) U ?_;refine su (qg U ty9 U) U ?_;refine su (qt U Tryz.underlying35 ty9 z9 U (qv U (qv U (qv U jh))) U (by simp []) (by decide)) U ?_;refine su (qf rfl zea rfl (zb6 (S5042.mk x2 x3) [a2.1, a2.2.1, a2.2.2.1] (by first | assumption | omega | (simp [qh]; done) | (simp [qh]; omega)) (by first | assumption | omega | (simp [qh]; done) | (simp [qh]; omega)) br32) (qe rfl (qe rfl qj))) rfl<|sm rfl rfl<|su (qu rfl rfl rfl) rfl<|su (qu rfl rfl rfl) rfl<|sw (zh 10 rfl xg rfl rfl) rfl<|z7 rfl rfl (qw (tv := .g (G.agg [G.sl 16 (List.map S5100.c r32.1.Slots), G.sl 14 (List.map S5072.c r32.1.Waiting)])) rfl zi rfl rfl rfl rfl rfl)<|sa rfl rfl<|qc<|qb<|qa [.p, .p]<|sm rfl rfl<|su (jq rfl rfl rfl) rfl<|qc ?_;refine ql _ U (fun h13 => ?_) (fun h13 => ?_)
    ·replace h13 : (decide (r32.2 = 0)) = true := h13;replace hR := zm hR h13;(try simp only [bB] at h13);have hkT := jv3_0.trans (q5w (qpx hbk2 _) (by assumption) (by assumption));refine qa [.r, .w]<|sr (zj U zi U U U U) U<|z7 U U (qw (tv := .g (G.agg [G.sl 16 (List.map S5100.c r32.1.Slots), G.sl 14 (List.map S5072.c r32.1.Waiting)])) U zi U U U U U)<|qc ?_;exact ⟨rfl, (r32.1.Slots, r32.1.Waiting), jA, ⟨rfl, trivial⟩, rfl, ⟨(by first | assumption | exact Lk.eta (by assumption) | exact Lk.refl hq.b), hR⟩, trivial⟩
    ·replace h13 : (decide (r32.2 = 0)) = false := h13;replace hR := zn hR h13;(try simp only [bB] at h13);refine qn ?_;exact ⟨rfl, (x2, x3), jA, ⟨rfl, trivial⟩, rfl, ⟨(by first | assumption | exact Lk.eta (by assumption) | exact Lk.refl hq.b), hR⟩, trivial⟩
   ·rintro ⟨x4, x5⟩ ⟨jv2_0, hR⟩;replace jv2_0 : Lk (xo a1) (S5042.mk x4 x5) := jv2_0;replace hR : qeh a0 a1 a2 x4 x5 = some R := hR;unfold qeh at hR;refine jy (γ := (List S5100) × (List S5072)) (fun g => ([(0, .g (G.sl 11 (List.map S2062.c a0))), (4, .g (G.ref [G.sl 16 (List.map S5036.c a1.Slots), G.sl 14 (List.map S5072.c a1.Waiting)])), (7, .ptr 7 0)], [(7, .box [.g (G.sl 16 (List.map S5100.c g.1)), .g (G.sl 14 (List.map S5072.c g.2))])])) (fun g => Lk (xo a1) (S5042.mk g.1 g.2) ∧ qdp a0 a1 g.1 g.2 = some R) ?_ ?_
    ·refine qb ?_;obtain ⟨r30, br30, hR⟩ := qi hR;have hbk1 := jv2_0.bk hq.b;have hn1 : x4.length ≤ 64 := hbk1.v.sl;have hw1 : x5.length ≤ 64 := hbk1.v.wl;refine qa [.r, .p, .p, .p, .p, .p, .p, .p, .p]<|sr (zj U zi U U U U) U ?_;refine su (xr (f := cStr) (l := [a2.1, a2.2.1, a2.2.2.1, a2.2.2.2]) (a := a2.2.2.1) U Tryz.underlying78 ty9 U U (fun _ => U) U U (by decide) U) U ?_;refine su (qg U ty9 U) U<|su (qf U zeb U (zcb (S5042.mk x4 x5) a2.2.2.1 br30) (qe U (qe U qj))) U<|sm U U<|su (qu U U U) U<|su (qu U U U) U<|sa U U<|sa U U<|qc<|qb<|qa [.p, .p]<|sm U U<|su (jq U U U) U<|qc ?_;refine ql _ U (fun h11 => ?_) (fun h11 => ?_)
     ·replace h11 : (decide (r30.2 = 0)) = true := h11;replace hR := zm hR h11;(try simp only [bB] at h11);refine qb ?_;obtain ⟨r31, br31, hR⟩ := qi hR;refine qa [.r, .p, .p, .p, .p, .p, .p, .p, .p, .p, .w, .w, .p]<|sr (zj U zi U U U U) U<|sm U U ?_;refine su (xr (f := cStr) (l := [a2.1, a2.2.1, a2.2.2.1, a2.2.2.2]) (a := a2.2.2.1) U Tryz.underlying78 ty9 U U (fun _ => U) U U (by decide) U) U ?_;refine su (qg U ty9 U) U ?_;refine su (xr (f := cStr) (l := [a2.1, a2.2.1, a2.2.2.1, a2.2.2.2]) (a := a2.2.2.2) U Tryz.underlying78 ty9 U U (fun _ => U) U U (by decide) U) U ?_;refine su (qg rfl ty9 rfl) rfl<|su (qf rfl zec rfl (zb8 (S5042.mk x4 x5) r30.1 a2.2.2.1 a2.2.2.2 (by first | assumption | omega | (simp [qh]; done) | (simp [qh]; omega)) (by first | assumption | omega | (simp [qh]; done) | (simp [qh]; omega)) br31) (qe rfl (qe rfl (qe rfl (qe rfl qj))))) rfl<|sm rfl rfl<|su (qu rfl rfl rfl) rfl<|su (qu rfl rfl rfl) rfl<|sw (zh 14 rfl xg rfl rfl) rfl<|z7 rfl rfl (qw (tv := .g (G.agg [G.sl 16 (List.map S5100.c r31.1.Slots), G.sl 14 (List.map S5072.c r31.1.Waiting)])) rfl zi rfl rfl rfl rfl rfl)<|sa rfl rfl<|qc<|qb<|qa [.p, .p]<|sm rfl rfl<|su (jq rfl rfl rfl) rfl<|qc ?_;refine ql _ U (fun h12 => ?_) (fun h12 => ?_)
      ·replace h12 : (decide (r31.2 = 0)) = true := h12;replace hR := zm hR h12;(try simp only [bB] at h12);have hkT := jv2_0.trans (q5w (qmq hbk1 _ _ _) (by assumption) (by assumption));refine qa [.r, .w]<|sr (zj U zi U U U U) U<|z7 U U (qw (tv := .g (G.agg [G.sl 16 (List.map S5100.c r31.1.Slots), G.sl 14 (List.map S5072.c r31.1.Waiting)])) U zi U U U U U)<|qc ?_;exact ⟨rfl, (r31.1.Slots, r31.1.Waiting), ⟨rfl, rfl, rfl, trivial⟩, ⟨rfl, trivial⟩, rfl, ⟨(by first | assumption | exact Lk.eta (by assumption) | exact Lk.refl hq.b), hR⟩, trivial⟩
      ·replace h12 : (decide (r31.2 = 0)) = false := h12;replace hR := zn hR h12;(try simp only [bB] at h12);refine qn ?_;exact ⟨rfl, (x4, x5), ⟨rfl, rfl, rfl, trivial⟩, ⟨rfl, trivial⟩, rfl, ⟨(by first | assumption | exact Lk.eta (by assumption) | exact Lk.refl hq.b), hR⟩, trivial⟩
     ·replace h11 : (decide (r30.2 = 0)) = false := h11;replace hR := zn hR h11;(try simp only [bB] at h11);refine qn ?_;exact ⟨rfl, (x4, x5), ⟨rfl, rfl, rfl, trivial⟩, ⟨rfl, trivial⟩, rfl, ⟨(by first | assumption | exact Lk.eta (by assumption) | exact Lk.refl hq.b), hR⟩, trivial⟩
    ·rintro ⟨x6, x7⟩ ⟨jv1_0, hR⟩;replace jv1_0 : Lk (xo a1) (S5042.mk x6 x7) := jv1_0;replace hR : qdp a0 a1 x6 x7 = some R := hR;unfold qdp at hR;refine qb ?_;obtain ⟨r8, br8, hR⟩ := qi hR;have hbk0 := jv1_0.bk hq.b;have hn0 : x6.length ≤ 64 := hbk0.v.sl;have hw0 : x7.length ≤ 64 := hbk0.v.wl;have hm0 := zd7 hbk0;have hsp := qy5 hq;refine qa [.p, .p, .p, .p, .p, .p, .p, .p]<|su (qp rfl qmj rfl rfl rfl) rfl<|su (qf rfl q9e rfl (q6z a1 (by first | assumption | omega | (simp [qh]; done) | (simp [qh]; omega)) (by first | assumption | omega | (simp [qh]; done) | (simp [qh]; omega)) (by first | assumption | omega | (simp [qh]; done) | (simp [qh]; omega))) (qe rfl qj)) rfl<|su (qf rfl q38 rfl (q39 (xo a1) (by first | assumption | omega | (simp [qh]; done) | (simp [qh]; omega)) br8) (qe rfl qj)) rfl<|sm rfl rfl<|su (qu rfl rfl rfl) rfl<|su (qu rfl rfl rfl) rfl<|sa rfl rfl<|sa rfl rfl<|qc<|qb ?_;obtain ⟨r9, br9, hR⟩ := qi hR;refine qa [.r, .p, .p, .p, .p, .p, .p]<|sr (zj rfl zi rfl rfl rfl rfl) rfl<|su (qf rfl q38 rfl (q39 (S5042.mk x6 x7) (by first | assumption | omega | (simp [qh]; done) | (simp [qh]; omega)) br9) (qe rfl qj)) rfl<|sm rfl rfl<|su (qu rfl rfl rfl) rfl<|su (qu rfl rfl rfl) rfl<|sa rfl rfl<|sa rfl rfl<|qc<|qb<|qb ?_;obtain ⟨r10, br10, hR⟩ := qi hR;have hl8 := qri hq.b _ br8;have hl9 := qri hbk0 _ br9;refine qa [.p, .p, .p, .p, .p, .p, .p, .p, .p, .p, .p, .p]<|sm U U<|su (zx U U U) U<|sm U U<|sg U U (fun h => qk U U) U<|sg U U (fun h => zx U (gd h U) U) U<|su (jm U U U U) U<|sm U U<|sg U U (fun h => qk U U) U<|sg U U (fun h => qk U U) U<|sg U U (fun h => qf U zed U (zb1 r8.1 r9.1 (qs0 br10 h)) (qe (gd h U) (qe (gd h U) qj))) U<|sg U U (fun h => jn U (gd h U)) U<|su (jm U U U U) U<|qc ?_;refine ql _ U (fun h2 => ?_) (fun h2 => ?_)
     ·replace hR := zm hR h2;refine qb<|qa [.p]<|sa U U<|qc<|qo ?_;obtain rfl := Option.some.inj hR;exact zb U (rv_g U)
     ·replace h2 : (((decide (r8.2 ≠ 0)) || (decide (r9.2 ≠ 0))) || (!r10)) = false := h2;replace hR := zn hR h2;(try simp only [bB] at h2);refine qn<|qb<|qb<|qa [.p, .p, .p]<|sm U U<|su (qy (f := S2062.c) (l := a0) U Tryz.underlying22 U) U<|sm U U<|qc<|qq<|za (γ := Nat × (List S2062)) (fun g => ([(0, .g (G.sl 11 (List.map S2062.c a0))), (4, .g (G.ref [G.sl 16 (List.map S5036.c a1.Slots), G.sl 14 (List.map S5072.c a1.Waiting)])), (16, .g (G.sl 7 (List.map S1079.c r8.1))), (18, .g (G.sl 7 (List.map S1079.c r9.1))), (131, .g (G.sl 11 (List.map S2062.c a0))), (132, .g (G.int (List.length a0 : Int))), (133, .g (G.int ((g.1 : Nat) : Int)))], [])) (fun g => a0.drop g.1 = g.2 ∧ qah a0 a1 r8 r9 g.2 g.1 = some R) (fun g => List.length g.2) ⟨U, (0, a0), jA, O, U, ⟨U, (by exact hR)⟩, O⟩ ?_
      ·rintro ⟨k12, t14⟩ ⟨hd, hR⟩;replace hd : a0.drop k12 = t14 := hd;replace hR : qah a0 a1 r8 r9 t14 k12 = some R := hR;refine qb<|qa [.p]<|su (ze U U U) U<|qc ?_;refine zp (f := S2062.c) (l := a0) 0 U fun hlz1 => ?_;refine qb ?_;refine ql _ U (fun h3 => ?_) (fun h3 => ?_)
       ·replace h3 : (decide (((k12 : Nat) : Int) < (List.length a0 : Int))) = true := h3;obtain ⟨y13, t14, rfl, hx1, hd⟩ := zq hd (decT h3);replace h3 := decT h3;rw [qah] at hR;(try dsimp only at hR);refine qn<|qb<|qq<|qb<|qa [.p, .p, .w, .w]<|su (z4 (f := S2062.c) (l := a0) (a := y13) U Tryz.underlying22 kq U U (Int.natCast_nonneg _) hx1) U<|su (qp U kq U U U) U<|sw (zh 21 U qub U U) U<|z7 U U (qw (tv := .g (G.agg (S2062.c y13))) U kq U U U U U)<|qc<|qb ?_;have hlk := (qow hq.o.lims).2 _ (List.mem_of_getElem? (by assumption));have hst : 1 ≤ y13.Step ∧ y13.Step ≤ 1440 := ⟨hlk.s0, hlk.s1⟩;have hf : 0 ≤ y13.fFrom ∧ y13.fFrom ≤ 1439 := ⟨hlk.f0, hlk.f1⟩;have hto : 0 ≤ y13.fTo ∧ y13.fTo ≤ 1439 := ⟨hlk.t0, hlk.t1⟩;have hp0 := hlk.p0;have hp1 := hlk.p1;refine qa [.p, .r, .p, .p, .p]<|su (zo rfl qh4 rfl) rfl<|sr (zj rfl ty46 rfl rfl rfl rfl) rfl<|su (qf rfl K104 rfl (c104 (S45.mk y13.Period.fFrom y13.Period.fTo y13.Period.Days) (by first | exact hp0 | omega) (by first | exact hp1 | omega)) (qe rfl qj)) rfl<|su (qy (f := cInt) (l := (s104 (S45.mk y13.Period.fFrom y13.Period.fTo y13.Period.Days))) rfl Tryz.underlying38 rfl) rfl<|sm rfl rfl<|qc<|qq<|za (γ := Nat × (List Int)) (fun g => ([(0, .g (G.sl 11 (List.map S2062.c a0))), (4, .g (G.ref [G.sl 16 (List.map S5036.c a1.Slots), G.sl 14 (List.map S5072.c a1.Waiting)])), (16, .g (G.sl 7 (List.map S1079.c r8.1))), (18, .g (G.sl 7 (List.map S1079.c r9.1))), (21, .ptr 21 0), (131, .g (G.sl 11 (List.map S2062.c a0))), (132, .g (G.int (List.length a0 : Int))), (133, .g (G.int ((k12 : Nat) : Int))), (139, .g (G.sl 1 (List.map cInt (s104 (S45.mk y13.Period.fFrom y13.Period.fTo y13.Period.Days))))), (140, .g (G.int (List.length (s104 (S45.mk y13.Period.fFrom y13.Period.fTo y13.Period.Days)) : Int))), (141, .g (G.int ((g.1 : Nat) : Int)))], [(21, .box [.g (G.str y13.Name), .g (G.str y13.Kind), .g (G.str y13.Terminal), .g (G.int y13.Length), .g (G.int y13.Step), .g (G.int y13.fFrom), .g (G.int y13.fTo), .g (G.int y13.Period.fFrom), .g (G.int y13.Period.fTo), .g (G.int y13.Period.Days), .g (G.int y13.Most)])])) (fun g => (s104 (S45.mk y13.Period.fFrom y13.Period.fTo y13.Period.Days)).drop g.1 = g.2 ∧ qbr (fun k_ => qah a0 a1 r8 r9 t14 k_) a1 r8 r9 k12 y13 g.2 g.1 = some R) (fun g => List.length g.2) ⟨rfl, (0, (s104 (S45.mk y13.Period.fFrom y13.Period.fTo y13.Period.Days))), jA, ⟨rfl, trivial⟩, rfl, ⟨rfl, (by exact hR)⟩, trivial⟩ ?_
        ·rintro ⟨k23, t25⟩ ⟨hd3, hR⟩;replace hd3 : (s104 (S45.mk y13.Period.fFrom y13.Period.fTo y13.Period.Days)).drop k23 = t25 := hd3;replace hR : qbr (fun k_ => qah a0 a1 r8 r9 t14 k_) a1 r8 r9 k12 y13 t25 k23 = some R := hR;refine qb<|qa [.p]<|su (ze U U U) U<|qc ?_;refine zp (f := cInt) (l := (s104 (S45.mk y13.Period.fFrom y13.Period.fTo y13.Period.Days))) 139 U fun hlz3 => ?_;refine qb ?_;refine ql _ U (fun h8 => ?_) (fun h8 => ?_)
         ·replace h8 : (decide (((k23 : Nat) : Int) < (List.length (s104 (S45.mk y13.Period.fFrom y13.Period.fTo y13.Period.Days)) : Int))) = true := h8;obtain ⟨y24, t25, rfl, hx3, hd3⟩ := zq hd3 (decT h8);replace h8 := decT h8;rw [qbr] at hR;(try dsimp only at hR);refine qn<|qb<|qq<|qb<|qa [.p, .p, .p]<|su (z4 (f := cInt) (l := (s104 (S45.mk y13.Period.fFrom y13.Period.fTo y13.Period.Days))) (a := y24) U Tryz.underlying38 ty3 U U (Int.natCast_nonneg _) hx3) U<|su (qg U ty3 U) U<|sa U U<|qc<|qb ?_;obtain ⟨r26, br26, hR⟩ := qi hR;refine qa [.r, .p, .p, .p, .p, .p, .p, .p, .p]<|sr (zj rfl kq rfl rfl rfl rfl) rfl<|sm rfl rfl<|sm rfl rfl<|su (qf rfl q9f rfl (q8e y13 r8.1 y24 (by first | assumption | omega | (simp [qh]; done) | (simp [qh]; omega)) br26) (qe rfl (qe rfl (qe rfl qj)))) rfl<|sm rfl rfl<|su (qu rfl rfl rfl) rfl<|su (qu rfl rfl rfl) rfl<|sa rfl rfl<|sa rfl rfl<|qc<|qb ?_;obtain ⟨r27, br27, hR⟩ := qi hR;refine qa [.r, .p, .p, .p, .p, .p, .p, .p, .p]<|sr (zj rfl kq rfl rfl rfl rfl) rfl<|sm rfl rfl<|sm rfl rfl<|su (qf rfl q9f rfl (q8e y13 r9.1 y24 (by first | assumption | omega | (simp [qh]; done) | (simp [qh]; omega)) br27) (qe rfl (qe rfl (qe rfl qj)))) rfl<|sm rfl rfl<|su (qu rfl rfl rfl) rfl<|su (qu rfl rfl rfl) rfl<|sa rfl rfl<|sa rfl rfl<|qc<|qb ?_;obtain ⟨r28, br28, hR⟩ := qi hR;obtain ⟨r29, br29, hR⟩ := qi hR;refine qa [.p, .p, .p, .p, .p, .p, .p, .p, .p, .p, .p, .p, .p, .p, .r, .p, .p, .p, .p, .p, .p]<|sm rfl rfl<|su (zx rfl rfl rfl) rfl<|sm rfl rfl<|sg rfl rfl (fun h => qk rfl rfl) rfl<|sg rfl rfl (fun h => zx rfl (gd h rfl) rfl) rfl<|su (jm rfl rfl rfl rfl) rfl<|sm rfl rfl<|sg rfl rfl (fun h => qk rfl rfl) rfl<|sg rfl rfl (fun h => qk rfl rfl) rfl<|sg rfl rfl (fun h => qf rfl K83 rfl (c83 r26.1 r27.1 (qs0 br28 h)) (qe (gd h rfl) (qe (gd h rfl) qj))) rfl<|sg rfl rfl (fun h => jn rfl (gd h rfl)) rfl<|su (jm rfl rfl rfl rfl) rfl<|sm rfl rfl<|sg rfl rfl (fun h => qk rfl rfl) rfl<|qk0 rfl rfl rfl (ji _ _) (fun h => zj rfl kq rfl rfl rfl rfl) rfl<|sg rfl rfl (fun h => qp rfl qmj rfl rfl rfl) rfl<|sg rfl rfl (fun h => qk rfl rfl) rfl<|sg rfl rfl (fun h => qf rfl zee rfl (zcj y13 a1 y24 (by first | assumption | omega | (simp [qh]; done) | (simp [qh]; omega)) (by first | assumption | omega | (simp [qh]; done) | (simp [qh]; omega)) (by first | assumption | omega | (simp [qh]; done) | (simp [qh]; omega)) (by first | assumption | omega | (simp [qh]; done) | (simp [qh]; omega))) (qe (gd h rfl) (qe (gd h rfl) (qe (gd h rfl) qj)))) rfl<|sg rfl rfl (fun h => qf rfl K83 rfl (c83 r26.1 (qr6 y13 a1 y24) (qs0 br29 h)) (qe (gd h rfl) (qe (gd h rfl) qj))) rfl<|sg rfl rfl (fun h => jn rfl (gd h rfl)) rfl<|su (jm rfl rfl rfl rfl) rfl<|qc ?_;refine ql _ U (fun h10 => ?_) (fun h10 => ?_)
          ·replace hR := zm hR h10;refine qb<|qa [.p]<|sa U U<|qc<|qo ?_;obtain rfl := Option.some.inj hR;exact zb U (rv_g U)
          ·replace h10 : ((((decide (r26.2 ≠ 0)) || (decide (r27.2 ≠ 0))) || (!r28)) || (!r29)) = false := h10;replace hR := zn hR h10;(try simp only [bB] at h10);refine qn<|qa [.p, .p]<|su (zl U U U iE) U<|sm U U<|qc ?_;exact ⟨U, (k23 + 1, t25), jA, ⟨U, O⟩, U, ⟨hd3, hR⟩, by simp⟩
         ·replace h8 : (decide (((k23 : Nat) : Int) < (List.length (s104 (S45.mk y13.Period.fFrom y13.Period.fTo y13.Period.Days)) : Int))) = false := h8;obtain rfl := zu hd3 (decF h8);rw [qbr] at hR;refine zr<|qa [.p, .p]<|su (zl U U U iE) U<|sm U U<|qc ?_;exact ⟨U, (k12 + 1, t14), jA, O, U, ⟨hd, hR⟩, by simp⟩
       ·replace h3 : (decide (((k12 : Nat) : Int) < (List.length a0 : Int))) = false := h3;obtain rfl := zu hd (decF h3);rw [qah] at hR;refine zr<|qb<|qb<|qa [.p, .p, .p, .p]<|su (qd U wj U) U<|su (qg U qdz U) U<|su (qy (f := S5036.c) (l := a1.Slots) U Tryz.underlying23 U) U<|sm U U<|qc<|qq<|za (γ := Nat × (List S5036)) (fun g => ([(0, .g (G.sl 11 (List.map S2062.c a0))), (16, .g (G.sl 7 (List.map S1079.c r8.1))), (18, .g (G.sl 7 (List.map S1079.c r9.1))), (183, .g (G.sl 16 (List.map S5036.c a1.Slots))), (184, .g (G.int (List.length a1.Slots : Int))), (185, .g (G.int ((g.1 : Nat) : Int)))], [])) (fun g => a1.Slots.drop g.1 = g.2 ∧ qcy a0 r8 r9 g.2 g.1 = some R) (fun g => List.length g.2) ⟨U, (0, a1.Slots), jA, O, U, ⟨U, (by exact hR)⟩, O⟩ ?_
        ·rintro ⟨k16, t18⟩ ⟨hd2, hR⟩;replace hd2 : a1.Slots.drop k16 = t18 := hd2;replace hR : qcy a0 r8 r9 t18 k16 = some R := hR;refine qb<|qa [.p]<|su (ze U U U) U<|qc ?_;refine zp (f := S5036.c) (l := a1.Slots) 183 U fun hlz2 => ?_;refine qb ?_;refine ql _ U (fun h5 => ?_) (fun h5 => ?_)
         ·replace h5 : (decide (((k16 : Nat) : Int) < (List.length a1.Slots : Int))) = true := h5;obtain ⟨y17, t18, rfl, hx2, hd2⟩ := zq hd2 (decT h5);replace h5 := decT h5;rw [qcy] at hR;(try dsimp only at hR);refine qn<|qb<|qq<|qb<|qa [.p, .p, .w, .w]<|su (z4 (f := S5036.c) (l := a1.Slots) (a := y17) U Tryz.underlying23 qbs U U (Int.natCast_nonneg _) hx2) U<|su (qp U qbs U U U) U<|sw (zh 29 U q4b U U) U<|z7 U U (qw (tv := .g (G.agg [G.str y17.Request.Name, G.str y17.Request.Carrier, G.str y17.Request.Kind, G.str y17.Request.Terminal, G.str y17.Request.Partner, G.str y17.Request.Link, G.int y17.Request.Period.fFrom, G.int y17.Request.Period.fTo, G.int y17.Request.Period.Days, G.int y17.Request.Minute, G.int y17.Request.Seats, G.int y17.Request.Size, G.int y17.Request.Noise, G.str y17.Holder, G.sl 3 (List.map S5102.c y17.Leases), G.sl 1 (List.map cStr y17.Shares)])) U qbs U U U U U)<|qc<|qb ?_;obtain ⟨r19, br19, hR⟩ := qi hR;refine qa [.p, .p, .p, .r, .p, .p, .p, .p, .p, .p]<|sm rfl rfl<|sm rfl rfl<|su (zo rfl qbf rfl) rfl<|sr (zj rfl w5 rfl rfl rfl rfl) rfl<|su (qf rfl q9g rfl (q77 a0 r8.1 (S115.mk y17.Request.Name y17.Request.Carrier y17.Request.Kind y17.Request.Terminal y17.Request.Partner y17.Request.Link (S45.mk y17.Request.Period.fFrom y17.Request.Period.fTo y17.Request.Period.Days) y17.Request.Minute y17.Request.Seats y17.Request.Size y17.Request.Noise) 350 460 (by first | assumption | omega | (simp [qh]; done) | (simp [qh]; omega)) br19) (qe rfl (qe rfl (qe rfl (qe rfl (qe rfl qj)))))) rfl<|sm rfl rfl<|su (qu rfl rfl rfl) rfl<|su (qu rfl rfl rfl) rfl<|sa rfl rfl<|sa rfl rfl<|qc<|qb ?_;obtain ⟨r20, br20, hR⟩ := qi hR;refine qa [.p, .p, .p, .r, .p, .p, .p, .p, .p, .p]<|sm rfl rfl<|sm rfl rfl<|su (zo rfl qbf rfl) rfl<|sr (zj rfl w5 rfl rfl rfl rfl) rfl<|su (qf rfl q9g rfl (q77 a0 r9.1 (S115.mk y17.Request.Name y17.Request.Carrier y17.Request.Kind y17.Request.Terminal y17.Request.Partner y17.Request.Link (S45.mk y17.Request.Period.fFrom y17.Request.Period.fTo y17.Request.Period.Days) y17.Request.Minute y17.Request.Seats y17.Request.Size y17.Request.Noise) 350 460 (by first | assumption | omega | (simp [qh]; done) | (simp [qh]; omega)) br20) (qe rfl (qe rfl (qe rfl (qe rfl (qe rfl qj)))))) rfl<|sm rfl rfl<|su (qu rfl rfl rfl) rfl<|su (qu rfl rfl rfl) rfl<|sa rfl rfl<|sa rfl rfl<|qc<|qb ?_;obtain ⟨r21, br21, hR⟩ := qi hR;refine qa [.p, .p, .p, .p, .p, .p, .p, .p, .p, .p, .p, .p]<|sm U U<|su (zx U U U) U<|sm U U<|sg U U (fun h => qk U U) U<|sg U U (fun h => zx U (gd h U) U) U<|su (jm U U U U) U<|sm U U<|sg U U (fun h => qk U U) U<|sg U U (fun h => qk U U) U<|sg U U (fun h => qf U K83 U (c83 r19.1 r20.1 (qs0 br21 h)) (qe (gd h U) (qe (gd h U) qj))) U<|sg U U (fun h => jn U (gd h U)) U<|su (jm U U U U) U<|qc ?_;refine ql _ U (fun h7 => ?_) (fun h7 => ?_)
          ·replace hR := zm hR h7;refine qb<|qa [.p]<|sa U U<|qc<|qo ?_;obtain rfl := Option.some.inj hR;exact zb U (rv_g U)
          ·replace h7 : (((decide (r19.2 ≠ 0)) || (decide (r20.2 ≠ 0))) || (!r21)) = false := h7;replace hR := zn hR h7;(try simp only [bB] at h7);refine qn<|qa [.p, .p]<|su (zl U U U iE) U<|sm U U<|qc ?_;exact ⟨U, (k16 + 1, t18), jA, O, U, ⟨hd2, hR⟩, by simp⟩
         ·replace h5 : (decide (((k16 : Nat) : Int) < (List.length a1.Slots : Int))) = false := h5;obtain rfl := zu hd2 (decF h5);rw [qcy] at hR;refine zr<|qb<|qa [.p, .p]<|su (qf U q9d U (q2d) qj) U<|sa U U<|qc<|qo ?_;obtain rfl := Option.some.inj hR;exact zb U (rv_g U)
noncomputable def qtt   : Option Bool :=
 some mktB
noncomputable def qtu (rec1 : Nat → (List ByteArray) → (List S5100) → (List S5072) → Option Bool) (k8 : Nat) (x18 : List ByteArray) (x19 : List S5100) (x20 : List S5072) : Option Bool :=
 rec1 (k8 + 1) x18 x19 x20
noncomputable def qtv (a0 : List S2062) (a1 : S5025) (r2 : S5042 × (List ByteArray) × Int) : List S5072 → Nat → (List ByteArray) → (List S5100) → (List S5072) → Option Bool
 | [], k8, x4, x6, x7 => qz (qjz (xo a1)) fun r11 => qz (qjz r2.1) fun r12 => qz (qjz (S5042.mk x6 x7)) fun r13 => qz (bif !(((decide (r11.2 ≠ 0)) || (decide (r12.2 ≠ 0))) || (decide (r13.2 ≠ 0))) then s60 x4 r2.2.1 else some default) fun r14 => qz (bif !((((decide (r11.2 ≠ 0)) || (decide (r12.2 ≠ 0))) || (decide (r13.2 ≠ 0))) || (!r14)) then qu6 r12.1 r13.1 else some default) fun r15 => (bif ((((decide (r11.2 ≠ 0)) || (decide (r12.2 ≠ 0))) || (decide (r13.2 ≠ 0))) || (!r14)) || (!r15) then some false else qz (q8s a0 r11.1) fun r16 => (bif decide (r16.2 = 7) then qz (q8s a0 r12.1) fun r17 => (bif decide (r17.2 ≠ 7) then some false else qtt) else qtt))
 | y9 :: t10, k8, x4, x6, x7 => qz (qnx a0 (S5042.mk x6 x7) (S115.mk y9.Request.Name y9.Request.Carrier y9.Request.Kind y9.Request.Terminal y9.Request.Partner y9.Request.Link (S45.mk y9.Request.Period.fFrom y9.Request.Period.fTo y9.Request.Period.Days) y9.Request.Minute y9.Request.Seats y9.Request.Size y9.Request.Noise)) fun r21 => (bif decide (r21.2 = 0) then qtu (fun k_ z0_ z1_ z2_ => qtv a0 a1 r2 t10 k_ z0_ z1_ z2_) k8 (x4 ++ [y9.Request.Name]) r21.1.Slots r21.1.Waiting else (bif decide (r21.2 ≠ 14) then some false else qtu (fun k_ z0_ z1_ z2_ => qtv a0 a1 r2 t10 k_ z0_ z1_ z2_) k8 x4 x6 x7))
theorem qvi (l : List S1079) : qu6 l l = some true := by
 have key : ∀ (t : List S1079) (k : Nat), l.drop k = t → qdm l t k = some true := by
  intro t
  induction t with
  | nil => intro k _; rfl
  | cons y t ih =>
   intro k hd;obtain ⟨h1, h2, h3⟩ := qds hd
   have : ixO l ((k : Nat) : Int) = some y := by unfold ixO; rw [decide_eq_true (by omega), cond_true, Int.toNat_natCast, h1]
   rw [qdm, this];simp only [qz, decide_true, qit, Bool.and_self, Bool.not_true, cond_false];exact ih (k + 1) h2
 unfold qu6;rw [decide_eq_false (by simp), cond_false];exact key l 0 U
structure HIn (x6 : List S5100) (t : List S5072) : Prop where
 v : ∀ x ∈ x6, SlotV x
 b : ∀ x ∈ x6, Brf x.Request
 n : x6.length + t.length ≤ 30
 nd : (qer x6 ++ qk3 t).Nodup
theorem HIn.book {x6 : List S5100} {t : List S5072} (h : HIn x6 t) : BkB (S5042.mk x6 []) := by
 have hn := h.n;refine ⟨⟨by show x6.length ≤ 64; omega, Nat.zero_le _, h.v, (fun w hw => nomatch hw), ?_, List.Pairwise.nil⟩, h.b, (fun w hw => nomatch hw), by show x6.length + 0 ≤ 30; omega⟩;show (qer x6 ++ []).Nodup;rw [List.append_nil];exact (List.nodup_append.1 h.nd).1
theorem ql0 {α : Type} {l : List α} {n : Nat} (h : n < l.length) : ixO l ((n : Nat) : Int) = some l[n] := by
 unfold ixO; rw [decide_eq_true (by omega), cond_true, Int.toNat_natCast, List.getElem?_eq_getElem h]
theorem q3d (a0 : S5036) : ∀ (k n : Nat) (x : Int), a0.Shares.length ≤ k + n → ∃ r, j9 a0 (k + 1) x ((n : Nat) : Int) = some r
 | k, n, x, hk => by
  have next : ∀ (k' : Nat), k = k' + 1 → ∀ e : Int, ∃ r, j9 a0 k e (((n : Nat) : Int) + 1) = some r := by
   rintro k' rfl e;exact q3d a0 k' (n + 1) e (by omega)
  rw [j9, cond_eq_ite]
  split
  ·rename_i c
   have c0 : ((n : Nat) : Int) < (a0.Shares.length : Int) := by
    rw [Bool.and_eq_true] at c; exact of_decide_eq_true c.1
   have hn : n < a0.Shares.length := by omega
   obtain ⟨k', rfl⟩ : ∃ k', k = k' + 1 := ⟨k - 1, by omega⟩
   have j3 : ∀ e : Int, ∃ r, qbg (fun z0_ z1_ => j9 a0 (k' + 1) z0_ z1_) a0 ((n : Nat) : Int) e = some r := by
    intro e;unfold qbg;rw [ql0 hn]
    cases decide (e = 0) with
    | true =>
     simp only [cond_true, qz, Bool.true_and];rw [cond_eq_ite]
     split
     ·exact next k' U 9
     ·exact next k' U e
    | false =>
     simp only [cond_false, qz, Bool.false_and];exact next k' U e
   rw [ql0 hn];simp only [qz]
   cases decide (qdr a0.Shares[n] = 0) with
   | true =>
    simp only [cond_true, Bool.true_and];rw [cond_eq_ite]
    split <;> exact j3 _
   | false =>
    simp only [cond_false, Bool.false_and];exact j3 _
  ·exact ⟨_, U⟩
termination_by k => k
theorem q9h (a0 : S5036) (x : Int) : ∃ r, qb6 a0 x = some r := by
 unfold qb6;exact q3d a0 (((List.length a0.Shares : Int) - 0).toNat) 0 x (by omega)
theorem q3e (a0 : S5036) : ∀ (k n : Nat) (x : Int), a0.Leases.length ≤ k + n → ∃ r, vn a0 (k + 1) x ((n : Nat) : Int) = some r
 | k, n, x, hk => by
  have next : ∀ (k' : Nat), k = k' + 1 → ∀ e : Int, ∃ r, qdh (fun z0_ z1_ => vn a0 k z0_ z1_) ((n : Nat) : Int) e = some r := by
   rintro k' rfl e;exact q3e a0 k' (n + 1) e (by omega)
  rw [vn, cond_eq_ite]
  split
  ·rename_i c
   have c0 : ((n : Nat) : Int) < (a0.Leases.length : Int) := by
    rw [Bool.and_eq_true] at c; exact of_decide_eq_true c.1
   have hn : n < a0.Leases.length := by omega
   obtain ⟨k', rfl⟩ : ∃ k', k = k' + 1 := ⟨k - 1, by omega⟩;rw [ql0 hn];simp only [qz]
   by_cases h0 : 0 < n
   ·have e1 : ixO a0.Leases (((n : Nat) : Int) - 1) = some (a0.Leases[n - 1]'(by omega)) := by
     rw [show ((n : Nat) : Int) - 1 = ((n - 1 : Nat) : Int) by omega, ql0 (by omega)]
    rw [e1]
    cases ((decide ((s89 [(qhg a0.Leases[n]), (qhh a0 a0.Leases[n])]) = 0)) && (decide (0 < ((n : Nat) : Int)))) with
    | true =>
     simp only [cond_true, Bool.true_and];rw [cond_eq_ite]
     split <;> exact next k' rfl _
    | false =>
     simp only [cond_false, Bool.false_and];exact next k' U _
   ·rw [decide_eq_false (show ¬ (0 : Int) < ((n : Nat) : Int) by omega), Bool.and_false];simp only [cond_false, Bool.false_and];exact next k' U _
  ·rw [cond_eq_ite]
   split <;> exact q9h a0 _
termination_by k => k
theorem t77 (a0 : S5036) : ∃ r, qpm a0 = some r := by
 have j5 : ∀ e, ∃ r, qar a0 e = some r := fun e => by
  unfold qar;exact q3e a0 (((List.length a0.Leases : Int) - 0).toNat) 0 e (by omega)
 unfold qpm;rw [cond_eq_ite]
 split <;> exact j5 _
theorem q3f (a0 : S5025) (hl : a0.Waiting.length ≤ 1000) : ∀ (t : List S5072) (k : Nat), a0.Waiting.drop k = t → ∃ r, kw a0 t k = some r
 | [], k, _ => ⟨0, rfl⟩
 | y :: t, k, hd => by
  obtain ⟨h1, h2, h3⟩ := qds hd
  have j1 : ∀ e : Int, ∃ r, qca (fun k_ => kw a0 t k_) k e = some r := fun e => by
   unfold qca;rw [cond_eq_ite]
   split
   ·exact ⟨_, U⟩
   ·exact q3f a0 hl t (k + 1) h2
  have j2 : ∀ e : Int, ∃ r, qcb (fun k_ => kw a0 t k_) a0 k y e = some r := fun e => by
   unfold qcb
   by_cases h0 : 0 < k
   ·have e1 : ixO a0.Waiting (IntKind.i64.wrap (((k : Nat) : Int) - 1)) = some (a0.Waiting[k - 1]'(by omega)) := by
     rw [wrap_i64 (by unfold I64; omega), show ((k : Nat) : Int) - 1 = ((k - 1 : Nat) : Int) by omega, ql0 (by omega)]
    rw [e1]
    cases ((decide (e = 0)) && (decide (0 < ((k : Nat) : Int)))) with
    | true =>
     simp only [cond_true, qz, Bool.true_and];rw [cond_eq_ite]
     split <;> exact j1 _
    | false =>
     simp only [cond_false, qz, Bool.false_and];exact j1 _
   ·rw [decide_eq_false (show ¬ (0 : Int) < ((k : Nat) : Int) by omega), Bool.and_false];simp only [cond_false, qz, Bool.false_and];exact j1 _
  rw [kw, cond_eq_ite]
  split <;> exact j2 _
theorem q3g (a0 : S5025) : ∀ (t : List S5036) (k : Nat), ∃ r, vw a0 t k = some r
 | [], k => by
  rw [vw, cond_eq_ite]
  split
  ·exact ⟨_, U⟩
  ·rename_i c
   have c : ¬ (64 : Int) < (a0.Waiting.length : Int) := by simpa using c
   exact q3f a0 (by omega) _ 0 U
 | y :: t, k => by
  have j3 : ∀ e : Int, ∃ r, qcc (fun k_ => vw a0 t k_) k e = some r := fun e => by
   unfold qcc;rw [cond_eq_ite]
   split
   ·exact ⟨_, U⟩
   ·exact q3g a0 t (k + 1)
  obtain ⟨r, hr⟩ := t77 y;rw [vw, hr];simp only [qz];rw [cond_eq_ite]
  split <;> exact j3 _
theorem t35 (a0 : S5025) : ∃ r, qq7 a0 = some r := by
 unfold qq7;rw [cond_eq_ite]
 split
 ·exact ⟨_, U⟩
 ·exact q3g a0 _ 0
theorem t06 (a0 : List S2062) (a1 : S5025) : ∃ r, qpp a0 a1 = some r := by
 unfold qpp;obtain ⟨r, hr⟩ := t35 a1;rw [hr]
 cases ((quc (qim a0) 2) && (decide ((qnw (qim a0)) = 0))) && (qky a1) <;> exact ⟨_, rfl⟩
theorem qo2 (l : List Int) : s83 l l = some true := by
 have key : ∀ (t : List Int) (k : Nat), l.drop k = t → qjs l t k = some true := by
  intro t
  induction t with
  | nil => intro k _; rfl
  | cons y t ih =>
   intro k hd;obtain ⟨h1, h2, h3⟩ := qds hd
   have : ixO l ((k : Nat) : Int) = some y := by unfold ixO; rw [decide_eq_true (by omega), cond_true, Int.toNat_natCast, h1]
   rw [qjs, this];simp only [qz, ne_eq, not_true_eq_false, decide_false, cond_false];exact ih (k + 1) h2
 unfold s83;rw [decide_eq_false (by simp), cond_false];exact key l 0 U
theorem qy6 {F : List Bool} (hF : F.length = 1440) : ∀ (k : Nat) (x3 : List Int) (x4 : Int), 0 ≤ x4 → x4 + (k : Nat) ≤ 111 → ∃ r, qad 350 F k x3 x4 = some (r, 0)
 | 0, x3, x4, _, _ => ⟨x3, by rw [qad]⟩
 | k + 1, x3, x4, h0, h1 => by
  have e : IntKind.i64.wrap (350 + x4) = ((350 + x4.toNat : Nat) : Int) := by rw [wrap_i64 (by unfold I64; omega)]; omega
  have hl : 350 + x4.toNat < F.length := by omega
  have h7 : qr2 F (IntKind.i64.wrap (350 + x4)) = some (!F[350 + x4.toNat]) := by
   unfold qr2;rw [e, qir (List.getElem?_eq_getElem hl)]; rfl
  rw [qad, h7];simp only [qz];unfold qfr;rw [cond_eq_ite]
  split
  ·exact qy6 hF k _ (x4 + 1) (by omega) (by omega)
  ·exact qy6 hF k _ (x4 + 1) (by omega) (by omega)
theorem qy7 {ls : List S2062} (hl : qbv ls = 0) {ms : List S1079} (hm : qal ms = some 0) {r : S115} (hr : RqOk r) : ∃ F, qr3 ls ms r 350 460 = some (F, 0) := by
 obtain ⟨h32, hok⟩ := qow hl
 have h1 : qr0 ls ms r 350 460 = some 0 := by
  unfold qr0 qi7;rw [hm];simp only [qz]
  have e1 : vo [(qbv ls), (0 : Int)] = 0 := jx.2 fun x hx => by
   simp only [List.mem_cons, List.not_mem_nil, or_false] at hx
   rcases hx with rfl | rfl
   ·exact hl
   ·rfl
  rw [e1, qwf hr]
  rfl
 obtain ⟨F, g1, g2, _⟩ := qyt (a0 := ls) (a1 := ms) (a2 := r) (by omega) hok hr.per;unfold qr3;rw [h1];simp only [qz];rw [decide_eq_false (by simp), cond_false, g1];simp only [];exact qy6 g2 _ [] 0 (by omega) (by decide)
theorem q3h {ls : List S2062} (hl : qbv ls = 0) {ms : List S1079} (hm : qal ms = some 0) : ∀ (t : List S5036) (k : Nat), (∀ s ∈ t, RqOk s.Request) → qcy ls (ms, 0) (ms, 0) t k = some true
 | [], k, _ => by rw [qcy, qpq]
 | s :: t, k, h => by
  obtain ⟨F, hF⟩ := qy7 hl hm (h s List.mem_cons_self);have hF' : qr3 ls ms (S115.mk s.Request.Name s.Request.Carrier s.Request.Kind s.Request.Terminal s.Request.Partner s.Request.Link (S45.mk s.Request.Period.fFrom s.Request.Period.fTo s.Request.Period.Days) s.Request.Minute s.Request.Seats s.Request.Size s.Request.Noise) 350 460 = some (F, 0) := hF;rw [qcy, hF'];simp only [qz, ne_eq, not_true_eq_false, decide_false, Bool.or_self, Bool.not_false, cond_true, qo2, Bool.not_true, cond_false];exact q3h hl hm t (k + 1) fun q hq => h q (List.mem_cons_of_mem _ hq)
theorem q3i {bk : S5025} (hs : ∀ s ∈ bk.Slots, Brf s.Request) (hn : bk.Slots.length ≤ 1000) {ms : List S1079} (hm : qal ms = some 0) (hp : ms.Perm ((bk.Slots.map S5036.Request).flatMap mvs)) {l : S2062} (hz : qbu l = 0) (rec1 : Nat → Option Bool) (k12 : Nat) : ∀ (t : List Int) (k : Nat), (∀ d ∈ t, d ∈ s104 l.Period) →
  qbr rec1 bk (ms, 0) (ms, 0) k12 l t k = rec1 (k12 + 1)
 | [], k, _ => by rw [qbr]
 | d :: t, k, h => by
  have hd := h d List.mem_cons_self;rw [qbr, q9c hz hm hd];simp only [qz, ne_eq, not_true_eq_false, decide_false, Bool.or_self, Bool.not_false, cond_true, qo2, Bool.not_true];rw [q1n hz hs hn hp hd];simp only [qz, qo2, Bool.not_true, cond_false];exact q3i hs hn hm hp hz rec1 k12 t (k + 1) fun q hq => h q (List.mem_cons_of_mem _ hq)
theorem q3j {ls : List S2062} (hl : qbv ls = 0) {bk : S5025} (hs : ∀ s ∈ bk.Slots, Brf s.Request) (hn : bk.Slots.length ≤ 1000) {ms : List S1079} (hm : qal ms = some 0) (hp : ms.Perm ((bk.Slots.map S5036.Request).flatMap mvs)) : ∀ (t : List S2062) (k : Nat), (∀ l ∈ t, qbu l = 0) → qah ls bk (ms, 0) (ms, 0) t k = some true
 | [], k, _ => by rw [qah]; exact q3h hl hm _ _ fun s h => (hs s h).ok
 | l :: t, k, h => by
  rw [qah];show qbr (fun k_ => qah ls bk (ms, 0) (ms, 0) t k_) bk (ms, 0) (ms, 0) k l (s104 l.Period) 0 = some true;rw [q3i hs hn hm hp (h l List.mem_cons_self) _ k _ 0 fun d hd => hd];exact q3j hl hs hn hm hp t (k + 1) fun q hq => h q (List.mem_cons_of_mem _ hq)
theorem qy8 {a0 : List S2062} {a1 : S5025} (h : QIn a0 a1) : ∀ s ∈ a1.Slots, Brf s.Request := by
 intro x hx;exact h.b.s (qf0 x) (by rw [qax]; exact List.mem_map_of_mem hx)
theorem q5x (a1 : S5025) : (xo a1).Slots.map S5100.Request = a1.Slots.map S5036.Request := by
 rw [qax];show (a1.Slots.map qf0).map S5100.Request = _;rw [List.map_map]; rfl
theorem qy9 {a0 : List S2062} {a1 : S5025} (hq : QIn a0 a1) {x6 : List S5100} {x7 : List S5072} (h : Lk (xo a1) (S5042.mk x6 x7)) : qdp a0 a1 x6 x7 = some true := by
 have hb := hq.b;have hn := hb.n;unfold qdp;rw [qrh hb, qrh (h.bk hb), h.bM];simp only [qz, ne_eq, not_true_eq_false, decide_false, Bool.or_self, Bool.not_false, cond_true, qvi, Bool.not_true, cond_false];have hsl := hq.o.sl
 obtain ⟨g1, g2, g3, _⟩ := qwh ((xo a1).Slots.map S5100.Request) [] 0 (fun r hr => by
  obtain ⟨x, hx, rfl⟩ := List.mem_map.1 hr
  exact hb.s x hx) qwi (by rw [List.length_map]; omega)
 refine q3j hq.o.lims (qy8 hq) (by omega) g2.z (by rw [← q5x]; simpa using g3) a0 0 fun l hm => ?_;have hz := hq.o.lims;unfold qbv at hz;rw [cond_eq_ite] at hz
 split at hz
 ·cases hz
 ·exact qlu hz l hm
theorem q3k {a0 : List S2062} {a1 : S5025} (hq : QIn a0 a1) (a2 : ByteArray × ByteArray × ByteArray × ByteArray) {x4 : List S5100} {x5 : List S5072} (h : Lk (xo a1) (S5042.mk x4 x5)) : qeh a0 a1 a2 x4 x5 = some true := by
 have hb := h.bk hq.b;unfold qeh;obtain ⟨r, hr⟩ := qrm hb a2.2.2.1;rw [hr];simp only [qz];rw [cond_eq_ite]
 split
 ·obtain ⟨R, g1, g2⟩ := qmq hb r.1 a2.2.2.1 a2.2.2.2;rw [g1];simp only [];rw [cond_eq_ite]
  split
  ·rename_i c
   exact qy9 hq (h.trans (g2 (of_decide_eq_true c)))
  ·exact qy9 hq h
 ·exact qy9 hq h
theorem q3l {a0 : List S2062} {a1 : S5025} (hq : QIn a0 a1) (a2 : ByteArray × ByteArray × ByteArray × ByteArray) {x2 : List S5100} {x3 : List S5072} (h : Lk (xo a1) (S5042.mk x2 x3)) : qei a0 a1 a2 x2 x3 = some true := by
 have hb := h.bk hq.b;unfold qei;obtain ⟨R, g1, g2⟩ := qpx hb [a2.1, a2.2.1, a2.2.2.1];rw [g1];simp only [qz];rw [cond_eq_ite]
 split
 ·rename_i c
  exact q3k hq a2 (h.trans (g2 (of_decide_eq_true c)))
 ·exact q3k hq a2 h
theorem qq0 (a0 : List S2062) (a1 : S5025) (a2 : ByteArray × ByteArray × ByteArray × ByteArray) : q1o a0 a1 a2 = some true := by
 obtain ⟨r1, h1⟩ := t06 a0 a1;unfold q1o;rw [h1];simp only [qz];rw [cond_eq_ite]
 split
 ·rw [qpq]
 ·rename_i c
  have hr : r1 = true := by
   cases r1 with
   | true => rfl
   | false => simp at c
  have hq := q_in h1 hr;obtain ⟨R, g1, g2⟩ := qpw hq.b a2.1 a2.2.1;rw [g1];simp only [];rw [cond_eq_ite]
  split
  ·rename_i c
   exact q3l hq a2 (g2 (of_decide_eq_true c))
  ·exact q3l hq a2 (Lk.refl hq.b)
open Go.ChangeShapes Go.WideShapes
theorem qvp {H : Type} {enc : TypeId × Value → H} {P : Program} {w : World} {base : Nat} {spare : Nat → Bool} {held : Bool} {r : Reach} {b0 : Nat} {t e : TypeId} {N : Nat} {v : Value} {d : DataW H} {p : List MemPlace} {n : Nat} {l : List Sh} (hs : P.underlying t = some (.array N e)) (hl : shOf P n e = some l) (hle : l.length = P.cellsOf e) (hct : P.cellsOf t = N * l.length)
  (hv : Value.okWide P w r b0 t v) (h : DataW.Trod enc P w base spare held t v d p) :
  ∃ xs : List (List G), xs.length = N ∧ (∀ c ∈ xs, Is l c) ∧ (G.agg xs.flatten).p w (fun _ => False) v := by
 unfold Value.okWide at hv;rw [hs] at hv;obtain ⟨cs, rfl, _, _⟩ := hv;obtain ⟨fuel, hf⟩ := h;obtain ⟨ys, m, _, _, hc, hlen, hff⟩ := DataW.trod_array hs hf;have hcells : (Value.agg cs).cells.toList = cs.toList := rfl;rw [hcells] at hc hff
 have key : ∀ q, q ≤ N → ∃ xs : List (List G), xs.length = q ∧ (∀ c ∈ xs, Is l c) ∧ Fits w (fun _ => False) xs.flatten (cs.toList.take (q * l.length)) := by
  intro q
  induction q with
  | zero => intro _; exact ⟨[], rfl, by simp, by simp [Fits]⟩
  | succ q iq =>
   intro hq;obtain ⟨xs, h1, h2, h3⟩ := iq (by omega);have h4 := hff q (by omega);rw [List.getElem?_eq_getElem (by omega)] at h4;obtain ⟨gs, h5, h6⟩ := qhu n e l hl _ _ _ h4;refine ⟨xs ++ [gs], by simp [h1], ?_, ?_⟩
   ·intro c hc'
    rcases List.mem_append.1 hc' with hc' | hc'
    ·exact h2 c hc'
    ·rw [List.mem_singleton.1 hc']; exact h5
   ·rw [List.flatten_append, List.flatten_cons, List.flatten_nil, List.append_nil, Nat.succ_mul, List.take_add];rw [← hle] at h6;exact qn2 h3 h6
 obtain ⟨xs, h1, h2, h3⟩ := key N (Nat.le_refl N);refine ⟨xs, h1, h2, cs.toList, U, ?_⟩
 rwa [List.take_of_length_le (by rw [hc, hct]; exact Nat.le_refl _)] at h3
theorem qvq {α : Type} {l : List α} (h : l.length = 4) : ∃ a b c d, l = [a, b, c, d] := by
 match l, h with
 | [a, b, c, d], _ => exact ⟨a, b, c, d, rfl⟩
end Go.Sim
