/-
  What is proved: lemmas and contracts of functions on the way to the law topChockQueue (part 12).
-/
import Derived.Test.YtfmnmoiaemejjaaGreatVrB2
import Derived.Test.YtfmnmoiaemejjaaGreatVrB1
import Derived.Test.YtfmnmoiaemejjaaGreatVrA8
import Derived.Test.YtfmnmoiaemejjaaGreatVrA9
import Derived.Test.YtfmnmoiaemejjaaGreatVrA3
set_option linter.unusedSectionVars false
set_option linter.unusedSimpArgs false
set_option linter.unusedVariables false
set_option linter.unnecessarySimpa false
set_option linter.deprecated false
set_option maxRecDepth 10000
namespace Go.Sim
theorem qur {a b : S5072} (h : qp6 a b) : 0 < qg3 b a := by
 unfold qg3;rw [show ∀ x y : Int, s176 [x, y] = bif decide (x ≠ 0) then x else bif decide (y ≠ 0) then y else 0 from fun _ _ => rfl, qus, qp7]
 rcases h with h | ⟨h1, h2⟩
 ·have h' : ¬ b.Rank < a.Rank := by omega
  simp [h, h']
 ·have h3 : qay b.Request.Name a.Request.Name = false := by
   cases hs : qay b.Request.Name a.Request.Name with
   | false => rfl
   | true => exact (q8a h2 hs).elim
  have h4 : ¬ b.Request.Name = a.Request.Name := fun e => by rw [e, qrg] at h2; cases h2
  simp [h1, h3, h4]
theorem qom {x : List (ByteArray × Bool)} {S : List ByteArray} (h : ∀ n, vd x n false = true ↔ n ∈ S) (m : ByteArray) : ∀ n, vd (mset x m true) n false = true ↔ n ∈ S ++ [m] := by
 intro n;rw [qp8]
 by_cases e : m = n
 ·subst e; simp
 ·rw [if_neg e, h n];simp only [List.mem_append, List.mem_singleton];exact ⟨.inl, fun k => k.resolve_right fun e' => e e'.symm⟩
theorem qlk {b : S5042} (h : BookV b) : ∀ (t : List S5072) (k : Nat) (x : List (ByteArray × Bool)) (S : List ByteArray), b.Waiting.drop k = t → (∀ n, vd x n false = true ↔ n ∈ S) → (S ++ xf t).Nodup → qct b t k x = some 0
 | [], _, _, _, _, _, _ => rfl
 | y :: t, k, x, S, hd, hx, hn => by
  obtain ⟨h1, h2, h3⟩ := qdr hd;have hw := h.w y (List.mem_of_getElem? h1);have hwl := h.wl
  have key : ∃ q, (bif decide (0 < ((k : Nat) : Int)) then ixO b.Waiting (max 0 (IntKind.i64.wrap (((k : Nat) : Int) - 1))) else some default) = some q ∧ (0 < k → b.Waiting[k - 1]? = some q) := by
   by_cases hk : 0 < k
   ·obtain ⟨q, q1, q2⟩ := qut h3 (by omega);rw [decide_eq_true (by omega), cond_true] at q1 ⊢;exact ⟨q, q1, q2⟩
   ·rw [decide_eq_false (by omega), cond_false];exact ⟨default, rfl, fun h' => absurd h' hk⟩
  obtain ⟨q, q1, q2⟩ := key
  have hc : (decide (0 < ((k : Nat) : Int)) && decide (qg3 y q ≤ 0)) = false := by
   by_cases hk : 0 < k
   ·obtain ⟨e1, e1'⟩ := List.getElem?_eq_some_iff.1 (q2 hk);obtain ⟨e2, e2'⟩ := List.getElem?_eq_some_iff.1 h1;have := List.pairwise_iff_getElem.1 h.or (k - 1) k e1 e2 (by omega);rw [e1', e2'] at this;have := qur this;rw [decide_eq_false (show ¬ qg3 y q ≤ 0 by omega), Bool.and_false]
   ·rw [decide_eq_false (by omega), Bool.false_and]
  have hns : ¬ y.Request.Name ∈ S := by
   intro hm;have := (List.nodup_append.1 hn).2.2 _ hm y.Request.Name (by simp [xf]);exact this rfl
  have hz : ve [(qlb y), (j8 (vd x y.Request.Name false) 9), (j8 ((decide (0 < ((k : Nat) : Int))) && (decide ((qg3 y q) ≤ 0))) 11)] = 0 := vv.2 fun z hz => by
   simp only [List.mem_cons, List.not_mem_nil, or_false] at hz
   rcases hz with rfl | rfl | rfl
   ·exact quu hw
   ·rw [show vd x y.Request.Name false = false from Bool.eq_false_iff.2 fun e => hns ((hx _).1 e)]; rfl
   ·rw [hc]; rfl
  rw [qct, q1];simp only [zf];rw [hz, decide_eq_false (by simp), cond_false];exact qlk h t (k + 1) _ (S ++ [y.Request.Name]) h2 (qom hx _) (by rw [List.append_assoc]; exact hn)
theorem qll {b : S5042} (h : BookV b) : ∀ (t : List S5100) (k : Nat) (x : List (ByteArray × Bool)) (S : List ByteArray), (∀ s ∈ t, SlotV s) → (∀ n, vd x n false = true ↔ n ∈ S) → (S ++ (qac t ++ xf b.Waiting)).Nodup → qbr b t k x = some 0
 | [], k, x, S, _, hx, hn => by
  have := h.wl;rw [qbr, decide_eq_false (by omega), cond_false];exact qlk h _ 0 x S rfl hx (by simpa [qac] using hn)
 | y :: t, k, x, S, hs, hx, hn => by
  have hns : ¬ y.Request.Name ∈ S := by
   intro hm;have := (List.nodup_append.1 hn).2.2 _ hm y.Request.Name (by simp [qac]);exact this rfl
  have hz : ve [0, (j8 (vd x y.Request.Name false) 9)] = 0 := vv.2 fun z hz => by
   simp only [List.mem_cons, List.not_mem_nil, or_false] at hz
   rcases hz with rfl | rfl
   ·rfl
   ·rw [show vd x y.Request.Name false = false from Bool.eq_false_iff.2 fun e => hns ((hx _).1 e)]; rfl
  rw [qbr, quv (hs y List.mem_cons_self)];simp only [zf];rw [hz, decide_eq_false (by simp), cond_false];exact qll h t (k + 1) _ (S ++ [y.Request.Name]) (fun s hm => hs s (List.mem_cons_of_mem _ hm)) (qom hx _) (by rw [List.append_assoc]; exact hn)
theorem qj3 {b : S5042} (h : BookV b) : qmt b = some 0 := by
 have := h.sl;unfold qmt;rw [decide_eq_false (by omega), cond_false];exact qll h _ 0 [] [] h.s (fun n => by simp [vd, mget]) (by simpa using h.nd)
theorem qlm (f : S5100 → Bool) : ∀ (l : List S5100) (k : Nat), 0 ≤ qbs f l k ↔ ∃ x ∈ l, f x = true
 | [], k => by rw [qbs]; simp
 | y :: t, k => by
  rw [qbs]
  cases h : f y with
  | true => simp [h]
  | false => rw [cond_false, qlm f t]; simp [h]
theorem qln (f : S5072 → Bool) : ∀ (l : List S5072) (k : Nat), 0 ≤ qbt f l k ↔ ∃ x ∈ l, f x = true
 | [], k => by rw [qbt]; simp
 | y :: t, k => by
  rw [qbt]
  cases h : f y with
  | true => simp [h]
  | false => rw [cond_false, qln f t]; simp [h]
theorem quw (b : S5042) (n : ByteArray) : qfn b n = true ↔ n ∈ qac b.Slots ++ xf b.Waiting := by
 unfold qfn qdc qux quy quz;rw [Bool.or_eq_true, decide_eq_true_iff, decide_eq_true_iff, qlm, qln, List.mem_append];unfold qs5 qs6 qac xf
 simp [List.mem_map]
end Go.Sim
set_option maxRecDepth 10000
namespace Go.Sim
open Go.Proofs
theorem qjd {α : Type} {l : List α} {n : Nat} {x : α} (h : ixO l ((n : Nat) : Int) = some x) : l[n]? = some x := by
 have := zj h; rwa [Int.toNat_natCast] at this
theorem qg4 {s : ByteArray} : qc2 s = 0 ↔ s147 s = true := by unfold qc2; rw [qds]; cases s91 s <;> simp
theorem q4v (a : ByteArray) : ∀ (l : List ByteArray) (k : Nat), qf1 a l k = true ↔ a ∈ l
 | [], k => by rw [qf1]; simp
 | y :: t, k => by
  rw [qf1]
  by_cases h : y = a
  ·subst h; simp
  ·rw [decide_eq_false h, cond_false, q4v a t, List.mem_cons];exact ⟨.inr, fun q => q.resolve_left fun e => h e.symm⟩
theorem q4w (l : List ByteArray) (a : ByteArray) : s92 l a = true ↔ a ∈ l := q4v a l 0
theorem q0r (a0 : S5036) : ∀ (k n : Nat), kd a0 k 0 ((n : Nat) : Int) = some 0 → ∀ j c, n ≤ j → a0.Shares[j]? = some c → s147 c = true ∧ ¬ c = a0.Holder ∧ ¬ c ∈ a0.Shares.take j
 | 0, n, h => by rw [kd] at h; cases h
 | k + 1, n, h => by
  intro j c hj hc;have hjl : j < a0.Shares.length := (List.getElem?_eq_some_iff.1 hc).1;rw [kd, cond_eq_ite] at h;rw [if_pos (by rw [decide_eq_true (show ((n : Nat) : Int) < (a0.Shares.length : Int) by omega)]; rfl)] at h;obtain ⟨y, hy, h⟩ := qi h;have hy' := qjd hy;obtain ⟨y', hy2, h⟩ := qi h
  have fin : ∀ e : Int, e ≠ 0 → qa5 (fun z0_ z1_ => kd a0 k z0_ z1_) a0 ((n : Nat) : Int) e = some 0 → False := by
   intro e he hq;unfold qa5 at hq;rw [decide_eq_false he] at hq;simp only [cond_false, Bool.false_and] at hq;obtain ⟨_, _, hq⟩ := qi hq;replace hq : kd a0 k e (((n : Nat) : Int) + 1) = some 0 := hq
   cases k with
   | zero => rw [kd] at hq; cases hq
   | succ k =>
    rw [kd, decide_eq_false he, Bool.and_false, cond_false] at hq;exact he (Option.some.inj hq)
  rw [cond_eq_ite] at h
  split at h
  ·exact (fin 31 (by decide) h).elim
  rename_i c1
  by_cases h0 : qc2 y = 0
  ·rw [h0] at h hy2 c1;rw [decide_eq_true rfl, cond_true] at hy2;have e2 : y' = y := Option.some.inj (hy2.symm.trans hy);rw [e2] at c1
   have c1 : ¬ y = a0.Holder := by simpa using c1
   unfold qa5 at h;rw [decide_eq_true (show (0 : Int) = 0 from rfl)] at h;simp only [cond_true, Bool.true_and] at h;obtain ⟨y2, hy3, h⟩ := qi h;have e3 : y2 = y := Option.some.inj (hy3.symm.trans hy);rw [e3, Int.toNat_natCast] at h;rw [cond_eq_ite] at h
   split at h
   ·replace h : kd a0 k 9 (((n : Nat) : Int) + 1) = some 0 := h
    cases k with
    | zero => rw [kd] at h; cases h
    | succ k => rw [kd, decide_eq_false (show ¬ (9 : Int) = 0 by decide), Bool.and_false, cond_false] at h; cases h
   rename_i c2
   unfold qeq at h
   by_cases e : j = n
   ·subst e;have : c = y := Option.some.inj (hc.symm.trans hy');rw [this];exact ⟨qg4.1 h0, c1, fun hm => c2 ((q4w _ _).2 hm)⟩
   ·exact q0r a0 k (n + 1) h j c (by omega) hc
  ·exact (fin _ h0 h).elim
theorem qx8 (a0 : S5036) {x : Int} (h : qbu a0 x = some 0) : x = 0 ∧ ∀ j c, a0.Shares[j]? = some c → s147 c = true ∧ ¬ c = a0.Holder ∧ ¬ c ∈ a0.Shares.take j := by
 unfold qbu at h
 by_cases hx : x = 0
 ·subst hx; exact ⟨rfl, fun j c hc => q0r a0 _ 0 h j c (Nat.zero_le _) hc⟩
 ·rw [kd, decide_eq_false hx, Bool.and_false, cond_false] at h;exact absurd (Option.some.inj h) hx
theorem q0s (a0 : S5036) : ∀ (k n : Nat), vg a0 k 0 ((n : Nat) : Int) = some 0 → (∀ j l, n ≤ j → a0.Leases[j]? = some l → qf2 l = 0 ∧ qf3 a0 l = 0 ∧ (0 < j → ∀ q, a0.Leases[j - 1]? = some q → q.fTo < l.fFrom)) ∧
  a0.Shares.length ≤ 4 ∧ ∀ j c, a0.Shares[j]? = some c → s147 c = true ∧ ¬ c = a0.Holder ∧ ¬ c ∈ a0.Shares.take j
 | 0, n, h => by rw [vg] at h; cases h
 | k + 1, n, h => by
  rw [vg, cond_eq_ite] at h
  split at h
  ·rename_i c0
   have c0 : ((n : Nat) : Int) < (a0.Leases.length : Int) := by simpa using c0
   obtain ⟨y6, h6, h⟩ := qi h;obtain ⟨y7, h7, h⟩ := qi h;have e7 : y7 = y6 := Option.some.inj (h7.symm.trans h6);subst e7;obtain ⟨y8, h8, h⟩ := qi h;obtain ⟨y9, h9, h⟩ := qi h
   have fin : ∀ e : Int, e ≠ 0 → qcu (fun z0_ z1_ => vg a0 k z0_ z1_) ((n : Nat) : Int) e = some 0 → False := by
    intro e he hq;replace hq : vg a0 k e (((n : Nat) : Int) + 1) = some 0 := hq
    cases k with
    | zero => rw [vg] at hq; cases hq
    | succ k =>
     rw [vg, decide_eq_false he, Bool.and_false, cond_false, Bool.false_and, cond_false] at hq;exact he (qx8 a0 hq).1
   rw [cond_eq_ite] at h
   split at h
   ·exact (fin 15 (by decide) h).elim
   rename_i c1
   by_cases h0 : s89 [qf2 y7, qf3 a0 y7] = 0
   ·rw [h0] at h;unfold qcu at h;obtain ⟨g1, g2, g3⟩ := q0s a0 k (n + 1) h;refine ⟨fun j l hj hl => ?_, g2, g3⟩
    by_cases e : j = n
    ·subst e;have el : l = y7 := Option.some.inj (hl.symm.trans (qjd h6));have hz := (qf4 _).1 h0;rw [el];refine ⟨hz _ (by simp), hz _ (by simp), fun hj0 q hq => ?_⟩;rw [h0, decide_eq_true (show (0 : Int) = 0 from rfl), decide_eq_true (show (0 : Int) < ((j : Nat) : Int) by omega)] at h8 h9 c1;simp only [Bool.true_and, cond_true, Bool.and_self] at h8 h9 c1;have e8 : y8 = y7 := Option.some.inj (h8.symm.trans h6)
     have e9 : y9 = q := by
      have : ixO a0.Leases (((j : Nat) : Int) - 1) = ixO a0.Leases ((j - 1 : Nat) : Int) := by congr 1; omega
      rw [this] at h9;exact Option.some.inj ((qjd h9).symm.trans hq)
     rw [e8, e9] at c1
     have c1 : ¬ y7.fFrom ≤ q.fTo := by simpa using c1
     omega
    ·exact g1 j l (by omega) hl
   ·exact (fin _ h0 h).elim
  ·rename_i c0
   have c0 : ¬ ((n : Nat) : Int) < (a0.Leases.length : Int) := by simpa using c0
   rw [cond_eq_ite] at h
   split at h
   ·have := (qx8 a0 h).1; omega
   rename_i c1
   have c1 : ¬ (4 : Int) < (a0.Shares.length : Int) := by simpa using c1
   refine ⟨fun j l hj hl => ?_, by omega, (qx8 a0 h).2⟩;have := (List.getElem?_eq_some_iff.1 hl).1
   omega
def qg5 (y : S5036) : S5100 := S5100.mk y.Request y.Holder y.Leases y.Shares
theorem qu0 {r : S115} (h : qg6 r = 0) : ReqV r := by
 unfold qg6 qer at h;rw [cond_eq_ite] at h
 split at h
 ·cases h
 rename_i c1
 have h1 := q4x h;refine ⟨h1, fun e => c1 ?_⟩;rw [h, decide_eq_true (show (0 : Int) = 0 from rfl), Bool.true_and];refine decide_eq_true ?_;rw [qlo h1.per] at e;rw [q18 _ h1.per];have e : dayL r.Period.Days (r.Period.fTo + 1 - r.Period.fFrom).toNat r.Period.fFrom = [] := e;rw [e]; rfl
theorem qon {y : S5036} {l : S5102} (h1 : qf2 l = 0) (h2 : qf3 y l = 0) : LeaseV (qg5 y) l := by
 unfold qf2 qes at h1;rw [cond_eq_ite] at h1
 split at h1
 ·cases h1
 rename_i c1
 have hz := (qf4 _).1 h1;rw [h1, decide_eq_true (show (0 : Int) = 0 from rfl), Bool.true_and] at c1
 have c1 : ¬ l.fTo < l.fFrom := by simpa using c1
 have d : ∀ n, s109 n = 0 → 0 ≤ n ∧ n ≤ 99999 := fun n hn => by unfold s109 at hn; exact qal.1 hn
 unfold qf3 at h2;rw [cond_eq_ite] at h2
 split at h2
 ·cases h2
 rename_i c2
 rw [cond_eq_ite] at h2
 split at h2
 ·cases h2
 rename_i c3
 simp only [Bool.or_eq_true, decide_eq_true_eq, not_or] at c2;exact ⟨qg4.1 (hz _ (by simp)), d _ (hz (s109 l.fFrom) (by simp)), d _ (hz (s109 l.fTo) (by simp)), by omega, by show y.Request.Period.fFrom ≤ _ ∧ _ ≤ y.Request.Period.fTo; omega, by show ¬ l.Carrier = y.Holder; simpa using c3⟩
theorem qx9 {y : S5036} (h : qoo y = some 0) : SlotV (qg5 y) := by
 unfold qoo at h
 have key : s89 [qg6 y.Request, qc2 y.Holder] = 0 ∧ y.Leases.length ≤ 8 ∧ qam y 0 = some 0 := by
  have nz : ∀ e : Int, qam y e = some 0 → e = 0 := by
   intro e hq
   by_cases he : e = 0
   ·exact he
   ·unfold qam at hq;rw [vg, decide_eq_false he, Bool.and_false, cond_false, Bool.false_and, cond_false] at hq;exact (qx8 y hq).1
  rw [cond_eq_ite] at h
  split at h
  ·have := nz _ h; omega
  rename_i c1
  have h0 := nz _ h;rw [h0] at h c1;rw [decide_eq_true (show (0 : Int) = 0 from rfl), Bool.true_and] at c1
  have c1 : ¬ (8 : Int) < (y.Leases.length : Int) := by simpa using c1
  exact ⟨h0, by omega, h⟩
 obtain ⟨k1, k2, k3⟩ := key;unfold qam at k3;obtain ⟨g1, g2, g3⟩ := q0s y _ 0 k3;have hz := (qf4 _).1 k1
 have hlp : ∀ j (hj : j < y.Leases.length), ∀ i (hi : i < j), (y.Leases[i]'(by omega)).fTo < (y.Leases[j]).fFrom := by
  intro j
  induction j with
  | zero => intro hj i hi; omega
  | succ j ih =>
   intro hj i hi;have q1 := (g1 (j + 1) _ (Nat.zero_le _) (List.getElem?_eq_getElem hj)).2.2 (Nat.succ_pos _) _ (List.getElem?_eq_getElem (show j < y.Leases.length by omega))
   by_cases e : i = j
   ·subst e; exact q1
   ·have q2 := ih (by omega) i (by omega);have q3 := g1 j _ (Nat.zero_le _) (List.getElem?_eq_getElem (show j < y.Leases.length by omega));have q4 := (qon q3.1 q3.2.1).o
    omega
 refine ⟨qu0 (hz (qg6 y.Request) (by simp)), qg4.1 (hz (qc2 y.Holder) (by simp)), k2, fun l hl => ?_, ?_, g2, fun c hc => ?_, ?_⟩
 ·obtain ⟨j, hj⟩ := List.mem_iff_getElem?.1 hl;have := g1 j l (Nat.zero_le _) hj;exact qon this.1 this.2.1
 ·show y.Leases.Pairwise _;exact List.pairwise_iff_getElem.2 fun i j hi hj hij => hlp j hj i hij
 ·obtain ⟨j, hj⟩ := List.mem_iff_getElem?.1 hc;have := g3 j c hj;exact ⟨this.1, this.2.1⟩
 ·show y.Shares.Nodup;refine List.pairwise_iff_getElem.2 fun i j hi hj hij e => ?_;refine (g3 j _ (List.getElem?_eq_getElem hj)).2.2 ?_;rw [List.mem_iff_getElem];exact ⟨i, by rw [List.length_take]; omega, by rw [List.getElem_take]; exact e⟩
end Go.Sim
set_option maxRecDepth 10000
namespace Go.Sim
open Go.Proofs
theorem qg7 (n : ByteArray) : ∀ (l : List S5036) (k : Nat), 0 ≤ qbv n l k ↔ ∃ x ∈ l, x.Request.Name = n
 | [], k => by rw [qbv]; simp
 | y :: t, k => by
  rw [qbv]
  by_cases h : y.Request.Name = n
  ·rw [decide_eq_true h, cond_true]; simp [h]
  ·rw [decide_eq_false h, cond_false, qg7 n t]; simp [h]
theorem qlp (n : ByteArray) : ∀ (l : List S5072) (k : Nat), 0 ≤ qbw n l k ↔ ∃ x ∈ l, x.Request.Name = n
 | [], k => by rw [qbw]; simp
 | y :: t, k => by
  rw [qbw]
  by_cases h : y.Request.Name = n
  ·rw [decide_eq_true h, cond_true]; simp [h]
  ·rw [decide_eq_false h, cond_false, qlp n t]; simp [h]
theorem q4y (a0 : S5025) : ∀ (t : List S5036) (k : Nat), a0.Slots.drop k = t → vq a0 t k = some 0 → (∀ j y, k ≤ j → a0.Slots[j]? = some y → qoo y = some 0 ∧ ∀ x ∈ a0.Slots.take j, ¬ x.Request.Name = y.Request.Name) ∧ a0.Waiting.length ≤ 64 ∧ kq a0 a0.Waiting 0 = some 0
 | [], k, hd, h => by
  rw [vq, cond_eq_ite] at h
  split at h
  ·cases h
  rename_i c1
  have c1 : ¬ (64 : Int) < (a0.Waiting.length : Int) := by simpa using c1
  refine ⟨fun j y hj hy => ?_, by omega, h⟩;have h1 := (List.getElem?_eq_some_iff.1 hy).1;have h2 := congrArg List.length hd;rw [List.length_drop] at h2
  simp at h2; omega
 | y :: t, k, hd, h => by
  obtain ⟨h1, h2, h3⟩ := qdr hd;rw [vq] at h;obtain ⟨r, hr, h⟩ := qi h
  have j3 : ∀ e : Int, qbx (fun k_ => vq a0 t k_) k e = some 0 → e = 0 ∧ vq a0 t (k + 1) = some 0 := by
   intro e hq;unfold qbx at hq
   by_cases he : e = 0
   ·subst he; rw [decide_eq_false (by simp), cond_false] at hq; exact ⟨rfl, hq⟩
   ·rw [decide_eq_true he, cond_true] at hq; exact absurd (Option.some.inj hq) he
  rw [cond_eq_ite] at h
  split at h
  ·have := (j3 _ h).1; omega
  rename_i c1
  obtain ⟨hr0, h⟩ := j3 _ h;rw [hr0] at hr c1;rw [decide_eq_true (show (0 : Int) = 0 from rfl), Bool.true_and] at c1;obtain ⟨g1, g2⟩ := q4y a0 t (k + 1) h2 h;refine ⟨fun j z hj hz => ?_, g2⟩
  by_cases e : j = k
  ·subst e;have ez : z = y := Option.some.inj (hz.symm.trans h1);rw [ez];refine ⟨hr, fun x hx hxe => c1 (decide_eq_true ?_)⟩;rw [Int.toNat_natCast];unfold qp9;exact (qg7 _ _ _).2 ⟨x, hx, hxe⟩
  ·exact g1 j z (by omega) hz
theorem q4z (a0 : S5025) : ∀ (t : List S5072) (k : Nat), a0.Waiting.drop k = t → a0.Waiting.length ≤ 1000 → kq a0 t k = some 0 → ∀ j y, k ≤ j → a0.Waiting[j]? = some y → qop y = 0 ∧ (∀ x ∈ a0.Slots, ¬ x.Request.Name = y.Request.Name) ∧ (∀ x ∈ a0.Waiting.take j, ¬ x.Request.Name = y.Request.Name) ∧ (0 < j → ∀ q, a0.Waiting[j - 1]? = some q → qqa q y = true)
 | [], k, hd, _, h => by
  intro j y hj hy;have h1 := (List.getElem?_eq_some_iff.1 hy).1;have h2 := congrArg List.length hd;rw [List.length_drop] at h2
  simp at h2; omega
 | y :: t, k, hd, hl, h => by
  obtain ⟨h1, h2, h3⟩ := qdr hd;rw [kq] at h
  have j1 : ∀ e : Int, qby (fun k_ => kq a0 t k_) k e = some 0 → e = 0 ∧ kq a0 t (k + 1) = some 0 := by
   intro e hq;unfold qby at hq
   by_cases he : e = 0
   ·subst he; rw [decide_eq_false (by simp), cond_false] at hq; exact ⟨rfl, hq⟩
   ·rw [decide_eq_true he, cond_true] at hq; exact absurd (Option.some.inj hq) he
  have j2 : ∀ e : Int, qbz (fun k_ => kq a0 t k_) a0 k y e = some 0 → e = 0 ∧ kq a0 t (k + 1) = some 0 ∧ (0 < k → ∀ q, a0.Waiting[k - 1]? = some q → qqa q y = true) := by
   intro e hq;unfold qbz at hq;obtain ⟨p, hp, hq⟩ := qi hq;rw [cond_eq_ite] at hq
   split at hq
   ·have := (j1 _ hq).1; omega
   rename_i c1
   obtain ⟨e0, hq⟩ := j1 _ hq;refine ⟨e0, hq, fun hk q hqk => ?_⟩;subst e0;rw [decide_eq_true (show (0 : Int) = 0 from rfl), decide_eq_true (show (0 : Int) < ((k : Nat) : Int) by omega)] at hp c1;simp only [Bool.and_self, cond_true, Bool.true_and] at hp c1;rw [wrap_i64 (by unfold I64; omega)] at hp
   have : p = q := by
    have e1 : ixO a0.Waiting (((k : Nat) : Int) - 1) = ixO a0.Waiting ((k - 1 : Nat) : Int) := by congr 1; omega
    rw [e1] at hp;exact Option.some.inj ((qjd hp).symm.trans hqk)
   subst this
   simpa using c1
  rw [cond_eq_ite] at h
  split at h
  ·have := (j2 _ h).1; omega
  rename_i c1
  obtain ⟨g1, g2, g3⟩ := j2 _ h;rw [g1, decide_eq_true (show (0 : Int) = 0 from rfl), Bool.true_and] at c1;simp only [Bool.or_eq_true, decide_eq_true_eq, not_or] at c1;intro j z hj hz
  by_cases e : j = k
  ·subst e;have ez : z = y := Option.some.inj (hz.symm.trans h1);rw [ez];refine ⟨g1, fun x hx hxe => c1.1 ?_, fun x hx hxe => c1.2 ?_, g3⟩
   ·unfold qp9; exact (qg7 _ _ _).2 ⟨x, hx, hxe⟩
   ·rw [Int.toNat_natCast]; unfold qu1; exact (qlp _ _ _).2 ⟨x, hx, hxe⟩
  ·exact q4z a0 t (k + 1) h2 hl g2 j z (by omega) hz
theorem qya {a b c : S5072} (h : qp6 a b) (k : qp6 b c) : qp6 a c := by
 rcases h with h | ⟨h1, h⟩ <;> rcases k with k | ⟨k1, k⟩
 ·exact .inl (by omega)
 ·exact .inl (by omega)
 ·exact .inl (by omega)
 ·exact .inr ⟨by omega, qyb h k⟩
theorem qyc {α : Type} {r : α → α → Prop} (tr : ∀ {a b c}, r a b → r b c → r a c) {l : List α} (h : ∀ j y q, 0 < j → l[j]? = some y → l[j - 1]? = some q → r q y) : l.Pairwise r := by
 refine List.pairwise_iff_getElem.2 fun i j hi hj hij => ?_
 induction j with
 | zero => omega
 | succ j ih =>
  have q1 := h (j + 1) _ _ (Nat.succ_pos _) (List.getElem?_eq_getElem hj) (List.getElem?_eq_getElem (show j + 1 - 1 < l.length by omega))
  by_cases e : i = j
  ·subst e; exact q1
  ·exact tr (ih (by omega) (by omega)) q1
theorem qu2 (x2 : List S5100) : ∀ (l : List S5072) (k : Nat) (x : List S5072), qb0 x2 l k x = S5042.mk x2 (x ++ l)
 | [], k, x => by rw [qb0, List.append_nil]
 | y :: t, k, x => by rw [qb0, qu2 x2 t]; simp
theorem qu3 (rec1 : Nat → (List S5100) → S5042) (x2 : List S5100) (k3 : Nat) (y4 : S5036) : ∀ (l : List S5102) (k : Nat) (x : List S5102), qb1 rec1 x2 k3 y4 l k x = rec1 (k3 + 1) (x2 ++ [S5100.mk y4.Request y4.Holder (x ++ l) y4.Shares])
 | [], k, x => by rw [qb1, List.append_nil]
 | y :: t, k, x => by rw [qb1, qu3 rec1 x2 k3 y4 t]; simp
theorem qu4 (a0 : S5025) : ∀ (l : List S5036) (k : Nat) (x : List S5100), qan a0 l k x = S5042.mk (x ++ l.map qg5) a0.Waiting
 | [], k, x => by rw [qan, qu2]; simp
 | y :: t, k, x => by rw [qan, qu3, qu4 a0 t]; simp [qg5]
theorem qa6 (a0 : S5025) : jj a0 = S5042.mk (a0.Slots.map qg5) a0.Waiting := by unfold jj; rw [qu4]; rfl
theorem qyd {a0 : S5025} (h : qqb a0 = some 0) : BookV (jj a0) := by
 unfold qqb at h;rw [cond_eq_ite] at h
 split at h
 ·cases h
 rename_i c1
 have c1 : ¬ (64 : Int) < (a0.Slots.length : Int) := by simpa using c1
 obtain ⟨g1, g2, g3⟩ := q4y a0 _ 0 rfl h;have g4 := q4z a0 _ 0 rfl (by omega) g3;rw [qa6];refine ⟨by show (a0.Slots.map qg5).length ≤ 64; rw [List.length_map]; omega, g2, fun x hx => ?_, fun w hw => ?_, ?_, ?_⟩
 ·obtain ⟨y, hy, rfl⟩ := List.mem_map.1 hx;obtain ⟨j, hj⟩ := List.mem_iff_getElem?.1 hy;exact qx9 (g1 j y (Nat.zero_le _) hj).1
 ·obtain ⟨j, hj⟩ := List.mem_iff_getElem?.1 hw;have := (g4 j w (Nat.zero_le _) hj).1;unfold qop at this;have hz := (qf4 _).1 this;exact ⟨qu0 (hz _ (by simp)), qal.1 (hz (s90 w.Rank 0 999999999) (by simp))⟩
 ·have e : qac (a0.Slots.map qg5) = a0.Slots.map fun x => x.Request.Name := by unfold qac; rw [List.map_map]; rfl
  show (qac (a0.Slots.map qg5) ++ xf a0.Waiting).Nodup;rw [e];refine List.nodup_append.2 ⟨?_, ?_, ?_⟩
  ·refine List.pairwise_iff_getElem.2 fun i j hi hj hij he => ?_;rw [List.length_map] at hi hj;rw [List.getElem_map, List.getElem_map] at he;refine (g1 j _ (Nat.zero_le _) (List.getElem?_eq_getElem hj)).2 (a0.Slots[i]) ?_ he;rw [List.mem_iff_getElem];exact ⟨i, by rw [List.length_take]; omega, by rw [List.getElem_take]⟩
  ·refine List.pairwise_iff_getElem.2 fun i j hi hj hij he => ?_;unfold xf at hi hj he;rw [List.length_map] at hi hj;rw [List.getElem_map, List.getElem_map] at he;refine (g4 j _ (Nat.zero_le _) (List.getElem?_eq_getElem hj)).2.2.1 (a0.Waiting[i]) ?_ he;rw [List.mem_iff_getElem];exact ⟨i, by rw [List.length_take]; omega, by rw [List.getElem_take]⟩
  ·intro a ha b hb hab;obtain ⟨x, hx, rfl⟩ := List.mem_map.1 ha;obtain ⟨w, hw, rfl⟩ := List.mem_map.1 hb;obtain ⟨j, hj⟩ := List.mem_iff_getElem?.1 hw;exact (g4 j w (Nat.zero_le _) hj).2.1 x hx hab
 ·refine qyc (r := qp6) (fun {a b c} h k => qya h k) fun j y q hj hy hq => ?_;have := (g4 j y (Nat.zero_le _) hy).2.2.2 hj q hq;unfold qqa at this;unfold qp6
  simpa using this
theorem qlq (f : S2062 → Bool) : ∀ (l : List S2062) (k : Nat), 0 ≤ qb2 f l k ↔ ∃ x ∈ l, f x = true
 | [], k => by rw [qb2]; simp
 | y :: t, k => by
  rw [qb2]
  cases h : f y with
  | true => simp [h]
  | false => rw [cond_false, qlq f t]; simp [h]
theorem qlr (n : ByteArray) : ∀ (l : List S2062) (k : Nat), 0 ≤ qb3 n l k ↔ ∃ x ∈ l, x.Name = n
 | [], k => by rw [qb3]; simp
 | y :: t, k => by
  rw [qb3]
  by_cases h : y.Name = n
  ·rw [decide_eq_true h, cond_true]; simp [h]
  ·rw [decide_eq_false h, cond_false, qlr n t]; simp [h]
theorem qu5 {k : ByteArray} (h : k = (⟨#[65]⟩ : ByteArray) ∨ k = (⟨#[68]⟩ : ByteArray) ∨ k = (⟨#[84]⟩ : ByteArray)) : mhas kindL k = true := by
 rcases h with rfl | rfl | rfl <;> decide
theorem qye {l : S2062} (h : LimR l) : qf5 l = 0 :=
 qls.2 ⟨h.n, qu5 h.k, by
  have := h.t;unfold qqc at this;rw [qds]
  simpa using this, h.le, h.st, h.f, h.o, by have := h.ft; omega, h.per, h.mo⟩
theorem qu6 (a0 : List S2062) : ∀ (t : List S2062) (k : Nat), a0.drop k = t → qcv a0 t k = 0 → qa7 a0 t k = 0
 | [], _, _, _ => rfl
 | y :: t, k, hd, h => by
  obtain ⟨h1, h2, h3⟩ := qdr hd;rw [qcv, cond_eq_ite] at h
  split at h
  ·rename_i c; simp at c; exact absurd h c
  rename_i c1
  rw [cond_eq_ite] at h
  split at h
  ·cases h
  rename_i c2
  have hl := qye (q0t (by simpa using c1))
  have hz : vx [(qf5 y), (xa (decide (0 ≤ (qj4 (List.take (Int.toNat ((k : Nat) : Int)) a0) y.Name))) 9)] = 0 := ko.2 fun x hx => by
   simp only [List.mem_cons, List.not_mem_nil, or_false] at hx
   rcases hx with rfl | rfl
   ·exact hl
   ·refine (xg (by decide)).2 (decide_eq_false fun hq => c2 (decide_eq_true ?_));unfold qj4 qu7 at hq;obtain ⟨x, hx, hxe⟩ := (qlq _ _ _).1 hq;unfold qs7;exact (qlr _ _ _).2 ⟨x, hx, by simpa [qs8] using hxe⟩
  rw [qa7, hz, decide_eq_false (by simp), cond_false];exact qu6 a0 t (k + 1) h2 h
theorem qyf {a0 : List S2062} (h : qmu a0 = 0) : wm a0 = 0 := by
 unfold qmu at h;rw [cond_eq_ite] at h
 split at h
 ·cases h
 rename_i c1
 unfold wm;rw [decide_eq_false (by simpa using c1), cond_false];exact qu6 a0 _ 0 rfl h
theorem qu8 : ∀ (l : List S2062) (k : Nat) (x : List S2062), qb4 l k x = x ++ l
 | [], k, x => by rw [qb4, List.append_nil]
 | y :: t, k, x => by rw [qb4, qu8 t]; simp
theorem qrh (l : List S2062) : qg8 l = l := by unfold qg8; rw [qu8]; rfl
structure OpenV (a0 : List S2062) (a1 : S5025) : Prop where
 lims : wm a0 = 0
 ref : qmu a0 = 0
 book : BookV (jj a1)
 sl : a1.Slots.length ≤ 5
 wl : a1.Waiting.length ≤ 5
 bs : ∀ x ∈ a1.Slots, x.Request.Period.fTo - x.Request.Period.fFrom < 14
 bw : ∀ x ∈ a1.Waiting, x.Request.Period.fTo - x.Request.Period.fFrom < 14
theorem qyg {p : S45} (h : s102 p = 0) : s40 p = 0 := by
 obtain ⟨q1, q2, q3, q4, q5, q6⟩ := wv _ h
 have d : ∀ n : Int, 0 ≤ n → n ≤ 99999 → s109 n = 0 := fun n h1 h2 => by unfold s109; exact qal.2 ⟨h1, h2⟩
 unfold s40;rw [d _ q1 (by omega), d _ (by omega) (by omega), decide_eq_false (show ¬ p.fTo < p.fFrom by omega), wrap_i64 (by unfold I64; omega), decide_eq_false (show ¬ 400 < p.fTo - p.fFrom by omega)];exact qal.2 ⟨q5, q6⟩
theorem qri {r : S115} (hv : RqOk r) (h : qj5 r = true) : r.Period.fTo - r.Period.fFrom < 14 := by
 unfold qj5 at h;rw [qyg hv.per] at h;obtain ⟨q1, q2, q3, q4, q5, q6⟩ := wv _ hv.per;rw [wrap_i64 (by unfold I64; omega)] at h;simp only [Bool.and_eq_true, Bool.or_eq_true, decide_eq_true_eq, ne_eq, not_true_eq_false, false_or] at h;exact h.2
theorem q40 : ∀ (t : List S5072) (k : Nat), qb5 t k = true → ∀ x ∈ t, qj5 x.Request = true
 | [], _, _, x, hx => by cases hx
 | y :: t, k, h, x, hx => by
  rw [qb5, cond_eq_ite] at h
  split at h
  ·cases h
  ·rename_i h1
   rcases List.mem_cons.1 hx with rfl | hx
   ·simpa using h1
   ·exact q40 t _ h x hx
theorem qu9 (a : S5025) : ∀ (t : List S5036) (k : Nat), qa8 a t k = true → qb5 a.Waiting 0 = true
 | [], _, h => h
 | y :: t, k, h => by
  rw [qa8, cond_eq_ite] at h
  split at h
  ·cases h
  ·exact qu9 a t _ h
theorem q19 {a0 : List S2062} {a1 : S5025} (h : qmv a0 a1 = some true) : OpenV a0 a1 := by
 unfold qmv at h;obtain ⟨r, hr, h⟩ := qi h;have h := Option.some.inj h;simp only [Bool.and_eq_true, decide_eq_true_eq] at h;obtain ⟨⟨⟨h1, h2⟩, h3⟩, h4⟩ := h;rw [qrh] at h1 h2;rw [qrh, h1, h2, h3, decide_eq_true (show (0 : Int) = 0 from rfl)] at hr;simp only [Bool.and_self, cond_true] at hr;subst h4;have hb := qyd hr;have h3' := h3;unfold qj6 at h3;rw [cond_eq_ite] at h3
 split at h3
 ·cases h3
 rename_i c1
 simp only [Bool.or_eq_true, Bool.and_eq_true, decide_eq_true_eq, not_or, not_and, Decidable.not_not, ne_eq] at c1;have e := qa6 a1;have hsl := hb.sl;have hwl := hb.wl;rw [e] at hsl hwl;have hsl : (a1.Slots.map qg5).length ≤ 64 := hsl;have hwl : a1.Waiting.length ≤ 64 := hwl;rw [List.length_map] at hsl;refine ⟨qyf h2, h2, hb, ?_, ?_, fun x hx => ?_, fun x hx => ?_⟩
 ·by_cases c : (5 : Int) < (a1.Slots.length : Int)
  ·have := c1.1 c; omega
  ·omega
 ·by_cases c : (5 : Int) < (a1.Waiting.length : Int)
  ·have := c1.2 c; omega
  ·omega
 ·have hv := hb.s (qg5 x) (by rw [e]; exact List.mem_map_of_mem hx);exact qri hv.rq.ok (qrj (qoq h3' x hx)).2.2
 ·have hv := hb.w x (by rw [e]; exact hx);exact qri hv.rq.ok (q40 _ 0 (qu9 a1 _ 0 h3) x hx)
end Go.Sim
set_option maxRecDepth 10000
namespace Go.Sim
open Go.Proofs
def mvOf (r : S115) (d : Int) : S1079 := S1079.mk (1440 * d + r.Minute) r.Kind r.Terminal r.Seats r.Size r.Noise r.Name
def mvs (r : S115) : List S1079 := (s69 r.Period).1.map (mvOf r)
theorem qva {r : S115} (hm : 0 ≤ r.Minute ∧ r.Minute ≤ 1439) : ∀ (t : List Int), (∀ d ∈ t, 0 ≤ d ∧ d ≤ 99999) → ∀ (k : Nat) (x : List S1079), qb6 r t k x = x ++ t.map (mvOf r)
 | [], _, k, x => by rw [qb6]; simp
 | d :: t, hd, k, x => by
  have h := hd d List.mem_cons_self;rw [qb6, qva hm t (fun y hy => hd y (List.mem_cons_of_mem _ hy)), wrap_i64 (n := 1440 * d) (by unfold I64; omega), wrap_i64 (by unfold I64; omega)]
  simp [mvOf]
theorem qyh {r : S115} (h : RqOk r) : qs9 r = mvs r := by
 unfold qs9 mvs;rw [qva h.m _ (qmw h.per)]; rfl
theorem qrk {r : S115} (h : RqOk r) : qfe r = (mvs r, 0) := by
 unfold qfe;rw [qqd h, decide_eq_false (by simp), cond_false, qyh h]
theorem qrl {p : S45} (hp : s102 p = 0) : (s69 p).1.Pairwise (· < ·) := by
 rw [qlo hp]
 have key : ∀ (m : Int) (n : Nat) (f : Int), (dayL m n f).Pairwise (· < ·) := by
  intro m n
  induction n with
  | zero => intro f; exact List.Pairwise.nil
  | succ n ih =>
   intro f;unfold dayL
   split
   ·exact List.Pairwise.cons (fun d hd => by have := qet _ _ _ d hd; omega) (ih _)
   ·exact ih _
 exact key _ _ _
theorem q41 {r : S115} (h : RqOk r) : (∀ m ∈ mvs r, MvOk m) ∧ ((mvs r).map S1079.Moment).Pairwise (· ≤ ·) := by
 constructor
 ·intro m hm;obtain ⟨d, hd, rfl⟩ := List.mem_map.1 hm;have h1 := qmw h.per d hd;have h2 := h.m; have h3 := h.s; have h4 := h.z; have h5 := h.no;refine ⟨by show 0 ≤ 1440 * d + r.Minute; omega, by show 1440 * d + r.Minute ≤ 143999999; omega, h.k, ?_, h3.1, h3.2, ?_, h4.2, h5.1, h5.2, h.n⟩
  ·show r.Terminal = _ ∨ _;have ht := h.t;unfold qg9 at ht;show r.Terminal = _ ∨ s147 r.Terminal = true;rw [qds]
   simpa using ht
  ·show 0 ≤ r.Size; omega
 ·unfold mvs;rw [List.map_map, List.pairwise_map]
  exact (qrl h.per).imp fun {a b} hab => by show 1440 * a + r.Minute ≤ 1440 * b + r.Minute; omega
theorem q2a {r : S115} (h : RqOk r) (hb : r.Period.fTo - r.Period.fFrom < 14) : (mvs r).length ≤ 14 := by
 unfold mvs;rw [List.length_map, qlo h.per];have := qje r.Period.Days (r.Period.fTo + 1 - r.Period.fFrom).toNat r.Period.fFrom;show (dayL r.Period.Days (r.Period.fTo + 1 - r.Period.fFrom).toNat r.Period.fFrom).length ≤ 14
 omega
theorem qvb {r : S115} (h : RqOk r) (hb : r.Period.fTo - r.Period.fFrom < 14) : qbk (mvs r) = some 0 := (qf6 (by have := q2a h hb; omega)).2 (q41 h)
def mrg (a b : List S1079) : List S1079 := ((qf7 a b).getD ([], 0)).1
theorem q42 {a b : List S1079} (ha : qbk a = some 0) (hb : qbk b = some 0) (hl : a.length + b.length ≤ 30000) : qf7 a b = some (mrg a b, 0) ∧ (mrg a b).Perm (a ++ b) ∧ Srt ltM (mrg a b) ∧ qbk (mrg a b) = some 0 := by
 obtain ⟨Z, h1, h2, h3, h4⟩ := qyi ha hb hl
 have e : mrg a b = Z := by unfold mrg; rw [h1]; rfl
 rw [e];exact ⟨h1, h2, h3, h4⟩
def bmv : List S1079 → List S115 → List S1079
 | x, [] => x
 | x, r :: t => bmv (mrg x (mvs r)) t
structure Brf (r : S115) : Prop where
 ok : RqOk r
 b : r.Period.fTo - r.Period.fFrom < 14
structure MvV (x : List S1079) (n : Nat) : Prop where
 z : qbk x = some 0
 l : x.length ≤ n
theorem qjf {x : List S1079} {n : Nat} {r : S115} (h : MvV x n) (hr : Brf r) (hn : n ≤ 20000) : MvV (mrg x (mvs r)) (n + 14) ∧ qf7 x (qfe r).1 = some (mrg x (mvs r), 0) ∧ (mrg x (mvs r)).Perm (x ++ mvs r) ∧ Srt ltM (mrg x (mvs r)) := by
 have hl := q2a hr.ok hr.b;have h1 := h.l;obtain ⟨g1, g2, g3, g4⟩ := q42 h.z (qvb hr.ok hr.b) (by omega);refine ⟨⟨g4, by rw [g2.length_eq, List.length_append]; omega⟩, by rw [qrk hr.ok]; exact g1, g2, g3⟩
theorem q0u : ∀ (t : List S115) (x : List S1079) (n : Nat), (∀ r ∈ t, Brf r) → MvV x n → n + t.length * 14 ≤ 20000 → xp t x = some (bmv x t) ∧ MvV (bmv x t) (n + t.length * 14) ∧ (bmv x t).Perm (x ++ t.flatMap mvs) ∧ (Srt ltM x → Srt ltM (bmv x t))
 | [], x, n, _, h, _ => ⟨rfl, by simpa [bmv] using h, by simp [bmv], fun h => h⟩
 | r :: t, x, n, hr, h, hn => by
  rw [List.length_cons] at hn;obtain ⟨g1, g2, g3, g4⟩ := qjf h (hr r List.mem_cons_self) (by omega);obtain ⟨k1, k2, k3, k4⟩ := q0u t (mrg x (mvs r)) (n + 14) (fun q hq => hr q (List.mem_cons_of_mem _ hq)) g1 (by omega);refine ⟨by rw [xp, g2]; exact k1, ?_, ?_, fun _ => k4 g4⟩
  ·have e : n + (r :: t).length * 14 = n + 14 + t.length * 14 := by rw [List.length_cons]; omega
   rw [e]; exact k2
  ·show (bmv (mrg x (mvs r)) t).Perm (x ++ (r :: t).flatMap mvs);rw [List.flatMap_cons, ← List.append_assoc];exact k3.trans (List.Perm.append_right _ g3)
theorem qrm : ∀ (t : List S115) (x : List S1079) (r : S115), bmv x (t ++ [r]) = mrg (bmv x t) (mvs r)
 | [], x, r => rfl
 | q :: t, x, r => qrm t (mrg x (mvs q)) r
theorem q2b : MvV [] 0 := ⟨by rfl, Nat.le_refl _⟩
theorem qj7 {b : S5042} (h : ∀ x ∈ b.Slots, Brf x.Request) (hn : b.Slots.length ≤ 1000) : qc3 b (-1) = some (bmv [] (b.Slots.map S5100.Request)) ∧ MvV (bmv [] (b.Slots.map S5100.Request)) (b.Slots.length * 14) := by
 obtain ⟨g1, g2, _⟩ := q0u (b.Slots.map S5100.Request) [] 0 (fun r hr => by
  obtain ⟨x, hx, rfl⟩ := List.mem_map.1 hr
  exact h x hx) q2b (by rw [List.length_map]; omega)
 rw [List.length_map, Nat.zero_add] at g2;exact ⟨g1, g2⟩
end Go.Sim
set_option maxRecDepth 10000
namespace Go.Sim
open Go.Proofs
def fit (ls : List S2062) (ms : List S1079) (r : S115) : Bool := !inI r.Minute (ivs ms r ls)
def acc (ls : List S2062) : List S1079 → List S5072 → List S5072
 | _, [] => []
 | ms, w :: t => bif fit ls ms w.Request then w :: acc ls (mrg ms (mvs w.Request)) t else acc ls ms t
def rej (ls : List S2062) : List S1079 → List S5072 → List S5072
 | _, [] => []
 | ms, w :: t => bif fit ls ms w.Request then rej ls (mrg ms (mvs w.Request)) t else w :: rej ls ms t
def qbl (w : S5072) : S5100 := qd6 w.Request
theorem qqe (ls : List S2062) : ∀ (t : List S5072) (ms : List S1079), (acc ls ms t ++ rej ls ms t).Perm t
 | [], _ => List.Perm.refl _
 | w :: t, ms => by
  unfold acc rej
  cases fit ls ms w.Request with
  | true => exact (qqe ls t _).cons w
  | false => exact (List.perm_middle).trans ((qqe ls t ms).cons w)
theorem qqf (ls : List S2062) : ∀ (t : List S5072) (ms : List S1079), (rej ls ms t).Sublist t
 | [], _ => List.Sublist.refl _
 | w :: t, ms => by
  unfold rej
  cases fit ls ms w.Request with
  | true => exact (qqf ls t _).cons w
  | false => exact (qqf ls t ms).cons₂ w
theorem qqg (ls : List S2062) : ∀ (t : List S5072) (ms : List S1079), (acc ls ms t).Sublist t
 | [], _ => List.Sublist.refl _
 | w :: t, ms => by
  unfold acc
  cases fit ls ms w.Request with
  | true => exact (qqg ls t _).cons₂ w
  | false => exact (qqg ls t ms).cons w
theorem qqh : ∀ (t : List S5072) (ms : List S1079), acc [] ms t = t ∧ rej [] ms t = []
 | [], _ => ⟨rfl, rfl⟩
 | w :: t, ms => by
  have h := qqh t (mrg ms (mvs w.Request));unfold acc rej;rw [show fit [] ms w.Request = true from rfl, cond_true, cond_true, h.1, h.2];exact ⟨rfl, rfl⟩
def amv (ls : List S2062) : List S1079 → List S5072 → List S1079
 | ms, [] => ms
 | ms, w :: t => bif fit ls ms w.Request then amv ls (mrg ms (mvs w.Request)) t else amv ls ms t
theorem qvc (ls : List S2062) : ∀ (t : List S5072) (ms : List S1079), amv ls ms t = bmv ms ((acc ls ms t).map S5072.Request)
 | [], _ => rfl
 | w :: t, ms => by
  unfold amv acc
  cases fit ls ms w.Request with
  | true => rw [cond_true, cond_true, qvc ls t]; rfl
  | false => rw [cond_false, cond_false, qvc ls t]
theorem qta (a1 : List S2062) (y : S5072) (t : List S5072) (k : Nat) (x3 : List ByteArray) (x4 : List S1079) (x6 : List S5100) (x7 : List S5072) : xj a1 (y :: t) k x3 x4 x6 x7 =
  zf (bif !(decide (64 ≤ (List.length x6 : Int))) then qqi a1 x4 y.Request else some default) fun r15 => (bif (decide (64 ≤ (List.length x6 : Int))) || (!r15) then xj a1 t (k + 1) x3 x4 x6 (x7 ++ [y]) else zf (qf7 x4 ((qfe y.Request).1)) fun r16 => xj a1 t (k + 1) (x3 ++ [y.Request.Name]) r16.1 (x6 ++ [qbl y]) x7) := by
 rw [xj]; rfl
theorem qmx {ls : List S2062} (hl : wm ls = 0) : ∀ (t : List S5072) (k : Nat) (x3 : List ByteArray) (ms : List S1079) (n : Nat) (x6 : List S5100) (x7 : List S5072), (∀ w ∈ t, Brf w.Request) → MvV ms n → n + t.length * 14 ≤ 10000 → x6.length + t.length ≤ 60 →
  xj ls t k x3 ms x6 x7 = some (S5042.mk (x6 ++ (acc ls ms t).map qbl) (x7 ++ rej ls ms t), x3 ++ xf (acc ls ms t))
 | [], k, x3, ms, n, x6, x7, _, _, _, _ => by rw [xj]; simp [acc, rej, xf]
 | y :: t, k, x3, ms, n, x6, x7, hw, hm, hn, h6 => by
  rw [List.length_cons] at hn h6;have hy := hw y List.mem_cons_self;rw [qta, decide_eq_false (show ¬ (64 : Int) ≤ (x6.length : Int) by omega)];simp only [Bool.not_false, cond_true, Bool.false_or];rw [qvd hl hm.z (qqd hy.ok)];simp only [zf];show (bif !fit ls ms y.Request then _ else _) = _;unfold acc rej
  cases hf : fit ls ms y.Request with
  | false =>
   simp only [Bool.not_false, cond_true, cond_false];rw [qmx hl t _ _ ms n _ _ (fun w h => hw w (List.mem_cons_of_mem _ h)) hm (by omega) (by omega)]
   simp
  | true =>
   simp only [Bool.not_true, cond_true, cond_false];obtain ⟨g1, g2, _⟩ := qjf hm hy (by omega);rw [g2];simp only [];rw [qmx hl t _ _ (mrg ms (mvs y.Request)) (n + 14) _ _ (fun w h => hw w (List.mem_cons_of_mem _ h)) g1 (by omega) (by rw [List.length_append]; simp; omega)]
   simp [xf]
theorem qor {x : S5100} (h : SlotV x) : x.Leases.length ≤ 1000000 ∧ x.Shares.length ≤ 1000000 := by
 have := h.ln; have := h.sn; omega
structure BkB (b : S5042) : Prop where
 v : BookV b
 s : ∀ x ∈ b.Slots, Brf x.Request
 w : ∀ x ∈ b.Waiting, Brf x.Request
 n : b.Slots.length + b.Waiting.length ≤ 30
def bM (b : S5042) : List S1079 := bmv [] (b.Slots.map S5100.Request)
theorem qmy {ls : List S2062} (hl : wm ls = 0) {b : S5042} (h : BkB b) : qqj ls b = some (S5042.mk (b.Slots ++ (acc ls (bM b) b.Waiting).map qbl) (rej ls (bM b) b.Waiting), xf (acc ls (bM b) b.Waiting), 0) := by
 have hn := h.n;unfold qqj;rw [qj3 h.v];simp only [zf]
 have hz : ve [wm ls, 0] = 0 := vv.2 fun y hy => by
  simp only [List.mem_cons, List.not_mem_nil, or_false] at hy
  rcases hy with rfl | rfl
  ·exact hl
  ·rfl
 rw [hz, decide_eq_false (by simp), cond_false];unfold qyj;rw [qlt fun x hx => qor (h.v.s x hx)];simp only [zf];obtain ⟨g1, g2⟩ := qj7 (b := S5042.mk b.Slots []) h.s (by show b.Slots.length ≤ 1000; omega);rw [g1];simp only [];have g2 : MvV (bM b) (b.Slots.length * 14) := g2;rw [show bmv [] (List.map S5100.Request (S5042.mk b.Slots []).Slots) = bM b from rfl];rw [qmx hl b.Waiting 0 [] (bM b) _ b.Slots [] h.w g2 (by omega) (by omega)]
 rfl
theorem qrn {r : S115} (h : ReqV r) : SlotV (qd6 r) := ⟨h, h.ok.c, Nat.zero_le _, (fun l hl => nomatch hl), List.Pairwise.nil, Nat.zero_le _, (fun c hc => nomatch hc), List.Pairwise.nil⟩
theorem qos {ls : List S2062} {b : S5042} (h : BkB b) : BkB (S5042.mk (b.Slots ++ (acc ls (bM b) b.Waiting).map qbl) (rej ls (bM b) b.Waiting)) := by
 have hp := qqe ls b.Waiting (bM b);have hs := qqg ls b.Waiting (bM b);have hr := qqf ls b.Waiting (bM b);have l1 := hs.length_le; have l2 := hr.length_le; have hn := h.n
 have e : qac (b.Slots ++ (acc ls (bM b) b.Waiting).map qbl) = qac b.Slots ++ xf (acc ls (bM b) b.Waiting) := by
  unfold qac xf;rw [List.map_append, List.map_map]; rfl
 refine ⟨⟨?_, by show (rej ls (bM b) b.Waiting).length ≤ 64; omega, fun x hx => ?_, fun w hw => h.v.w w (hr.subset hw), ?_, h.v.or.sublist hr⟩, fun x hx => ?_, fun w hw => h.w w (hr.subset hw), ?_⟩
 ·show (b.Slots ++ (acc ls (bM b) b.Waiting).map qbl).length ≤ 64;rw [List.length_append, List.length_map]; omega
 ·rcases List.mem_append.1 hx with hx | hx
  ·exact h.v.s x hx
  ·obtain ⟨w, hw, rfl⟩ := List.mem_map.1 hx;exact qrn (h.v.w w (hs.subset hw)).rq
 ·show (qac (b.Slots ++ (acc ls (bM b) b.Waiting).map qbl) ++ xf (rej ls (bM b) b.Waiting)).Nodup;rw [e, List.append_assoc]
  have hp2 : (xf (acc ls (bM b) b.Waiting) ++ xf (rej ls (bM b) b.Waiting)).Perm (xf b.Waiting) := by
   unfold xf;rw [← List.map_append];exact hp.map _
  exact ((List.Perm.append_left _ hp2).nodup_iff).2 h.v.nd
 ·rcases List.mem_append.1 hx with hx | hx
  ·exact h.s x hx
  ·obtain ⟨w, hw, rfl⟩ := List.mem_map.1 hx;exact h.w w (hs.subset hw)
 ·show (b.Slots ++ (acc ls (bM b) b.Waiting).map qbl).length + (rej ls (bM b) b.Waiting).length ≤ 30;have := hp.length_eq;rw [List.length_append] at this;rw [List.length_append, List.length_map]; omega
theorem qmz {b : S5042} (h : BkB b) : qlc b = some (bM b, 0) := by
 have hn := h.n;obtain ⟨g1, g2⟩ := qj7 h.s (by omega);unfold qlc;rw [qj3 h.v];simp only [zf];rw [decide_eq_false (by simp), cond_false, g1]
 rfl
end Go.Sim
set_option maxRecDepth 10000
namespace Go.Sim
open Go.Proofs
theorem qyk (l : S2062) {a b : List S1079} (h : a.Perm b) : (ofL l a).Perm (ofL l b) := by unfold ofL; exact (h.filter _).map _
theorem qve {a b : List Int} (h : a.Perm b) (x n : Int) : cntI a x n = cntI b x n := by unfold cntI; rw [(h.filter _).length_eq]
theorem q2c (l : S2062) (a b : List S1079) : ofL l (a ++ b) = ofL l a ++ ofL l b := by unfold ofL; rw [List.filter_append, List.map_append]
theorem qyl (a b : List Int) (x n : Int) : cntI (a ++ b) x n = cntI a x n + cntI b x n := by unfold cntI; rw [List.filter_append, List.length_append]; omega
theorem q2d (l : S2062) (r : S115) : ofL l (mvs r) = if qbm l r.Kind r.Terminal = true then (s69 r.Period).1.map fun d => 1440 * d + r.Minute else [] := by
 unfold ofL mvs;rw [List.filter_map]
 split
 ·rename_i h
  have e : ((s69 r.Period).1.filter ((fun m => qbm l m.Kind m.Terminal) ∘ mvOf r)) = (s69 r.Period).1 := List.filter_eq_self.2 fun d _ => h;rw [e, List.map_map]; rfl
 ·rename_i h
  have e : ((s69 r.Period).1.filter ((fun m => qbm l m.Kind m.Terminal) ∘ mvOf r)) = [] := List.filter_eq_nil_iff.2 fun d _ => h;rw [e]; rfl
theorem q2e {l : List Int} (h : l.Pairwise fun a b => a + 1440 ≤ b) {x n : Int} (hn : n ≤ 1440) : cntI l x n ≤ 1 := by
 unfold cntI;have h1 := h.filter (fun y => decide (x ≤ y) && decide (y < x + n));generalize hf : l.filter (fun y => decide (x ≤ y) && decide (y < x + n)) = f at h1
 have hm : ∀ y ∈ f, x ≤ y ∧ y < x + n := fun y hy => by
  rw [← hf] at hy;have := (List.mem_filter.1 hy).2
  simpa using this
 match f, h1, hm with
 | [], _, _ => exact Int.zero_le_ofNat 1
 | [_], _, _ => exact Int.le_refl _
 | a :: b :: _, h1, hm =>
  have q1 := hm a (by simp);have q2 := hm b (by simp);have q3 := (List.pairwise_cons.1 h1).1 b (by simp)
  omega
theorem q43 {l : S2062} (hl : LimOk l) {b : Int} (h : b ∈ qj8 l) : ∃ x, b ∈ begL l x := by
 unfold qj8 wdsL at h;obtain ⟨k, _, hk⟩ := List.mem_flatMap.1 h;exact ⟨_, hk⟩
theorem qym {ls : List S2062} {ms : List S1079} {r : S115} (hr : RqOk r) (hf : fit ls ms r = true) {l : S2062} (hm : l ∈ ls) (hl : LimOk l) (hc : qbm l r.Kind r.Terminal = true) {d b x : Int} (hd : d ∈ (s69 r.Period).1) (hb : b ∈ begL l x) (h1 : b ≤ 1440 * d + r.Minute) (h2 : 1440 * d + r.Minute < b + l.Length) : cntI (ofL l ms) b l.Length < l.Most := by
 by_cases hc2 : cntI (ofL l ms) b l.Length < l.Most
 ·exact hc2
 exfalso
 have q1 := qf8 hl hb;have q2 := hr.m; have q3 := hl.l1; have q4 := hl.l0
 have hx : x = d - 1 ∨ x = d := by omega
 have hiv : ivB ms l d b = [(frm d b, til l d b)] := by
  unfold ivB;rw [if_neg hc2, if_pos (by unfold frm til; omega)]
 have hin : (frm d b, til l d b) ∈ ivs ms r ls := by
  unfold ivs;refine List.mem_flatMap.2 ⟨l, hm, ?_⟩;unfold ivL;rw [if_pos hc];refine List.mem_flatMap.2 ⟨d, hd, ?_⟩;unfold ivD;refine List.mem_append.2 ?_
  have : (frm d b, til l d b) ∈ ivX ms l d x := by
   unfold ivX;exact List.mem_flatMap.2 ⟨b, hb, by rw [hiv]; exact List.mem_singleton.2 rfl⟩
  rcases hx with rfl | rfl
  ·exact .inl this
  ·exact .inr this
 have : inI r.Minute (ivs ms r ls) = true := by
  unfold inI;refine List.any_eq_true.2 ⟨_, hin, ?_⟩;unfold frm til;simp only [Bool.and_eq_true, decide_eq_true_eq]
  omega
 unfold fit at hf;rw [this] at hf; cases hf
theorem q2f {l : S2062} (hl : LimOk l) {r : S115} (hr : RqOk r) (b : Int) : cntI (ofL l (mvs r)) b l.Length ≤ 1 ∧ (cntI (ofL l (mvs r)) b l.Length = 0 ∨ (qbm l r.Kind r.Terminal = true ∧ ∃ d ∈ (s69 r.Period).1, b ≤ 1440 * d + r.Minute ∧ 1440 * d + r.Minute < b + l.Length)) := by
 rw [q2d]
 split
 ·rename_i hc
  have hp : ((s69 r.Period).1.map fun d => 1440 * d + r.Minute).Pairwise fun a b => a + 1440 ≤ b := by
   rw [List.pairwise_map]
   exact (qrl hr.per).imp fun {a b} hab => by omega
  refine ⟨q2e hp hl.l1, ?_⟩
  by_cases h0 : cntI ((s69 r.Period).1.map fun d => 1440 * d + r.Minute) b l.Length = 0
  ·exact .inl h0
  ·refine .inr ⟨hc, ?_⟩;unfold cntI at h0;obtain ⟨y, hy⟩ := List.exists_mem_of_length_pos (l := ((s69 r.Period).1.map fun d => 1440 * d + r.Minute).filter (fun x => decide (b ≤ x) && decide (x < b + l.Length))) (by omega);obtain ⟨h1, h2⟩ := List.mem_filter.1 hy;obtain ⟨d, hd, rfl⟩ := List.mem_map.1 h1;simp only [Bool.and_eq_true, decide_eq_true_eq] at h2;exact ⟨d, hd, h2⟩
 ·exact ⟨Int.zero_le_ofNat 1, .inl rfl⟩
def nox (ls : List S2062) (ms : List S1079) : Prop := ∀ l ∈ ls, ∀ b ∈ qj8 l, cntI (ofL l ms) b l.Length ≤ l.Most
theorem qvf (ms : List S1079) : ∀ (ls : List S2062) (i : Nat), exL ms ls i = [] ↔ nox ls ms
 | [], i => ⟨(fun _ l hl => nomatch hl), fun _ => rfl⟩
 | l :: t, i => by
  have ih := qvf ms t (i + 1);unfold exL;rw [List.append_eq_nil_iff, ih, List.filterMap_eq_nil_iff]
  constructor
  ·rintro ⟨h1, h2⟩ q hq b hb
   rcases List.mem_cons.1 hq with rfl | hq
   ·have := h1 b hb;unfold qqk at this
    cases hc : decide (cntI (ofL q ms) b q.Length > q.Most) with
    | true => rw [hc] at this; cases this
    | false => have := of_decide_eq_false hc; omega
   ·exact h2 q hq b hb
  ·intro h;refine ⟨fun b hb => ?_, fun q hq => h q (List.mem_cons_of_mem _ hq)⟩;have := h l List.mem_cons_self b hb;unfold qqk;rw [decide_eq_false (by omega)]; rfl
theorem qyn {ls : List S2062} (hl : ∀ l ∈ ls, LimOk l) {ms : List S1079} {n : Nat} {r : S115} (hm : MvV ms n) (hn : n ≤ 20000) (hr : Brf r) (hf : fit ls ms r = true) (h : nox ls ms) : nox ls (mrg ms (mvs r)) := by
 intro l hml b hb;obtain ⟨_, _, hp, _⟩ := qjf hm hr hn;rw [qve (qyk l hp), q2c, qyl];have h0 := h l hml b hb;obtain ⟨x, hx⟩ := q43 (hl l hml) hb;obtain ⟨h1, h2⟩ := q2f (hl l hml) hr.ok b
 rcases h2 with h2 | ⟨h2, d, hd, h3, h4⟩
 ·omega
 ·have := qym hr.ok hf hml (hl l hml) h2 hd hx h3 h4
  omega
theorem qql {ls : List S2062} (hl : ∀ l ∈ ls, LimOk l) : ∀ (t : List S5072) (ms : List S1079) (n : Nat), (∀ w ∈ t, Brf w.Request) → MvV ms n → n + t.length * 14 ≤ 20000 → nox ls ms → nox ls (amv ls ms t)
 | [], _, _, _, _, _, h => h
 | w :: t, ms, n, hw, hm, hn, h => by
  rw [List.length_cons] at hn;have hy := hw w List.mem_cons_self;unfold amv
  cases hf : fit ls ms w.Request with
  | false => rw [cond_false]; exact qql hl t ms n (fun w h => hw w (List.mem_cons_of_mem _ h)) hm (by omega) h
  | true =>
   rw [cond_true];obtain ⟨g1, _⟩ := qjf hm hy (by omega);exact qql hl t _ (n + 14) (fun w h => hw w (List.mem_cons_of_mem _ h)) g1 (by omega) (qyn hl hm (by omega) hy hf h)
theorem qro {ls : List S2062} (h0 : wm ls = 0) {ms : List S1079} (h1 : qbk ms = some 0) : ∃ w e, qqm ls ms = some (w, e) ∧ (e = 7 ↔ nox ls ms) := by
 have hz : vx [wm ls, 0] = 0 := ko.2 fun y hy => by
  simp only [List.mem_cons, List.not_mem_nil, or_false] at hy
  rcases hy with rfl | rfl
  ·exact h0
  ·rfl
 unfold qqm qi0;rw [h1];simp only [zf];rw [hz, decide_eq_false (by simp), cond_false, ← qvf ms ls 0]
 cases exL ms ls 0 with
 | nil => exact ⟨_, _, rfl, by simp⟩
 | cons a t => exact ⟨_, _, rfl, by simp⟩
end Go.Sim
set_option maxRecDepth 10000
namespace Go.Sim
open Go.Proofs
theorem q2g {a0 : List S2062} {a1 : S5025} (h : OpenV a0 a1) : BkB (jj a1) := by
 have hb := h.book;refine ⟨hb, ?_, ?_, ?_⟩
 ·intro x hx;have hv := hb.s x hx;rw [qa6] at hx;obtain ⟨y, hy, rfl⟩ := List.mem_map.1 hx;exact ⟨hv.rq.ok, h.bs y hy⟩
 ·intro x hx;have hv := hb.w x hx;rw [qa6] at hx;exact ⟨hv.rq.ok, h.bw x hx⟩
 ·rw [qa6];show (a1.Slots.map qg5).length + a1.Waiting.length ≤ 30;have := h.sl; have := h.wl;rw [List.length_map]; omega
theorem q0v {b : S5042} (h : ∀ x ∈ b.Slots, Brf x.Request) (hn : b.Slots.length ≤ 57) : ∀ r, qc3 b (-1) = some r → r.length ≤ 800 := by
 intro r hr;obtain ⟨g1, g2⟩ := qj7 h (by omega);rw [g1] at hr
 cases hr
 have := g2.l; omega
structure QIn (a0 : List S2062) (a1 : S5025) : Prop where
 o : OpenV a0 a1
 b : BkB (jj a1)
theorem q_in {a0 : List S2062} {a1 : S5025} {r1 : Bool} (h : qmv a0 a1 = some r1) (h1 : r1 = true) : QIn a0 a1 := by
 rw [h1] at h;have := q19 h;exact ⟨this, q2g this⟩
theorem QIn.slots {a0 : List S2062} {a1 : S5025} (h : QIn a0 a1) : ∀ x ∈ a1.Slots, x.Leases.length ≤ 1000 ∧ x.Shares.length ≤ 1000 := by
 intro x hx;have hv := h.b.v.s (qg5 x) (by rw [qa6]; exact List.mem_map_of_mem hx);have h1 : x.Leases.length ≤ 8 := hv.ln;have h2 : x.Shares.length ≤ 4 := hv.sn
 omega
theorem QIn.bw {a0 : List S2062} {a1 : S5025} (h : QIn a0 a1) : ∀ x ∈ a1.Waiting, Brf x.Request := by
 intro x hx;exact h.b.w x (by rw [qa6]; exact hx)
theorem QIn.wl {a0 : List S2062} {a1 : S5025} (h : QIn a0 a1) : (jj a1).Waiting.length ≤ 5 ∧ (jj a1).Slots.length ≤ 5 := by
 have := h.o.sl; have := h.o.wl;rw [qa6];show a1.Waiting.length ≤ 5 ∧ (a1.Slots.map qg5).length ≤ 5;rw [List.length_map]; omega
theorem QIn.w14 {a0 : List S2062} {a1 : S5025} (h : QIn a0 a1) : ∀ x ∈ (jj a1).Waiting, ((qfe x.Request).1).length ≤ 14 := by
 intro x hx;have := h.b.w x hx;rw [qrk this.ok];exact q2a this.ok this.b
theorem QIn.mv {a0 : List S2062} {a1 : S5025} (h : QIn a0 a1) : ∀ r, qc3 (jj a1) (-1) = some r → r.length ≤ 800 := q0v h.b.s (by have := h.wl; omega)
theorem qvg {b : S5042} (h : BkB b) : ∀ r, qlc b = some r → r.1.length ≤ 1000 := by
 intro r hr;rw [qmz h] at hr
 cases hr
 have hn := h.n;obtain ⟨_, g2⟩ := qj7 h.s (by omega);have := g2.l;show (bM b).length ≤ 1000;unfold bM; omega
theorem QIn.srv {a0 : List S2062} {a1 : S5025} (h : QIn a0 a1) {r2 : S5042 × (List ByteArray) × Int} (hr : qqj a0 (jj a1) = some r2) : BkB r2.1 := by
 rw [qmy h.o.lims h.b] at hr
 cases hr
 exact qos h.b
theorem qyo {ls : List S2062} {b : S5042} {r : S115} {R : S5042 × Int} (h : qha ls b r = some R) (h0 : R.2 = 0) : R.1.Slots = b.Slots ++ [qd6 r] ∧ R.1.Waiting = b.Waiting := by
 unfold qha at h;obtain ⟨r1, h1, h2⟩ := qi h;rw [cond_eq_ite] at h2
 split at h2
 ·rename_i c
  cases h2
  have c : ve [wm ls, r1] ≠ 0 := by simpa using c
  exact absurd h0 c
 obtain ⟨r2, h3, h4⟩ := qi h2
 cases h4
 have h0 : r2.2 = 0 := h0;unfold qvh at h3;rw [cond_eq_ite] at h3
 split at h3
 ·rename_i c
  cases h3
  have c : ve [(qdd r), (j8 (qfn b r.Name) 9), (j8 (decide (64 ≤ (List.length b.Slots : Int))) 5)] ≠ 0 := by simpa using c
  exact absurd h0 c
 obtain ⟨r3, _, h5⟩ := qi h3;obtain ⟨r4, _, h6⟩ := qi h5;rw [cond_eq_ite] at h6
 split at h6
 ·cases h6; cases h0
 obtain ⟨r5, h7, h8⟩ := qi h6
 cases h8
 have e := qf9 h7;rw [e];exact ⟨rfl, rfl⟩
theorem qvi {ls : List S2062} {x6 : List S5100} {x7 : List S5072} {y : S5072} {R : S5042 × Int} {k : Nat} (h : qha ls (S5042.mk x6 x7) y.Request = some R) (h0 : R.2 = 0) (hy : Brf y.Request) (h6 : ∀ x ∈ x6, Brf x.Request) (h6n : x6.length ≤ 5 + k) (h7 : x7 = []) :
  R.1.Slots.length ≤ 5 + (k + 1) ∧ R.1.Waiting = [] ∧ ∀ x ∈ R.1.Slots, Brf x.Request := by
 obtain ⟨g1, g2⟩ := qyo h h0;have g1 : R.1.Slots = x6 ++ [qd6 y.Request] := g1;have g2 : R.1.Waiting = x7 := g2;rw [g1, g2];refine ⟨by rw [List.length_append]; simp; omega, h7, fun x hx => ?_⟩
 rcases List.mem_append.1 hx with hx | hx
 ·exact h6 x hx
 ·rw [List.mem_singleton.1 hx]; exact hy
end Go.Sim
set_option maxRecDepth 10000
namespace Go.Sim
open Go.Proofs
noncomputable def qeu   : Option Bool :=
 some mktB
noncomputable def qga (rec1 : Nat → (List ByteArray) → (List S5100) → (List S5072) → Option Bool) (k8 : Nat) (x18 : List ByteArray) (x19 : List S5100) (x20 : List S5072) : Option Bool :=
 rec1 (k8 + 1) x18 x19 x20
noncomputable def xb (a0 : List S2062) (a1 : S5025) (r2 : S5042 × (List ByteArray) × Int) : List S5072 → Nat → (List ByteArray) → (List S5100) → (List S5072) → Option Bool
 | [], k8, x4, x6, x7 => zf (qlc (jj a1)) fun r11 => zf (qlc r2.1) fun r12 => zf (qlc (S5042.mk x6 x7)) fun r13 => zf (bif !(((decide (r11.2 ≠ 0)) || (decide (r12.2 ≠ 0))) || (decide (r13.2 ≠ 0))) then s60 x4 r2.2.1 else some default) fun r14 => zf (bif !((((decide (r11.2 ≠ 0)) || (decide (r12.2 ≠ 0))) || (decide (r13.2 ≠ 0))) || (!r14)) then qvj r12.1 r13.1 else some default) fun r15 => (bif ((((decide (r11.2 ≠ 0)) || (decide (r12.2 ≠ 0))) || (decide (r13.2 ≠ 0))) || (!r14)) || (!r15) then some false else zf (qqm a0 r11.1) fun r16 => (bif decide (r16.2 = 7) then zf (qqm a0 r12.1) fun r17 => (bif decide (r17.2 ≠ 7) then some false else qeu) else qeu))
 | y9 :: t10, k8, x4, x6, x7 => zf (qha a0 (S5042.mk x6 x7) (S115.mk y9.Request.Name y9.Request.Carrier y9.Request.Kind y9.Request.Terminal y9.Request.Partner y9.Request.Link (S45.mk y9.Request.Period.fFrom y9.Request.Period.fTo y9.Request.Period.Days) y9.Request.Minute y9.Request.Seats y9.Request.Size y9.Request.Noise)) fun r21 => (bif decide (r21.2 = 0) then qga (fun k_ z0_ z1_ z2_ => xb a0 a1 r2 t10 k_ z0_ z1_ z2_) k8 (x4 ++ [y9.Request.Name]) r21.1.Slots r21.1.Waiting else (bif decide (r21.2 ≠ 14) then some false else qga (fun k_ z0_ z1_ z2_ => xb a0 a1 r2 t10 k_ z0_ z1_ z2_) k8 x4 x6 x7))
noncomputable def qvk (a0 : List S2062) (a1 : S5025) : Option Bool :=
 zf (qmv a0 a1) fun r1 => (bif !r1 then some mktB else zf (qqj a0 (jj a1)) fun r2 => zf (qqj [] (jj a1)) fun r3 => (bif ((((decide (r2.2.2 ≠ 0)) || (decide (r3.2.2 ≠ 0))) || (decide ((List.length r3.2.1 : Int) ≠ (List.length a1.Waiting : Int)))) || (decide ((List.length r3.1.Waiting : Int) ≠ 0))) || (decide ((List.length r3.1.Slots : Int) ≠ IntKind.i64.wrap ((List.length a1.Slots : Int) + (List.length a1.Waiting : Int)))) then some false else xb a0 a1 r2 a1.Waiting 0 [] ((jj a1).Slots) []))
set_option maxHeartbeats 16000000 in
theorem q8b (a0 : List S2062) (a1 : S5025) {R : Bool}  (hb0 : a0.length * 112 ≤ 140737488351232) (hR : qvk a0 a1 = some R) : Con (EG glT) 4 [G.sl 11 (List.map S2062.c a0), G.agg [G.sl 16 (List.map S5036.c a1.Slots), G.sl 14 (List.map S5072.c a1.Waiting)]] (G.bool R) := by
 unfold qvk at hR;refine qm Tryz.func4 rfl rfl fun w0 M0 => ?_;refine zp (f := S2062.c) (l := a0) 0 rfl fun hla0 => ?_;refine qb ?_;refine qa [.p, .p] ?_;refine su (zi rfl rfl) rfl ?_;refine sa rfl rfl ?_;refine qc ?_;refine qb ?_;refine qb ?_;obtain ⟨r1, br1, hR⟩ := qi hR;refine qa [.p, .p, .p, .p] ?_;refine sm rfl rfl ?_;refine su (qp rfl qj9 rfl rfl rfl) rfl ?_;refine su (qf rfl q8c rfl (q8d a0 a1 (by first | assumption | omega | (simp [qh]; done) | (simp [qh]; omega)) br1) (qe rfl (qe rfl qj))) rfl ?_;refine su (jk rfl rfl) rfl ?_;refine qc ?_;refine ql _ rfl (fun h1 => ?_) (fun h1 => ?_)
 ·replace hR := zk hR h1;refine qb ?_;refine qa [.p, .p] ?_;refine su (qf rfl q44 rfl (q0w) qj) rfl ?_;refine sa rfl rfl ?_;refine qc ?_;refine qo ?_;obtain rfl := Option.some.inj hR;exact zb rfl (rv_g rfl)
 ·replace h1 : (!r1) = false := h1;replace hR := zl hR h1;(try simp only [bB] at h1);have hq := q_in br1 h1
  have q1 : a1.Slots.length ≤ 1000 := by have := hq.o.sl; omega
  have q2 : a1.Waiting.length ≤ 1000 := by have := hq.o.wl; omega
  have q3 := hq.slots
  have q4 : (jj a1).Slots.length ≤ 1000 := by have := hq.wl; omega
  have q5 : (jj a1).Waiting.length ≤ 10 := by have := hq.wl; omega
  have q6 := hq.mv;have q7 := hq.w14;have q8 := hq.b.s
  have q9 : (jj a1).Slots.length ≤ 5 := by have := hq.wl; omega
  have q10 : a1.Waiting.length ≤ 5 := hq.o.wl;have q11 := hq.bw;have q12 := qvg hq.b;refine qn ?_;refine qb ?_;obtain ⟨r2, br2, hR⟩ := qi hR;refine qa [.p, .p, .p, .p, .p, .p, .p, .p, .w, .w, .p, .p] ?_;refine sm rfl rfl ?_;refine su (qp rfl qj9 rfl rfl rfl) rfl ?_;refine su (qf rfl qyp rfl (qyq a1 (by first | assumption | omega | (simp [qh]; done) | (simp [qh]; omega)) (by first | assumption | omega | (simp [qh]; done) | (simp [qh]; omega)) (by first | assumption | omega | (simp [qh]; done) | (simp [qh]; omega))) (qe rfl qj)) rfl ?_;refine su (qf rfl q45 rfl (q46 a0 (jj a1) (by first | assumption | omega | (simp [qh]; done) | (simp [qh]; omega)) (by first | assumption | omega | (simp [qh]; done) | (simp [qh]; omega)) (by first | assumption | omega | (simp [qh]; done) | (simp [qh]; omega)) (by first | assumption | omega | (simp [qh]; done) | (simp [qh]; omega)) br2) (qe rfl (qe rfl qj))) rfl ?_;refine sm rfl rfl ?_;refine su (qt rfl rfl rfl) rfl ?_;refine su (qt rfl rfl rfl) rfl ?_;refine su (qt rfl rfl rfl) rfl ?_;refine sw (zc 5 rfl wn rfl rfl) rfl ?_;refine jb rfl rfl (qu (tv := .g (G.agg [G.sl 16 (List.map S5100.c r2.1.Slots), G.sl 14 (List.map S5072.c r2.1.Waiting)])) rfl zu rfl rfl rfl rfl rfl) ?_;refine sa rfl rfl ?_;refine sa rfl rfl ?_;refine qc ?_;refine qb ?_;obtain ⟨r3, br3, hR⟩ := qi hR;refine qa [.p, .p, .p, .p, .p, .p, .p, .w, .w, .p, .p] ?_;refine su (qp rfl qj9 rfl rfl rfl) rfl ?_;refine su (qf rfl qyp rfl (qyq a1 (by first | assumption | omega | (simp [qh]; done) | (simp [qh]; omega)) (by first | assumption | omega | (simp [qh]; done) | (simp [qh]; omega)) (by first | assumption | omega | (simp [qh]; done) | (simp [qh]; omega))) (qe rfl qj)) rfl ?_;refine su (qvl rfl q45 rfl (q46 [] (jj a1) (by first | assumption | omega | (simp [qh]; done) | (simp [qh]; omega)) (by first | assumption | omega | (simp [qh]; done) | (simp [qh]; omega)) (by first | assumption | omega | (simp [qh]; done) | (simp [qh]; omega)) (by first | assumption | omega | (simp [qh]; done) | (simp [qh]; omega)) br3) (q2h rfl (q2i rfl q47))) rfl ?_;refine sm rfl rfl ?_;refine su (qt rfl rfl rfl) rfl ?_;refine su (qt rfl rfl rfl) rfl ?_;refine su (qt rfl rfl rfl) rfl ?_;refine sw (zc 8 rfl wn rfl rfl) rfl ?_;refine jb rfl rfl (qu (tv := .g (G.agg [G.sl 16 (List.map S5100.c r3.1.Slots), G.sl 14 (List.map S5072.c r3.1.Waiting)])) rfl zu rfl rfl rfl rfl rfl) ?_;refine sa rfl rfl ?_;refine sa rfl rfl ?_;refine qc ?_;refine qb ?_;refine qb ?_;refine qa [.p, .p, .p, .p, .p, .p, .p, .p, .p, .p, .p, .p, .p, .p, .p, .p, .r, .p, .p, .p, .p, .p, .r, .p, .p, .p, .p, .p, .p, .p, .p, .p, .p] ?_;refine sm rfl rfl ?_;refine su (zy rfl rfl rfl) rfl ?_;refine sm rfl rfl ?_;refine sg rfl rfl (fun h => qk rfl rfl) rfl ?_;refine sg rfl rfl (fun h => zy rfl (gd h rfl) rfl) rfl ?_;refine su (jl rfl rfl rfl rfl) rfl ?_;refine sm rfl rfl ?_;refine sg rfl rfl (fun h => qk rfl rfl) rfl ?_;refine sg rfl rfl (fun h => za (f := cStr) (l := r3.2.1) rfl Tryz.underlying35 (gd h rfl)) rfl ?_;refine sg rfl rfl (fun h => qd rfl xz rfl) rfl ?_;refine sg rfl rfl (fun h => qg rfl qde (gd h rfl)) rfl ?_;refine sg rfl rfl (fun h => za (f := S5072.c) (l := a1.Waiting) rfl Tryz.underlying24 (gd h rfl)) rfl ?_;refine sg rfl rfl (fun h => zy rfl (gd h rfl) (gd h rfl)) rfl ?_;refine su (jl rfl rfl rfl rfl) rfl ?_;refine sm rfl rfl ?_;refine sg rfl rfl (fun h => qy rfl wa rfl) rfl ?_;refine qgb rfl rfl rfl (z6 _ _) (fun h => zo rfl qdf (gd h rfl) rfl rfl) rfl ?_;refine sg rfl rfl (fun h => za (f := S5072.c) (l := r3.1.Waiting) rfl Tryz.underlying41 (gd h rfl)) rfl ?_;refine sg rfl rfl (fun h => zy rfl (gd h rfl) rfl) rfl ?_;refine su (jl rfl rfl rfl rfl) rfl ?_;refine sm rfl rfl ?_;refine sg rfl rfl (fun h => qy rfl vh rfl) rfl ?_;refine qgb rfl rfl rfl (z6 _ _) (fun h => zo rfl qax (gd h rfl) rfl rfl) rfl ?_;refine sg rfl rfl (fun h => za (f := S5100.c) (l := r3.1.Slots) rfl Tryz.underlying40 (gd h rfl)) rfl ?_;refine sg rfl rfl (fun h => qd rfl wx rfl) rfl ?_;refine sg rfl rfl (fun h => qg rfl qd0 (gd h rfl)) rfl ?_;refine sg rfl rfl (fun h => za (f := S5036.c) (l := a1.Slots) rfl Tryz.underlying23 (gd h rfl)) rfl ?_;refine sg rfl rfl (fun h => qd rfl xz rfl) rfl ?_;refine sg rfl rfl (fun h => qg rfl qde (gd h rfl)) rfl ?_;refine sg rfl rfl (fun h => za (f := S5072.c) (l := a1.Waiting) rfl Tryz.underlying24 (gd h rfl)) rfl ?_;refine sg rfl rfl (fun h => kp rfl (gd h rfl) (gd h rfl)) rfl ?_;refine sg rfl rfl (fun h => zy rfl (gd h rfl) (gd h rfl)) rfl ?_;refine su (jl rfl rfl rfl rfl) rfl ?_;refine qc ?_;refine ql _ rfl (fun h2 => ?_) (fun h2 => ?_)
  ·replace hR := zk hR h2;refine qb ?_;refine qa [.p] ?_;refine sa rfl rfl ?_;refine qc ?_;refine qo ?_;obtain rfl := Option.some.inj hR;exact zb rfl (rv_g rfl)
  ·replace h2 : (((((decide (r2.2.2 ≠ 0)) || (decide (r3.2.2 ≠ 0))) || (decide ((List.length r3.2.1 : Int) ≠ (List.length a1.Waiting : Int)))) || (decide ((List.length r3.1.Waiting : Int) ≠ 0))) || (decide ((List.length r3.1.Slots : Int) ≠ IntKind.i64.wrap ((List.length a1.Slots : Int) + (List.length a1.Waiting : Int))))) = false := h2;replace hR := zl hR h2;(try simp only [bB] at h2);refine qn ?_;refine qb ?_;refine qa [.p, .p, .p, .p, .w, .w] ?_;refine su (qp rfl qj9 rfl rfl rfl) rfl ?_;refine su (qf rfl qyp rfl (qyq a1 (by first | assumption | omega | (simp [qh]; done) | (simp [qh]; omega)) (by first | assumption | omega | (simp [qh]; done) | (simp [qh]; omega)) (by first | assumption | omega | (simp [qh]; done) | (simp [qh]; omega))) (qe rfl qj)) rfl ?_;refine su (qoj rfl vh rfl rfl) rfl ?_;refine su (qcr (x := G.agg [G.sl 16 (List.map S5100.c ((jj a1).Slots)), G.lit (.slice none 0 0)]) (y := G.agg [G.sl 16 (List.map S5100.c ((jj a1).Slots)), G.sl 14 (List.map S5072.c [])]) (jg rfl wn rfl qd1 (zz rfl kx) rfl) (qc4 ⟨jq _, xk 14, trivial⟩)) rfl ?_;refine sw (zc 11 rfl wn rfl rfl) rfl ?_;refine jb rfl rfl (qu (tv := .g (G.agg [G.sl 16 (List.map S5100.c ((jj a1).Slots)), G.sl 14 (List.map S5072.c [])])) rfl zu rfl rfl rfl rfl rfl) ?_;refine qc ?_;refine qb ?_;refine qa [.w] ?_;refine sw (xc 12 9 1 rfl rfl rfl) rfl ?_;refine qc ?_;refine qb ?_;refine qb ?_;refine qa [.p, .p, .p, .p] ?_;refine su (qd rfl xz rfl) rfl ?_;refine su (qg rfl qde rfl) rfl ?_;refine su (za (f := S5072.c) (l := a1.Waiting) rfl Tryz.underlying24 rfl) rfl ?_;refine sm rfl rfl ?_;refine qc ?_;refine qq ?_;refine zh (γ := Nat × (List S5072) × (List ByteArray) × (List S5100) × (List S5072)) (fun g => ([(0, .g (G.sl 11 (List.map S2062.c a0))), (3, .g (G.ref [G.sl 16 (List.map S5036.c a1.Slots), G.sl 14 (List.map S5072.c a1.Waiting)])), (5, .ptr 5 0), (6, .g (G.sl 1 (List.map cStr r2.2.1))), (11, .ptr 11 0), (12, .osl 12 1 0 (List.length g.2.2.1)), (85, .g (G.sl 14 (List.map S5072.c a1.Waiting))), (86, .g (G.int (List.length a1.Waiting : Int))), (87, .g (G.int ((g.1 : Nat) : Int)))], [(5, .box [.g (G.sl 16 (List.map S5100.c r2.1.Slots)), .g (G.sl 14 (List.map S5072.c r2.1.Waiting))]), (11, .box [.g (G.sl 16 (List.map S5100.c g.2.2.2.1)), .g (G.sl 14 (List.map S5072.c g.2.2.2.2))]), (12, .arr 9 1 (List.map cStr g.2.2.1))])) (fun g => g.2.2.1.length ≤ g.1 ∧ g.2.2.2.1.length ≤ 5 + g.1 ∧ g.2.2.2.2 = [] ∧ (∀ x ∈ g.2.2.2.1, Brf x.Request) ∧ g.1 ≤ a1.Waiting.length ∧ a1.Waiting.drop g.1 = g.2.1 ∧ xb a0 a1 r2 g.2.1 g.1 g.2.2.1 g.2.2.2.1 g.2.2.2.2 = some R) (fun g => List.length g.2.1) ⟨rfl, (0, a1.Waiting, [], (jj a1).Slots, []), jA, ⟨rfl, rfl, rfl, trivial⟩, rfl, ⟨(by simp), (by exact q9), rfl, (by exact q8), (Nat.zero_le _), rfl, (by exact hR)⟩, trivial⟩ ?_
   ·rintro ⟨k8, t10, x4, x6, x7⟩ ⟨iv1_0, iv1_1, iv1_2, iv1_3, iv1_4, hd, hR⟩;replace hd : a1.Waiting.drop k8 = t10 := hd;replace hR : xb a0 a1 r2 t10 k8 x4 x6 x7 = some R := hR;replace iv1_0 : x4.length ≤ k8 := iv1_0;replace iv1_1 : x6.length ≤ 5 + k8 := iv1_1;replace iv1_2 : x7 = [] := iv1_2;replace iv1_3 : (∀ x ∈ x6, Brf x.Request) := iv1_3;replace iv1_4 : k8 ≤ a1.Waiting.length := iv1_4;refine qb ?_;refine qa [.p] ?_;refine su (zg rfl rfl rfl) rfl ?_;refine qc ?_;refine zp (f := S5072.c) (l := a1.Waiting) 85 rfl fun hlz1 => ?_;refine qb ?_;refine ql _ rfl (fun h3 => ?_) (fun h3 => ?_)
    ·replace h3 : (decide (((k8 : Nat) : Int) < (List.length a1.Waiting : Int))) = true := h3;obtain ⟨y9, t10, rfl, hx1, hd⟩ := zq hd (decT h3);replace h3 := decT h3;rw [xb] at hR;(try dsimp only at hR);refine qn ?_;refine kl (γ := (List ByteArray) × (List S5100) × (List S5072)) (fun g => ([(0, .g (G.sl 11 (List.map S2062.c a0))), (3, .g (G.ref [G.sl 16 (List.map S5036.c a1.Slots), G.sl 14 (List.map S5072.c a1.Waiting)])), (5, .ptr 5 0), (6, .g (G.sl 1 (List.map cStr r2.2.1))), (11, .ptr 11 0), (12, .osl 12 1 0 (List.length g.1)), (85, .g (G.sl 14 (List.map S5072.c a1.Waiting))), (86, .g (G.int (List.length a1.Waiting : Int))), (87, .g (G.int ((k8 : Nat) : Int)))], [(5, .box [.g (G.sl 16 (List.map S5100.c r2.1.Slots)), .g (G.sl 14 (List.map S5072.c r2.1.Waiting))]), (11, .box [.g (G.sl 16 (List.map S5100.c g.2.1)), .g (G.sl 14 (List.map S5072.c g.2.2))]), (12, .arr 9 1 (List.map cStr g.1))])) (fun g => g.1.length ≤ k8 + 1 ∧ g.2.1.length ≤ 5 + (k8 + 1) ∧ g.2.2 = [] ∧ (∀ x ∈ g.2.1, Brf x.Request) ∧ qga (fun k_ z0_ z1_ z2_ => xb a0 a1 r2 t10 k_ z0_ z1_ z2_) k8 g.1 g.2.1 g.2.2 = some R) ?_ ?_
     ·refine qq ?_;refine qb ?_;refine qa [.p, .p, .w, .w] ?_;refine su (jd (f := S5072.c) (l := a1.Waiting) (a := y9) rfl Tryz.underlying24 qbf rfl rfl (Int.natCast_nonneg _) hx1) rfl ?_;refine su (qp rfl qbf rfl rfl rfl) rfl ?_;refine sw (zc 14 rfl q2j rfl rfl) rfl ?_;refine jb rfl rfl (qu (tv := .g (G.agg (S5072.c y9))) rfl qbf rfl rfl rfl rfl rfl) ?_;refine qc ?_;refine qb ?_;obtain ⟨r21, br21, hR⟩ := qi hR;have hbr := q11 _ (List.mem_of_getElem? hx1);have hkw := j7 hx1
      have hm1 : ∀ r, qc3 (S5042.mk x6 x7) (-1) = some r → r.length ≤ 1000 := fun r hr => by have := q0v iv1_3 (by show x6.length ≤ 57; omega) r hr; omega
      have hm2 : x7.length ≤ 1000 := by rw [iv1_2]; simp
      refine qa [.p, .r, .p, .r, .p, .p, .p, .p, .w, .w, .p] ?_;refine sm rfl rfl ?_;refine sr (zm rfl zu rfl rfl rfl rfl) rfl ?_;refine su (qy rfl qb7 rfl) rfl ?_;refine sr (zm rfl wo rfl rfl rfl rfl) rfl ?_;refine su (qf rfl q2k rfl (q2l a0 (S5042.mk x6 x7) (S115.mk y9.Request.Name y9.Request.Carrier y9.Request.Kind y9.Request.Terminal y9.Request.Partner y9.Request.Link (S45.mk y9.Request.Period.fFrom y9.Request.Period.fTo y9.Request.Period.Days) y9.Request.Minute y9.Request.Seats y9.Request.Size y9.Request.Noise) (by first | assumption | omega | (simp [qh]; done) | (simp [qh]; omega)) (by first | assumption | omega | (simp [qh]; done) | (simp [qh]; omega)) (by first | assumption | omega | (simp [qh]; done) | (simp [qh]; omega)) br21) (qe rfl (qe rfl (qe rfl qj)))) rfl ?_;refine sm rfl rfl ?_;refine su (qt rfl rfl rfl) rfl ?_;refine su (qt rfl rfl rfl) rfl ?_;refine sw (zc 15 rfl wn rfl rfl) rfl ?_;refine jb rfl rfl (qu (tv := .g (G.agg [G.sl 16 (List.map S5100.c r21.1.Slots), G.sl 14 (List.map S5072.c r21.1.Waiting)])) rfl zu rfl rfl rfl rfl rfl) ?_;refine sa rfl rfl ?_;refine qc ?_;refine qb ?_;refine qa [.p, .p] ?_;refine sm rfl rfl ?_;refine su (jr rfl rfl rfl) rfl ?_;refine qc ?_;refine ql _ rfl (fun h8 => ?_) (fun h8 => ?_)
      ·replace h8 : (decide (r21.2 = 0)) = true := h8;replace hR := zk hR h8;(try simp only [bB] at h8);obtain ⟨w1, w2, w3⟩ := qvi br21 h8 hbr iv1_3 iv1_1 iv1_2;refine qb ?_;refine qa [.r, .w] ?_;refine sr (zm rfl zu rfl rfl rfl rfl) rfl ?_;refine jb rfl rfl (qu (tv := .g (G.agg [G.sl 16 (List.map S5100.c r21.1.Slots), G.sl 14 (List.map S5072.c r21.1.Waiting)])) rfl zu rfl rfl rfl rfl rfl) ?_;refine qc ?_;refine qa [.p, .p, .p, .r, .p, .k, .p] ?_;refine su (zd rfl rfl) rfl ?_;refine su (qy rfl qb7 rfl) rfl ?_;refine su (qy rfl kr rfl) rfl ?_;refine sr (zo rfl ty9 rfl rfl rfl) rfl ?_;refine su (qv rfl Tryz.underlying35 ty9 z9 rfl (qw rfl jo) rfl (by simp []) (by decide)) rfl ?_;refine st_k rfl rfl (vi (f := cStr) (out := x4) (new := [y9.Request.Name]) rfl qyr rfl rfl (qad rfl (qae (by decide) (by simp []))) (qi1 rfl) (by simp; omega)) rfl ?_;refine su (je rfl rfl) rfl ?_;refine qc ?_;exact ⟨rfl, (x4 ++ [y9.Request.Name], r21.1.Slots, r21.1.Waiting), jA, ⟨rfl, rfl, rfl, trivial⟩, rfl, ⟨(by first | assumption | omega | (simp; omega)), (by first | assumption | omega | (simp; omega)), (by first | assumption | omega | (simp; omega)), (by first | assumption | omega | (simp; omega)), hR⟩, trivial⟩
      ·replace h8 : (decide (r21.2 = 0)) = false := h8;replace hR := zl hR h8;(try simp only [bB] at h8);refine qb ?_;refine qa [.p, .p] ?_;refine sm rfl rfl ?_;refine su (zy rfl rfl rfl) rfl ?_;refine qc ?_;refine ql _ rfl (fun h9 => ?_) (fun h9 => ?_)
       ·replace hR := zk hR h9;refine qb ?_;refine qa [.p] ?_;refine sa rfl rfl ?_;refine qc ?_;refine qo ?_;obtain rfl := Option.some.inj hR;exact zb rfl (rv_g rfl)
       ·replace h9 : (decide (r21.2 ≠ 14)) = false := h9;replace hR := zl hR h9;(try simp only [bB] at h9);refine qn ?_;exact ⟨rfl, (x4, x6, x7), jA, ⟨rfl, rfl, rfl, trivial⟩, rfl, ⟨(by first | assumption | omega | (simp; omega)), (by first | assumption | omega | (simp; omega)), (by first | assumption | omega | (simp; omega)), (by first | assumption | omega | (simp; omega)), hR⟩, trivial⟩
     ·rintro ⟨x18, x19, x20⟩ ⟨jv2_0, jv2_1, jv2_2, jv2_3, hR⟩;replace jv2_0 : x18.length ≤ k8 + 1 := jv2_0;replace jv2_1 : x19.length ≤ 5 + (k8 + 1) := jv2_1;replace jv2_2 : x20 = [] := jv2_2;replace jv2_3 : (∀ x ∈ x19, Brf x.Request) := jv2_3;replace hR : qga (fun k_ z0_ z1_ z2_ => xb a0 a1 r2 t10 k_ z0_ z1_ z2_) k8 x18 x19 x20 = some R := hR;unfold qga at hR;refine qa [.p, .p] ?_;refine su (zn rfl rfl rfl iE) rfl ?_;refine sm rfl rfl ?_;refine qc ?_;exact ⟨rfl, (k8 + 1, t10, x18, x19, x20), jA, ⟨rfl, rfl, rfl, trivial⟩, rfl, ⟨(by first | assumption | omega | (simp; omega)), (by first | assumption | omega | (simp; omega)), (by first | assumption | omega | (simp; omega)), (by first | assumption | omega | (simp; omega)), (by first | assumption | omega | (simp; omega)), hd, hR⟩, by simp⟩
    ·replace h3 : (decide (((k8 : Nat) : Int) < (List.length a1.Waiting : Int))) = false := h3;obtain rfl := z8 hd (decF h3);rw [xb] at hR;refine zt ?_;refine qb ?_;obtain ⟨r11, br11, hR⟩ := qi hR;have hsv := hq.srv br2
     have q13 : r2.1.Slots.length ≤ 1000000000000000 := by have := hsv.n; omega
     refine qa [.p, .p, .p, .p, .p, .p, .p, .p] ?_;refine su (qp rfl qj9 rfl rfl rfl) rfl ?_;refine su (qf rfl qyp rfl (qyq a1 (by first | assumption | omega | (simp [qh]; done) | (simp [qh]; omega)) (by first | assumption | omega | (simp [qh]; done) | (simp [qh]; omega)) (by first | assumption | omega | (simp [qh]; done) | (simp [qh]; omega))) (qe rfl qj)) rfl ?_;refine su (qf rfl qys rfl (qyt (jj a1) (by first | assumption | omega | (simp [qh]; done) | (simp [qh]; omega)) br11) (qe rfl qj)) rfl ?_;refine sm rfl rfl ?_;refine su (qt rfl rfl rfl) rfl ?_;refine su (qt rfl rfl rfl) rfl ?_;refine sa rfl rfl ?_;refine sa rfl rfl ?_;refine qc ?_;refine qb ?_;obtain ⟨r12, br12, hR⟩ := qi hR;refine qa [.r, .p, .p, .p, .p, .p, .p] ?_;refine sr (zm rfl zu rfl rfl rfl rfl) rfl ?_;refine su (qf rfl qys rfl (qyt r2.1 (by first | assumption | omega | (simp [qh]; done) | (simp [qh]; omega)) br12) (qe rfl qj)) rfl ?_;refine sm rfl rfl ?_;refine su (qt rfl rfl rfl) rfl ?_;refine su (qt rfl rfl rfl) rfl ?_;refine sa rfl rfl ?_;refine sa rfl rfl ?_;refine qc ?_;refine qb ?_;obtain ⟨r13, br13, hR⟩ := qi hR;refine qa [.r, .p, .p, .p, .p, .p, .p] ?_;refine sr (zm rfl zu rfl rfl rfl rfl) rfl ?_;refine su (qf rfl qys rfl (qyt (S5042.mk x6 x7) (by first | assumption | omega | (simp [qh]; done) | (simp [qh]; omega)) br13) (qe rfl qj)) rfl ?_;refine sm rfl rfl ?_;refine su (qt rfl rfl rfl) rfl ?_;refine su (qt rfl rfl rfl) rfl ?_;refine sa rfl rfl ?_;refine sa rfl rfl ?_;refine qc ?_;refine qb ?_;refine qb ?_;obtain ⟨r14, br14, hR⟩ := qi hR;obtain ⟨r15, br15, hR⟩ := qi hR;refine qa [.p, .p, .p, .p, .p, .p, .p, .p, .p, .p, .p, .p, .p, .r, .p, .p, .p, .p, .p, .p, .p, .p] ?_;refine sm rfl rfl ?_;refine su (zy rfl rfl rfl) rfl ?_;refine sm rfl rfl ?_;refine sg rfl rfl (fun h => qk rfl rfl) rfl ?_;refine sg rfl rfl (fun h => zy rfl (gd h rfl) rfl) rfl ?_;refine su (jl rfl rfl rfl rfl) rfl ?_;refine sm rfl rfl ?_;refine sg rfl rfl (fun h => qk rfl rfl) rfl ?_;refine sg rfl rfl (fun h => zy rfl (gd h rfl) rfl) rfl ?_;refine su (jl rfl rfl rfl rfl) rfl ?_;refine sm rfl rfl ?_;refine sg rfl rfl (fun h => zd rfl rfl) rfl ?_;refine sg rfl rfl (fun h => qk rfl rfl) rfl ?_;refine qgb rfl rfl rfl (z6 _ _) (fun h => qvm rfl K60 rfl (c60 x4 r2.2.1 (qvn br14 h)) (q2m (gd h rfl) rfl (qyu (gd h rfl) q2n))) rfl ?_;refine sg rfl rfl (fun h => jk rfl (gd h rfl)) rfl ?_;refine su (jl rfl rfl rfl rfl) rfl ?_;refine sm rfl rfl ?_;refine sg rfl rfl (fun h => qk rfl rfl) rfl ?_;refine sg rfl rfl (fun h => qk rfl rfl) rfl ?_;refine sg rfl rfl (fun h => qf rfl q8e rfl (q8f r12.1 r13.1 (qvn br15 h)) (qe (gd h rfl) (qe (gd h rfl) qj))) rfl ?_;refine sg rfl rfl (fun h => jk rfl (gd h rfl)) rfl ?_;refine su (jl rfl rfl rfl rfl) rfl ?_;refine qc ?_;refine ql _ rfl (fun h5 => ?_) (fun h5 => ?_)
     ·replace hR := zk hR h5;refine qb ?_;refine qa [.p] ?_;refine sa rfl rfl ?_;refine qc ?_;refine qo ?_;obtain rfl := Option.some.inj hR;exact zb rfl (rv_g rfl)
     ·replace h5 : (((((decide (r11.2 ≠ 0)) || (decide (r12.2 ≠ 0))) || (decide (r13.2 ≠ 0))) || (!r14)) || (!r15)) = false := h5;replace hR := zl hR h5;(try simp only [bB] at h5);refine qn ?_;refine kl (γ := Unit) (fun g => ([], [])) (fun g => qeu = some R) ?_ ?_
      ·refine qb ?_;obtain ⟨r16, br16, hR⟩ := qi hR;have q14 := q12 _ br11;have q15 := qvg hsv _ br12;refine qa [.p, .p, .p, .p, .p, .p, .w, .w, .p] ?_;refine sm rfl rfl ?_;refine sm rfl rfl ?_;refine su (qf rfl q48 rfl (q49 a0 r11.1 (by first | assumption | omega | (simp [qh]; done) | (simp [qh]; omega)) br16) (qe rfl (qe rfl qj))) rfl ?_;refine sm rfl rfl ?_;refine su (qt rfl rfl rfl) rfl ?_;refine su (qt rfl rfl rfl) rfl ?_;refine sw (zc 23 rfl qhb rfl rfl) rfl ?_;refine jb rfl rfl (qu (tv := .g (G.agg (S2068.c r16.1))) rfl qbg rfl rfl rfl rfl rfl) ?_;refine sa rfl rfl ?_;refine qc ?_;refine qb ?_;refine qa [.p, .p] ?_;refine sm rfl rfl ?_;refine su (jr rfl rfl rfl) rfl ?_;refine qc ?_;refine ql _ rfl (fun h6 => ?_) (fun h6 => ?_)
       ·replace h6 : (decide (r16.2 = 7)) = true := h6;replace hR := zk hR h6;(try simp only [bB] at h6);refine qb ?_;obtain ⟨r17, br17, hR⟩ := qi hR;refine qa [.p, .p, .p, .p, .p, .p, .w, .w, .p] ?_;refine sm rfl rfl ?_;refine sm rfl rfl ?_;refine su (qf rfl q48 rfl (q49 a0 r12.1 (by first | assumption | omega | (simp [qh]; done) | (simp [qh]; omega)) br17) (qe rfl (qe rfl qj))) rfl ?_;refine sm rfl rfl ?_;refine su (qt rfl rfl rfl) rfl ?_;refine su (qt rfl rfl rfl) rfl ?_;refine sw (zc 25 rfl qhb rfl rfl) rfl ?_;refine jb rfl rfl (qu (tv := .g (G.agg (S2068.c r17.1))) rfl qbg rfl rfl rfl rfl rfl) ?_;refine sa rfl rfl ?_;refine qc ?_;refine qb ?_;refine qa [.p, .p] ?_;refine sm rfl rfl ?_;refine su (zy rfl rfl rfl) rfl ?_;refine qc ?_;refine ql _ rfl (fun h7 => ?_) (fun h7 => ?_)
        ·replace hR := zk hR h7;refine qb ?_;refine qa [.p] ?_;refine sa rfl rfl ?_;refine qc ?_;refine qo ?_;obtain rfl := Option.some.inj hR;exact zb rfl (rv_g rfl)
        ·replace hR := zl hR h7;refine qn ?_;exact ⟨rfl, (), trivial, trivial, rfl, hR, trivial⟩
       ·replace hR := zl hR h6;refine qn ?_;exact ⟨rfl, (), trivial, trivial, rfl, hR, trivial⟩
      ·rintro ⟨⟩ hR;replace hR : qeu = some R := hR;unfold qeu at hR;refine qb ?_;refine qa [.p, .p] ?_;refine su (qf rfl q44 rfl (q0w) qj) rfl ?_;refine sa rfl rfl ?_;refine qc ?_;refine qo ?_;obtain rfl := Option.some.inj hR;exact zb rfl (rv_g rfl)
end Go.Sim
set_option maxRecDepth 10000
namespace Go.Sim
open Go.Proofs
theorem qyv (l : List ByteArray) : s60 l l = some true := by
 have key : ∀ (t : List ByteArray) (k : Nat), l.drop k = t → qis l t k = some true := by
  intro t
  induction t with
  | nil => intro k _; rfl
  | cons y t ih =>
   intro k hd;obtain ⟨h1, h2, h3⟩ := qdr hd
   have : ixO l ((k : Nat) : Int) = some y := by unfold ixO; rw [decide_eq_true (by omega), cond_true, Int.toNat_natCast, h1]
   rw [qis, this];simp only [zf, decide_true, Bool.not_true, cond_false];exact ih (k + 1) h2
 unfold s60;rw [decide_eq_false (by simp), cond_false];exact key l 0 rfl
theorem qtb (l : List S1079) : qvj l l = some true := by
 have key : ∀ (t : List S1079) (k : Nat), l.drop k = t → qcw l t k = some true := by
  intro t
  induction t with
  | nil => intro k _; rfl
  | cons y t ih =>
   intro k hd;obtain ⟨h1, h2, h3⟩ := qdr hd
   have : ixO l ((k : Nat) : Int) = some y := by unfold ixO; rw [decide_eq_true (by omega), cond_true, Int.toNat_natCast, h1]
   rw [qcw, this];simp only [zf, decide_true, qhc, Bool.and_self, Bool.not_true, cond_false];exact ih (k + 1) h2
 unfold qvj;rw [decide_eq_false (by simp), cond_false];exact key l 0 rfl
theorem qyw (a0 : List S2062) (a1 : S5025) (r2 : S5042 × (List ByteArray) × Int) (y : S5072) (t : List S5072) (k : Nat) (x4 : List ByteArray) (x6 : List S5100) (x7 : List S5072) : xb a0 a1 r2 (y :: t) k x4 x6 x7 =
  zf (qha a0 (S5042.mk x6 x7) y.Request) fun r21 => (bif decide (r21.2 = 0) then xb a0 a1 r2 t (k + 1) (x4 ++ [y.Request.Name]) r21.1.Slots r21.1.Waiting else (bif decide (r21.2 ≠ 14) then some false else xb a0 a1 r2 t (k + 1) x4 x6 x7)) := by
 rw [xb]; rfl
structure HIn (x6 : List S5100) (t : List S5072) : Prop where
 v : ∀ x ∈ x6, SlotV x
 b : ∀ x ∈ x6, Brf x.Request
 n : x6.length + t.length ≤ 30
 nd : (qac x6 ++ xf t).Nodup
theorem HIn.book {x6 : List S5100} {t : List S5072} (h : HIn x6 t) : BkB (S5042.mk x6 []) := by
 have hn := h.n;refine ⟨⟨by show x6.length ≤ 64; omega, Nat.zero_le _, h.v, (fun w hw => nomatch hw), ?_, List.Pairwise.nil⟩, h.b, (fun w hw => nomatch hw), by show x6.length + 0 ≤ 30; omega⟩;show (qac x6 ++ []).Nodup;rw [List.append_nil];exact (List.nodup_append.1 h.nd).1
theorem held {a0 : List S2062} (hl : wm a0 = 0) {a1 : S5025} (r2 : S5042 × (List ByteArray) × Int) : ∀ (t : List S5072) (k : Nat) (x4 : List ByteArray) (x6 : List S5100), (∀ w ∈ t, WishV w) → (∀ w ∈ t, Brf w.Request) → HIn x6 t →
  ∃ k', xb a0 a1 r2 t k x4 x6 [] = xb a0 a1 r2 [] k' (x4 ++ xf (acc a0 (bmv [] (x6.map S5100.Request)) t)) (x6 ++ (acc a0 (bmv [] (x6.map S5100.Request)) t).map qbl) []
 | [], k, x4, x6, _, _, _ => ⟨k, by simp [acc, xf]⟩
 | y :: t, k, x4, x6, hw, hb, h => by
  have hn := h.n;rw [List.length_cons] at hn;have hy := hb y List.mem_cons_self;have hv := hw y List.mem_cons_self;have hbk := h.book;obtain ⟨g1, g2⟩ := qj7 (b := S5042.mk x6 []) h.b (by show x6.length ≤ 1000; omega);have g1 : qc3 (S5042.mk x6 []) (-1) = some (bmv [] (x6.map S5100.Request)) := g1;have g2 : MvV (bmv [] (x6.map S5100.Request)) (x6.length * 14) := g2
  have hnt : qfn (S5042.mk x6 []) y.Request.Name = false := by
   refine Bool.eq_false_iff.2 fun e => ?_;have := (quw _ _).1 e;have this : y.Request.Name ∈ qac x6 ++ [] := this;rw [List.append_nil] at this;exact (List.nodup_append.1 h.nd).2.2 _ this y.Request.Name (by simp [xf]) rfl
  rw [qyw, qm0 hl (qj3 hbk.v) (qm1 hv.rq) hnt (by show x6.length < 64; omega) g1 g2.z (qqd hy.ok) (fun x hx => qor (h.v x hx))];simp only [zf];rw [show inI y.Request.Minute (ivs (bmv [] (x6.map S5100.Request)) y.Request a0) = !fit a0 (bmv [] (x6.map S5100.Request)) y.Request by unfold fit; simp];unfold acc;have hnd := h.nd
  cases hf : fit a0 (bmv [] (x6.map S5100.Request)) y.Request with
  | false =>
   simp only [Bool.not_false, cond_true, cond_false];rw [decide_eq_false (show ¬ (14 : Int) = 0 by decide), cond_false, decide_eq_false (by decide), cond_false]
   obtain ⟨k', q⟩ := held hl r2 t (k + 1) x4 x6 (fun w h => hw w (List.mem_cons_of_mem _ h)) (fun w h => hb w (List.mem_cons_of_mem _ h)) ⟨h.v, h.b, by omega, by
    refine hnd.sublist (List.Sublist.append_left ?_ _)
    exact List.sublist_cons_self _ _⟩
   exact ⟨k', q⟩
  | true =>
   simp only [Bool.not_true, cond_true, cond_false];simp only [decide_true, cond_true]
   have e1 : qac (x6 ++ [qbl y]) = qac x6 ++ [y.Request.Name] := by simp [qac, qbl, qd6]
   obtain ⟨k', q⟩ := held hl r2 t (k + 1) (x4 ++ [y.Request.Name]) (x6 ++ [qbl y]) (fun w h => hw w (List.mem_cons_of_mem _ h)) (fun w h => hb w (List.mem_cons_of_mem _ h)) ⟨fun x hx => by
     rcases List.mem_append.1 hx with hx | hx
     ·exact h.v x hx
     ·rw [List.mem_singleton.1 hx]; exact qrn hv.rq, fun x hx => by
     rcases List.mem_append.1 hx with hx | hx
     ·exact h.b x hx
     ·rw [List.mem_singleton.1 hx]; exact hy, by rw [List.length_append]; simp; omega, by
     rw [e1, List.append_assoc]; exact hnd⟩
   refine ⟨k', ?_⟩
   have e2 : bmv [] ((x6 ++ [qbl y]).map S5100.Request) = mrg (bmv [] (x6.map S5100.Request)) (mvs y.Request) := by
    rw [List.map_append];exact qrm _ _ _
   rw [e2] at q;refine q.trans ?_
   simp [xf]
theorem qtc {a0 : List S2062} {a1 : S5025} (h : ∃ r, qmv a0 a1 = some r) : qvk a0 a1 = some true := by
 obtain ⟨r1, h1⟩ := h;unfold qvk;rw [h1];simp only [zf]
 cases r1 with
 | false => rw [Bool.not_false, cond_true, qot]
 | true =>
  rw [Bool.not_true, cond_false];have hq := q_in h1 rfl;have hl := hq.o.lims;have hb := hq.b;have hn := hb.n
  have eW : (jj a1).Waiting = a1.Waiting := by rw [qa6]
  have eS : (jj a1).Slots.length = a1.Slots.length := by rw [qa6]; exact List.length_map ..
  rw [qmy hl hb, qmy (ls := []) (by rfl) hb];simp only [];rw [(qqh _ _).1, (qqh _ _).2]
  have hc : (((((decide ((0 : Int) ≠ 0)) || (decide ((0 : Int) ≠ 0))) || (decide ((List.length (xf (jj a1).Waiting) : Int) ≠ (List.length a1.Waiting : Int)))) || (decide ((List.length ([] : List S5072) : Int) ≠ 0))) || (decide ((List.length ((jj a1).Slots ++ (jj a1).Waiting.map qbl) : Int) ≠ IntKind.i64.wrap ((List.length a1.Slots : Int) + (List.length a1.Waiting : Int))))) = false := by
   have h1 : (xf (jj a1).Waiting).length = a1.Waiting.length := by rw [eW]; exact List.length_map ..
   have h2 : ((jj a1).Slots ++ (jj a1).Waiting.map qbl).length = a1.Slots.length + a1.Waiting.length := by rw [List.length_append, List.length_map, eS, eW]
   have := hq.o.sl; have := hq.o.wl;rw [h1, h2, wrap_i64 (by unfold I64; omega)]
   simp
  rw [hc, cond_false];obtain ⟨k', q⟩ := held hl (S5042.mk ((jj a1).Slots ++ (acc a0 (bM (jj a1)) (jj a1).Waiting).map qbl) (rej a0 (bM (jj a1)) (jj a1).Waiting), xf (acc a0 (bM (jj a1)) (jj a1).Waiting), 0) (a1 := a1) a1.Waiting 0 [] (jj a1).Slots (by rw [← eW]; exact hb.v.w) hq.bw ⟨hb.v.s, hb.s, by rw [← eW]; exact hn, by rw [← eW]; exact hb.v.nd⟩;rw [q];have hsv := qos (ls := a0) hb;have hM : bmv [] ((jj a1).Slots.map S5100.Request) = bM (jj a1) := rfl;rw [hM, ← eW]
  have hown : BkB (S5042.mk ((jj a1).Slots ++ (acc a0 (bM (jj a1)) (jj a1).Waiting).map qbl) []) := by
   refine ⟨⟨hsv.v.sl, Nat.zero_le _, hsv.v.s, (fun w hw => nomatch hw), ?_, List.Pairwise.nil⟩, hsv.s, (fun w hw => nomatch hw), ?_⟩
   ·have := (List.nodup_append.1 hsv.v.nd).1;show (qac ((jj a1).Slots ++ (acc a0 (bM (jj a1)) (jj a1).Waiting).map qbl) ++ []).Nodup;rw [List.append_nil]; exact this
   ·have h1 := hsv.n;have h1 : ((jj a1).Slots ++ (acc a0 (bM (jj a1)) (jj a1).Waiting).map qbl).length + (rej a0 (bM (jj a1)) (jj a1).Waiting).length ≤ 30 := h1;show ((jj a1).Slots ++ (acc a0 (bM (jj a1)) (jj a1).Waiting).map qbl).length + 0 ≤ 30
    omega
  rw [xb, qmz hb];simp only [zf];rw [qmz hsv];simp only [];rw [qmz hown];simp only [];rw [List.nil_append];rw [decide_eq_false (show ¬ (0 : Int) ≠ 0 by decide)];simp only [Bool.or_self, Bool.not_false, cond_true];rw [qyv];simp only [Bool.not_true, Bool.or_false, Bool.not_false, cond_true];rw [show bM (S5042.mk ((jj a1).Slots ++ (acc a0 (bM (jj a1)) (jj a1).Waiting).map qbl) []) = bM (S5042.mk ((jj a1).Slots ++ (acc a0 (bM (jj a1)) (jj a1).Waiting).map qbl) (rej a0 (bM (jj a1)) (jj a1).Waiting)) from rfl, qtb];simp only [Bool.not_true, Bool.or_false, cond_false];have hm0 : MvV (bM (jj a1)) ((jj a1).Slots.length * 14) := (qj7 hb.s (by omega)).2;have hm1 := (qj7 hsv.s (by have := hsv.n; omega)).2;obtain ⟨w, e, f1, f2⟩ := qro hl hm0.z;rw [f1];simp only [];unfold qeu;rw [qot]
  cases he : decide (e = 7) with
  | false => rfl
  | true =>
   have he := f2.1 (of_decide_eq_true he);obtain ⟨w', e', k1, k2⟩ := qro hl hm1.z
   have hx : nox a0 (bM (S5042.mk ((jj a1).Slots ++ (acc a0 (bM (jj a1)) (jj a1).Waiting).map qbl) (rej a0 (bM (jj a1)) (jj a1).Waiting))) := by
    have e3 : bM (S5042.mk ((jj a1).Slots ++ (acc a0 (bM (jj a1)) (jj a1).Waiting).map qbl) (rej a0 (bM (jj a1)) (jj a1).Waiting)) = amv a0 (bM (jj a1)) (jj a1).Waiting := by
     rw [qvc];unfold bM;show bmv [] (((jj a1).Slots ++ _).map S5100.Request) = _;rw [List.map_append, List.map_map]
     have : ∀ (t u : List S115) (x : List S1079), bmv x (t ++ u) = bmv (bmv x t) u := by
      intro t
      induction t with
      | nil => intro u x; rfl
      | cons r t ih => intro u x; exact ih u _
     rw [this]; rfl
    rw [e3];exact qql (qqn hl).2 _ _ _ hb.w hm0 (by omega) he
   rw [cond_true];have k1 : qqm a0 (bM (S5042.mk ((jj a1).Slots ++ (acc a0 (bM (jj a1)) (jj a1).Waiting).map qbl) (rej a0 (bM (jj a1)) (jj a1).Waiting))) = some (w', e') := k1;rw [k1];simp only [];rw [decide_eq_false (by simpa using k2.2 hx)]
   rfl
end Go.Sim
set_option maxRecDepth 10000
namespace Go.Sim
open Go.Proofs
theorem qka {α : Type} {l : List α} {n : Nat} (h : n < l.length) : ixO l ((n : Nat) : Int) = some l[n] := by
 unfold ixO; rw [decide_eq_true (by omega), cond_true, Int.toNat_natCast, List.getElem?_eq_getElem h]
theorem q0x (a0 : S5036) : ∀ (k n : Nat) (x : Int), a0.Shares.length ≤ k + n → ∃ r, kd a0 (k + 1) x ((n : Nat) : Int) = some r
 | k, n, x, hk => by
  have next : ∀ (k' : Nat), k = k' + 1 → ∀ e : Int, ∃ r, kd a0 k e (((n : Nat) : Int) + 1) = some r := by
   rintro k' rfl e;exact q0x a0 k' (n + 1) e (by omega)
  rw [kd, cond_eq_ite]
  split
  ·rename_i c
   have c0 : ((n : Nat) : Int) < (a0.Shares.length : Int) := by
    rw [Bool.and_eq_true] at c; exact of_decide_eq_true c.1
   have hn : n < a0.Shares.length := by omega
   obtain ⟨k', rfl⟩ : ∃ k', k = k' + 1 := ⟨k - 1, by omega⟩
   have j3 : ∀ e : Int, ∃ r, qa5 (fun z0_ z1_ => kd a0 (k' + 1) z0_ z1_) a0 ((n : Nat) : Int) e = some r := by
    intro e;unfold qa5;rw [qka hn]
    cases decide (e = 0) with
    | true =>
     simp only [cond_true, zf, Bool.true_and];rw [cond_eq_ite]
     split
     ·exact next k' rfl 9
     ·exact next k' rfl e
    | false =>
     simp only [cond_false, zf, Bool.false_and];exact next k' rfl e
   rw [qka hn];simp only [zf]
   cases decide (qc2 a0.Shares[n] = 0) with
   | true =>
    simp only [cond_true, Bool.true_and];rw [cond_eq_ite]
    split <;> exact j3 _
   | false =>
    simp only [cond_false, Bool.false_and];exact j3 _
  ·exact ⟨_, rfl⟩
termination_by k => k
theorem q5a (a0 : S5036) (x : Int) : ∃ r, qbu a0 x = some r := by
 unfold qbu;exact q0x a0 (((List.length a0.Shares : Int) - 0).toNat) 0 x (by omega)
theorem q0y (a0 : S5036) : ∀ (k n : Nat) (x : Int), a0.Leases.length ≤ k + n → ∃ r, vg a0 (k + 1) x ((n : Nat) : Int) = some r
 | k, n, x, hk => by
  have next : ∀ (k' : Nat), k = k' + 1 → ∀ e : Int, ∃ r, qcu (fun z0_ z1_ => vg a0 k z0_ z1_) ((n : Nat) : Int) e = some r := by
   rintro k' rfl e;exact q0y a0 k' (n + 1) e (by omega)
  rw [vg, cond_eq_ite]
  split
  ·rename_i c
   have c0 : ((n : Nat) : Int) < (a0.Leases.length : Int) := by
    rw [Bool.and_eq_true] at c; exact of_decide_eq_true c.1
   have hn : n < a0.Leases.length := by omega
   obtain ⟨k', rfl⟩ : ∃ k', k = k' + 1 := ⟨k - 1, by omega⟩;rw [qka hn];simp only [zf]
   by_cases h0 : 0 < n
   ·have e1 : ixO a0.Leases (((n : Nat) : Int) - 1) = some (a0.Leases[n - 1]'(by omega)) := by
     rw [show ((n : Nat) : Int) - 1 = ((n - 1 : Nat) : Int) by omega, qka (by omega)]
    rw [e1]
    cases ((decide ((s89 [(qf2 a0.Leases[n]), (qf3 a0 a0.Leases[n])]) = 0)) && (decide (0 < ((n : Nat) : Int)))) with
    | true =>
     simp only [cond_true, Bool.true_and];rw [cond_eq_ite]
     split <;> exact next k' rfl _
    | false =>
     simp only [cond_false, Bool.false_and];exact next k' rfl _
   ·rw [decide_eq_false (show ¬ (0 : Int) < ((n : Nat) : Int) by omega), Bool.and_false];simp only [cond_false, Bool.false_and];exact next k' rfl _
  ·rw [cond_eq_ite]
   split <;> exact q5a a0 _
termination_by k => k
theorem t77 (a0 : S5036) : ∃ r, qoo a0 = some r := by
 have j5 : ∀ e, ∃ r, qam a0 e = some r := fun e => by
  unfold qam;exact q0y a0 (((List.length a0.Leases : Int) - 0).toNat) 0 e (by omega)
 unfold qoo;rw [cond_eq_ite]
 split <;> exact j5 _
theorem q0z (a0 : S5025) (hl : a0.Waiting.length ≤ 1000) : ∀ (t : List S5072) (k : Nat), a0.Waiting.drop k = t → ∃ r, kq a0 t k = some r
 | [], k, _ => ⟨0, rfl⟩
 | y :: t, k, hd => by
  obtain ⟨h1, h2, h3⟩ := qdr hd
  have j1 : ∀ e : Int, ∃ r, qby (fun k_ => kq a0 t k_) k e = some r := fun e => by
   unfold qby;rw [cond_eq_ite]
   split
   ·exact ⟨_, rfl⟩
   ·exact q0z a0 hl t (k + 1) h2
  have j2 : ∀ e : Int, ∃ r, qbz (fun k_ => kq a0 t k_) a0 k y e = some r := fun e => by
   unfold qbz
   by_cases h0 : 0 < k
   ·have e1 : ixO a0.Waiting (IntKind.i64.wrap (((k : Nat) : Int) - 1)) = some (a0.Waiting[k - 1]'(by omega)) := by
     rw [wrap_i64 (by unfold I64; omega), show ((k : Nat) : Int) - 1 = ((k - 1 : Nat) : Int) by omega, qka (by omega)]
    rw [e1]
    cases ((decide (e = 0)) && (decide (0 < ((k : Nat) : Int)))) with
    | true =>
     simp only [cond_true, zf, Bool.true_and];rw [cond_eq_ite]
     split <;> exact j1 _
    | false =>
     simp only [cond_false, zf, Bool.false_and];exact j1 _
   ·rw [decide_eq_false (show ¬ (0 : Int) < ((k : Nat) : Int) by omega), Bool.and_false];simp only [cond_false, zf, Bool.false_and];exact j1 _
  rw [kq, cond_eq_ite]
  split <;> exact j2 _
theorem q00 (a0 : S5025) : ∀ (t : List S5036) (k : Nat), ∃ r, vq a0 t k = some r
 | [], k => by
  rw [vq, cond_eq_ite]
  split
  ·exact ⟨_, rfl⟩
  ·rename_i c
   have c : ¬ (64 : Int) < (a0.Waiting.length : Int) := by simpa using c
   exact q0z a0 (by omega) _ 0 rfl
 | y :: t, k => by
  have j3 : ∀ e : Int, ∃ r, qbx (fun k_ => vq a0 t k_) k e = some r := fun e => by
   unfold qbx;rw [cond_eq_ite]
   split
   ·exact ⟨_, rfl⟩
   ·exact q00 a0 t (k + 1)
  obtain ⟨r, hr⟩ := t77 y;rw [vq, hr];simp only [zf];rw [cond_eq_ite]
  split <;> exact j3 _
theorem t35 (a0 : S5025) : ∃ r, qqb a0 = some r := by
 unfold qqb;rw [cond_eq_ite]
 split
 ·exact ⟨_, rfl⟩
 ·exact q00 a0 _ 0
theorem t06 (a0 : List S2062) (a1 : S5025) : ∃ r, qmv a0 a1 = some r := by
 unfold qmv;obtain ⟨r, hr⟩ := t35 a1;rw [hr]
 cases ((qtd (qg8 a0) 2) && (decide ((qmu (qg8 a0)) = 0))) && (qj6 a1) <;> exact ⟨_, rfl⟩
theorem qte (a0 : List S2062) (a1 : S5025) : qvk a0 a1 = some true := qtc (t06 a0 a1)
end Go.Sim
